/-
  Rlp: plain laws: numbers and their bytes.
-/
import Derived.Test.YtoibaecagklkaaaGreatDoorMk
import Derived.Test.YtoibaecagklkaaaGreatDoorMj
namespace Go.Proofs.YtoibaecagklkaaaGreatDoor
open Go Sx
set_option maxRecDepth 20000
theorem jg {x y:List UInt8}{i:Int}(h0:0<=i)(h:i<x.length):ai (x++y) i=ai x i:=by
 unfold ai
 rw[List.getD_eq_getElem?_getD,List.getD_eq_getElem?_getD,List.getElem?_append_left (by omega)]
theorem gO (b:UInt8)(l:List UInt8):ai (b::l) 0=(b.toNat:Int):=rfl
theorem sZ (b c:UInt8)(l:List UInt8):ai (b::c::l) 1=(c.toNat:Int):=rfl
theorem ofNat_toNat {n:Int}(h0:0<=n)(h:n<256):((UInt8.ofNat n.toNat).toNat:Int)=n:=by
 rw[UInt8.toNat_ofNat'];omega
theorem oy {k:Nat}{n:Int}(h:n<=0):AF k n=[]:=by
 cases k with
 | zero=>rfl
 | succ k=>unfold AF;rw[if_neg (by omega)]
theorem w8 {k:Nat}{n:Int}(h:0<n):AF (k+1) n=AF k (n / 256)++[UInt8.ofNat (n% 256).toNat]:=by
 conv=>lhs;unfold AF
 rw[if_pos h]
theorem JH: ∀(k:Nat) (n:Int),0<=n->n<256^ k->num (AF k n)=n
 | 0,n,h0,h=>by
   have:n=0:=by simp at h;omega
   subst this;rfl
 | k+1,n,h0,h=>by
   by_cases hp:0<n
   ·rw[Int.pow_succ] at h
    rw[w8 hp,mj,JH k (n / 256) (by omega) (by omega),ofNat_toNat (by omega) (by omega)]
    omega
   ·have:n=0:=by omega
    subst this;rw[oy (Int.le_refl _)];rfl
theorem oN {x:List UInt8}{b:UInt8}(h:x≠[]):ai (x++[b]) 0=ai x 0:=by
 have:=List.length_pos_iff.2 h
 exact jg (Int.le_refl _) (by omega)
theorem Gi: ∀(k:Nat) (n:Int),0<n->n<256^ k->AF k n≠[]/\ai (AF k n) 0≠0
 | 0,n,h0,h=>by simp at h;omega
 | k+1,n,h0,h=>by
   rw[Int.pow_succ] at h
   rw[w8 h0]
   refine⟨by simp,?_⟩
   by_cases hp:0<n / 256
   ·obtain⟨h1,h2⟩:=Gi k (n / 256) hp (by omega)
    rw[oN h1];exact h2
   ·rw[oy (by omega),List.nil_append,gO,ofNat_toNat (by omega) (by omega)]
    omega
theorem Gu: ∀(n:Nat) (l:List UInt8),l.length<=n->ai l 0≠0->0<num l
 | 0,l,hn,h=>by
   have:l=[]:=List.length_eq_zero_iff.1 (by omega)
   subst this;exact absurd rfl h
 | n+1,l,hn,h=>by
   rcases List.eq_nil_or_concat l with rfl | ⟨r,b,rfl⟩
   ·exact absurd rfl h
   ·rw[List.concat_eq_append] at h hn ⊢
    rw[mj]
    by_cases hr:r=[]
    ·subst hr
     rw[List.nil_append,gO] at h
     have:num []=0:=rfl
     rw[this]
     omega
    ·rw[oN hr] at h
     have h2:=Gu n r (by simp at hn;omega) h
     omega
theorem TK (l:List UInt8)(h:ai l 0≠0):0<num l:=Gu l.length l (Nat.le_refl _) h
theorem Nr: ∀(k:Nat) (l:List UInt8),l.length<=k->(l=[]∨ai l 0≠0)->AF k (num l)=l
 | 0,l,h,_=>by
   have:l=[]:=List.length_eq_zero_iff.1 (by omega)
   subst this;rfl
 | k+1,l,h,hl=>by
   rcases List.eq_nil_or_concat l with rfl | ⟨r,b,rfl⟩
   ·exact oy (Int.le_refl _)
   ·rw[List.concat_eq_append] at hl h ⊢
    have hne:ai (r++[b]) 0≠0:=by
     rcases hl with hl | hl
     ·simp at hl
     ·exact hl
    have hp:=TK _ hne
    have hb:=b.toNat_lt
    rw[w8 hp]
    rw[mj] at hp ⊢
    have e1:(num r*256+(b.toNat:Int)) / 256=num r:=by omega
    have e2:((num r*256+(b.toNat:Int))% 256).toNat=b.toNat:=by omega
    rw[e1,e2,UInt8.ofNat_toNat]
    congr 1
    refine Nr k r (by simp at h;omega) ?_
    by_cases hr:r=[]
    ·exact .inl hr
    ·rw[oN hr] at hne;exact .inr hne
theorem AR: ∀(j k:Nat) (n:Int),n<256^ j->(AF k n).length<=j
 | 0,k,n,h=>by rw[oy (by simp at h;omega)];simp
 | j+1,0,n,h=>by simp[AF]
 | j+1,k+1,n,h=>by
   by_cases hp:0<n
   ·rw[Int.pow_succ] at h
    rw[w8 hp]
    have:=AR j k (n / 256) (by omega)
    simp only[List.length_append,List.length_cons,List.length_nil];omega
   ·rw[oy (by omega)];simp
theorem HC {n:Int}(h0:0<=n)(h:n<18446744073709551616):num (digits n)=n:=JH 8 n h0 h
theorem EW {n:Int}(h0:0<n)(h:n<18446744073709551616):digits n≠[]/\ai (digits n) 0≠0:=Gi 8 n h0 h
theorem KO {l:List UInt8}(h:l.length<=8)(h2:l=[]∨ai l 0≠0):digits (num l)=l:=Nr 8 l h h2
theorem DM {n:Int}(h:n<16777216):(digits n).length<=3:=AR 3 8 n h
theorem xC {base:Int}{n:Nat}(h:n<=55):bJ base n=[UInt8.ofNat (base+n).toNat]:=if_pos h
theorem A3 {base:Int}{n:Nat}(h: ¬ n<=55):bJ base n=UInt8.ofNat (base+55+(digits n).length).toNat::digits n:=if_neg h
theorem JD {s:List UInt8}{base n:Int}(hb:base=128∨base=192)(h0:0<=n)(h:n<64)(h1:ai s 0=base+n):lead s=n/\¬ ai s 0<128/\(ai s 0<192↔base=128):=by
 unfold lead
 rcases hb with rfl | rfl
 ·rw[if_pos (by omega)];omega
 ·rw[if_neg (by omega)];omega
structure rR (base:Int)(n:Nat)(s d t:List UInt8):Prop where
 eq:s=UInt8.ofNat (base+55+d.length).toNat::(d++t)
 num:num d=n
 hd:ai d 0≠0
 len:1<=d.length/\d.length<=3
theorem Sq {base:Int}{n:Nat}(h: ¬ n<=55)(h2:n<=1048576)(t:List UInt8):rR base n (bJ base n++t) (digits n) t:=by
 have h1:=EW (n:=n) (by omega) (by omega)
 have h3:=List.length_pos_iff.2 h1.1
 exact⟨by rw[A3 h];rfl,HC (by omega) (by omega),h1.2,by omega,DM (by omega)⟩
theorem rR.WG {base:Int}{n:Nat}{s d t:List UInt8}(hb:base=128∨base=192)(h:rR base n s d t):ai s 0=base+55+d.length/\lead s=55+d.length/\¬ ai s 0<128/\(ai s 0<192↔base=128):=by
 have hl:=h.len
 have h0:ai s 0=base+55+d.length:=by
  rw[h.eq,gO,ofNat_toNat (by omega) (by omega)]
 obtain⟨h1,h2,h3⟩:=JD (s:=s) (base:=base) (n:=55+d.length) hb (by omega) (by omega) (by omega)
 exact⟨h0,h1,h2,h3⟩
theorem rR.part' {base:Int}{n:Nat}{s d t:List UInt8}(h:rR base n s d t):part s (d.length+1)=n/\ai s 1≠0:=by
 have hl:=h.len
 constructor
 ·unfold part
  rw[h.eq]
  have e:((d.length:Int)+1 - 1).toNat=d.length:=by omega
  rw[e,List.drop_one,List.tail_cons,List.take_left]
  exact h.num
 ·rw[h.eq]
  have h2:=h.hd
  match d,hl with
  | c::d,_ =>
    rw[gO] at h2
    rw[List.cons_append,sZ]
    exact h2
theorem rR.cut {base:Int}{n:Nat}{s d t:List UInt8}(hb:base=128∨base=192)(hn:55<n)(hn2:n<=1048576)(h:rR base n s d t):bE s=decide (n<=t.length)/\cQ s=decide (base=192)/\aa s=t.take n/\aE s=t.drop n:=by
 obtain⟨b0,l1,l2,l3⟩:=h.WG hb
 obtain⟨p1,p2⟩:=h.part'
 have hl:=h.len
 have e1:lead s - 54=d.length+1:=by omega
 have hs:s.length=1+d.length+t.length:=by rw[h.eq];simp;omega
 have hlen:iM s (lead s - 54)=true:=gj.2 (by rw[e1,p1];exact⟨by omega,p2,by omega,by omega⟩)
 rw[e1] at hlen
 obtain⟨c1,c2⟩:=kD (s:=s) l2 (by omega)
 refine⟨?_,?_,?_,?_⟩
 ·rw[Bool.eq_iff_iff,dX]
  have hne:s≠[]:=by rw[h.eq];simp
  have hL:55<lead s:=by omega
  simp only[hne,ne_eq,not_false_eq_true,l2,hL,hlen,e1,p1,true_and,false_or,not_true_eq_false,false_and,or_false,decide_eq_true_eq]
  omega
 ·unfold cQ
  rcases hb with rfl | rfl
  ·have:=l3.2 rfl;simp;omega
  ·simp;omega
 ·rw[c1,e1,p1,h.eq]
  have e:((d.length:Int)+1).toNat=d.length+1:=by omega
  rw[e,List.drop_succ_cons,List.drop_left,Int.toNat_natCast]
 ·rw[c2,e1,p1,h.eq]
  have e:((d.length:Int)+1+n).toNat=d.length+n+1:=by omega
  rw[e,List.drop_succ_cons,← List.drop_drop,List.drop_left]
theorem K5 {base:Int}{n:Nat}{s t:List UInt8}(hb:base=128∨base=192)(hn:n<=55)(h:s=UInt8.ofNat (base+n).toNat::t) :
  (bE s=true↔n<=t.length/\¬ (base=128/\n=1/\ai t 0<128))/\cQ s=decide (base=192)/\aa s=t.take n/\aE s=t.drop n:=by
 have h0:ai s 0=base+n:=by
  rw[h,gO,ofNat_toNat (by omega) (by omega)]
 obtain⟨l1,l2,l3⟩:=JD (s:=s) (base:=base) (n:=n) hb (by omega) (by omega) h0
 have hs:s.length=1+t.length:=by rw[h];simp;omega
 obtain⟨c1,c2⟩:=nC (s:=s) l2 (by omega)
 have hb1:0<t.length->ai s 1=ai t 0:=fun hp=>by
  rw[h]
  match t,hp with
  | c::t,_=>rw[sZ,gO]
 refine⟨?_,?_,?_,?_⟩
 ·rw[dX]
  have hne:s≠[]:=by rw[h];simp
  have hL: ¬ (55:Int)<n:=by omega
  simp only[hne,ne_eq,not_false_eq_true,l2,hL,true_and,false_or,false_and,l1,l3]
  constructor
  ·rintro⟨a,b⟩
   refine⟨by omega,fun⟨x,y,z⟩=>b ⟨x,by omega,by rw[hb1 (by omega)];exact z⟩⟩
  ·rintro⟨a,b⟩
   refine⟨by omega,fun⟨x,y,z⟩=>b ⟨x,by omega,by rw[hb1 (by omega)] at z;exact z⟩⟩
 ·unfold cQ
  rcases hb with rfl | rfl
  ·have:=l3.2 rfl;simp;omega
  ·simp;omega
 ·rw[c1,l1,h,Int.toNat_natCast];rfl
 ·rw[c2,l1,h]
  have e:(1+(n:Int)).toNat=n+1:=by omega
  rw[e,List.drop_succ_cons]
theorem Ke {base:Int}{x:List UInt8}(hb:base=128∨base=192)(hx:x.length<=1048576)(h1: ¬ (base=128/\x.length=1/\ai x 0<128))(rest:List UInt8) :
  bE (bJ base x.length++x++rest)=true/\cQ (bJ base x.length++x++rest)=decide (base=192)/\aa (bJ base x.length++x++rest)=x/\aE (bJ base x.length++x++rest)=rest:=by
 rw[List.append_assoc]
 by_cases hn:x.length<=55
 ·obtain⟨g1,g2,g3,g4⟩:=K5 (s:=bJ base x.length++(x++rest)) (t:=x++rest) hb hn (by rw[xC hn];rfl)
  refine⟨g1.2 ⟨by simp,fun⟨a,b,c⟩=>h1 ⟨a,b,?_⟩⟩,g2,by rw[g3,List.take_left],by rw[g4,List.drop_left]⟩
  rwa [jg (Int.le_refl _) (by omega)] at c
 ·obtain⟨g1,g2,g3,g4⟩:=(Sq (base:=base) hn hx (x++rest)).cut hb (by omega) hx
  exact⟨by rw[g1];simp,g2,by rw[g3,List.take_left],by rw[g4,List.drop_left]⟩
theorem zH {b:List UInt8}(h:b.length=1/\ai b 0<128):ax b=b:=if_pos h
theorem FJ {b:List UInt8}(hb:b.length<=1048576)(rest:List UInt8):bE (ax b++rest)=true/\cQ (ax b++rest)=false/\aa (ax b++rest)=b/\aE (ax b++rest)=rest:=by
 by_cases h:b.length=1/\ai b 0<128
 ·rw[zH h]
  match b,h with
  | [c],h =>
    have h0:ai ([c]++rest) 0<128:=h.2
    obtain⟨g1,g2,g3⟩:=jT h0
    exact⟨dX.2 ⟨by simp,.inl h0⟩,g1,by rw[g2];rfl,by rw[g3];rfl⟩
 ·rw[mz h]
  exact Ke (base:=128) (.inl rfl) hb (fun x=>h x.2) rest
end Go.Proofs.YtoibaecagklkaaaGreatDoor
namespace Go.Proofs.YtoibaecagklkaaaGreatDoor.Sx
open Go
theorem JS {P:Program}{f:FuncId}{fn:Func}(hf:P.funcs[f]?=some fn) (hn:(fn.name== "runtime.NumGoroutine")=false) (hb:fn.body.isSome=true) {n:Nat} {spec:List SV->Option (Prop×c6)}
  (h: ∀ args p a,spec args=some (p,a)->p->∃ cfg args',Good P cfg/\(∀ E,SV.vals E args'=SV.vals E args)/\SV.ep 0 args'=true/\a.Ok/\aA (dR P (calling P cfg n) [] vL (cfg.br f) cfg.rounds fn args' [] 0 (fun v m _=>a.fit v m))):aB P f (cE spec):=by
 intro args m nx K hk hwf hargs Γ E w hs
 unfold cE at hk
 split at hk
 ·rename_i p a hr
  obtain⟨hp,hk⟩:=hk
  obtain⟨cfg,args',hg,e,h1,h2,h3⟩:=h _ _ _ hr hp
  have hc:=de hg hf hn hb h3 rfl h1 (aJ.none w hs.Hi)
  rw[SV.qe h1 (fun _=>0) E,e,nE] at hc
  refine dZ hf hn hb (hc.mono ?_)
  rintro e w' ⟨v,rfl,E',sv,m',nx',_,_,g3,g4,g5⟩
  refine⟨v,rfl,?_⟩
  cases sv with
  | none=>exact g5.elim
  | some u=>rw[g3 u rfl];exact c6.told hs hwf g4 h2 g5 hk
 ·exact hk.elim
theorem dD {P:Program}{f:FuncId}{spec:List SV->Option (Prop×SV)}(h:aB P f (cE fun args=>(spec args).map fun p=>(p.1,.ret p.2))):aB P f (aU spec):=by
 intro args m nx K hk
 refine h args m nx K ?_
 unfold aU at hk
 unfold cE
 split at hk
 ·rename_i p r hr
  simp only[hr,Option.map_some]
  exact hk
 ·exact hk.elim
end Go.Proofs.YtoibaecagklkaaaGreatDoor.Sx
namespace Go.Proofs.YtoibaecagklkaaaGreatDoor
open Go Sx
set_option maxRecDepth 20000
structure dw (n:Nat)(t:Nat->Bool)(i:Nat):Prop where
 le:i<=n
 all: ∀ j,j<i->t j=true
noncomputable def zE (tmp n:Nat)(t:Nat->Bool):bC :=
 {α:=Nat,pre:=fun _ i=>dw n t i,nY:=fun _ i=>n - i,fresh:=0,slots:=fun _ i=>[(tmp,.int .i64 false i)],mem:=fun _ _=>[]}
def CY (p:List UInt8)(i:Nat):Bool:=!decide (15<ai p i)
def fB (p:List UInt8):Bool:=(List.range p.length).all (CY p)
noncomputable def Ry (p:List UInt8):ff:={cg with cI:=fun f=>aG f zR,br:=fun f=>if f=169 then [(2,always (zE 6 p.length (CY p)))] else []}
theorem UN (p:List UInt8):Sx.Good Tryz.prog (Ry p):=.of bS mK bt
def jw (k:List UInt8)(j:Nat):Int:=if j% 2=0 then ai k (j / 2) / 16 else ai k (j / 2)% 16
def az (k:List UInt8):List UInt8:=cO (jw k) 0 (2*k.length)
noncomputable def Ss (k:List UInt8):bC :=
 {α:=Nat×Nat,pre:=fun _ x=>x.1<=k.length/\2*x.1<=x.2,nY:=fun _ x=>k.length - x.1,fresh:=1,slots:=fun st x=>[(11,.int .i64 false x.1),(3,.bw st.nx 1 false 0 (2*x.1) x.2)],
  mem:=fun st x=>[(st.nx,.rows false (2*x.1) [.int .u8 (jw k)] false x.2 5)]}
noncomputable def Na (k:List UInt8):ff:={cg with cI:=fun f=>aG f zR,br:=fun f=>if f=58 then [(3,always (Ss k))] else []}
theorem UT (k:List UInt8):Sx.Good Tryz.prog (Na k):=.of bS mK bt
def gb (p:List UInt8)(j:Nat):Int:=bitsOf .or (ai p (2*(j:Int))*16% 256) (ai p (2*(j:Int)+1))
def bF (p:List UInt8):List UInt8:=cO (gb p) 0 (p.length / 2)
noncomputable def Q8 (p:List UInt8):bC :=
 {α:=Nat×(Nat->Int),pre:=fun _ x=>x.1<=p.length / 2/\∀ j,j<x.1->x.2 j=gb p j,nY:=fun _ x=>p.length / 2 - x.1,fresh:=0,slots:=fun _ x=>[(11,.int .i64 false x.1)],
  mem:=fun st x=>match slot st.tmps 3 with
   | some (.bw k _ _ _ _ _)=>(match st.m.get k with
     | some (.rows z n _ ro tot ty)=>[(k,.rows z n [.int .u8 x.2] ro tot ty)]
     | _=>[])
   | _=>[]}
noncomputable def NV (p:List UInt8):ff:={cg with cI:=fun f=>aG f zR,br:=fun f=>if f=170 then [(3,always (Q8 p))] else []}
theorem VH (p:List UInt8):Sx.Good Tryz.prog (NV p):=.of bS mK bt
def e9 (leaf odd:Bool):Int:=(bif leaf then 2 else 0)+(bif odd then 1 else 0)
theorem N1 (p:List UInt8)(R:SV->Prop):VC.holds (dm (Ry p) 169 Tryz.f169 [.str false p] R)=(((∃(u2:Nat),dw p.length (CY p) u2/\0=(u2:Int)/\True)/\∀(u1:Nat),dw p.length (CY p) u1->(decide ((u1:Int)<(p.length:Int))=true->(0<=(u1:Int)/\(u1:Int)<(p.length:Int))/\(decide (15<ai p (u1:Int))=true->R (SV.bool true false))/\(decide (15<ai p (u1:Int))=false->((-9223372036854775808:Int)<=(u1:Int)+1/\(u1:Int)+1<=(9223372036854775807:Int))/\∃(u0:Nat),(dw p.length (CY p) u0/\p.length - u0<p.length - u1)/\(u1:Int)+1=(u0:Int)/\True))/\(decide ((u1:Int)<(p.length:Int))=false->R (SV.bool true true)))):=by kernel_rfl
theorem TI (k:List UInt8)(R:SV->Prop):VC.holds (dm (Na k) 58 Tryz.f58 [.str false k] R)=((((-9223372036854775808:Int)<=2*(k.length:Int)/\2*(k.length:Int)<=9223372036854775807)/\((0:Int)<=2*(k.length:Int)/\1*(2*(k.length:Int))<=140737488355328/\2*(k.length:Int)<=9223372036854775807)/\(∃(u4:Nat×Nat),(u4.fst<=k.length/\2*u4.fst<=u4.snd)/\0=(u4.fst:Int)/\((0:Nat)=(0:Nat)/\(0:Nat)=2*u4.fst/\(2*(k.length:Int)).toNat=u4.snd)/\True/\ah (SB.cells [] ((2*(k.length:Int)).toNat*1) 5) (SB.rows false (2*u4.fst) [au.int IntKind.u8 (jw k)] false u4.snd 5)/\True)/\∀(u3:Nat×Nat),u3.fst<=k.length/\2*u3.fst<=u3.snd->(decide ((u3.fst:Int)<(k.length:Int))=true->(0<=(u3.fst:Int)/\(u3.fst:Int)<(k.length:Int))/\(0<=(u3.fst:Int)/\(u3.fst:Int)<(k.length:Int))/\(0<=ai k (u3.fst:Int)/\ai k (u3.fst:Int)<=255/\(0:Int)<=(15:Int)/\(15:Int)<=(255:Int))/\((0:Nat)+2*u3.fst<=2*u3.fst/\True/\2*(2*u3.fst+2)*1<=(281474976710656:Nat)/\2*u3.fst+2<(9223372036854775808:Nat))/\u3.snd=u3.snd*1/\∀(u2:Nat),2*u3.fst+2<=u2->((-9223372036854775808:Int)<=(u3.fst:Int)+1 /\(u3.fst:Int)+1<=(9223372036854775807:Int))/\∃(u1:Nat×Nat),((u1.fst<=k.length/\2*u1.fst<=u1.snd)/\k.length - u1.fst<k.length - u3.fst)/\(u3.fst:Int)+1=(u1.fst:Int)/\((0:Nat)=(0:Nat)/\2*u3.fst+2=2*u1.fst/\u2=u1.snd)/\True/\ah (SB.rows false (2*u3.fst+2) [au.int IntKind.u8 fun(u0:Nat)=>if u0<2*u3.fst then jw k u0 else An [ai k (u3.fst:Int) / 16,bitsOf BinOp.and (ai k (u3.fst:Int)) 15] (u0 - 2*u3.fst)] false (u2*1) 5) (SB.rows false (2*u1.fst) [au.int IntKind.u8 (jw k)] false u1.snd 5)/\True)/\(decide ((u3.fst:Int)<(k.length:Int))=false->(0:Nat)+2*u3.fst<=2*u3.fst/\R (SV.str false (cO (jw k) 0 (2*u3.fst)))))):=by kernel_rfl
theorem Ow (p:List UInt8)(R:SV->Prop):VC.holds (dm (NV p) 170 Tryz.f170 [.str false p] R)=(((0<=(p.length:Int)/\(p.length:Int)<=9223372036854775807/\(0:Int)<(2:Int))/\((p.length:Int) / 2=(p.length:Int) / 2/\0<=(p.length:Int) / 2/\1*((p.length:Int) / 2)<=140737488355328/\(p.length:Int) / 2<=(9223372036854775807:Int))/\(∃(u7:Nat×(Nat->Int)),(u7.fst<=p.length / 2/\∀(u6:Nat),u6<u7.fst->u7.snd u6=gb p u6)/\0=(u7.fst:Int)/\ah (SB.rows false ((p.length:Int) / 2).toNat [au.int IntKind.u8 fun(_:Nat)=>(0:Int)] false (((p.length:Int) / 2).toNat*1) 5) (SB.rows false ((p.length:Int) / 2).toNat [au.int IntKind.u8 u7.snd] false (((p.length:Int) / 2).toNat*1) 5)/\True)/\∀(u4:Nat×(Nat->Int)),(u4.fst<=p.length / 2/\∀(u3:Nat),u3<u4.fst->u4.snd u3=gb p u3)->(decide ((u4.fst:Int)<(↑((p.length:Int) / 2).toNat:Int))=true->((-9223372036854775808:Int)<=2*(u4.fst:Int)/\2*(u4.fst:Int)<=9223372036854775807)/\((0:Int)<=2*(u4.fst:Int)/\2*(u4.fst:Int)<(p.length:Int))/\((-9223372036854775808:Int)<=2*(u4.fst:Int)/\2*(u4.fst:Int)<=9223372036854775807)/\((-9223372036854775808:Int)<=2*(u4.fst:Int)+1 /\2*(u4.fst:Int)+1<=(9223372036854775807:Int))/\((0:Int)<=2*(u4.fst:Int)+1/\2*(u4.fst:Int)+1<(p.length:Int))/\(0<=ai p (2*(u4.fst:Int))*16% (256:Int)/\ai p (2*(u4.fst:Int))*16% (256:Int)<=(255:Int)/\0<=ai p (2*(u4.fst:Int)+1)/\ai p (2*(u4.fst:Int)+1)<=255)/\(0<=(u4.fst:Int)/\(u4.fst:Int)<(↑((p.length:Int) / 2).toNat:Int))/\0+(u4.fst:Int).toNat<((p.length:Int) / 2).toNat/\((-9223372036854775808:Int)<=(u4.fst:Int)+1/\(u4.fst:Int)+1<=(9223372036854775807:Int))/\∃(u2:Nat×(Nat->Int)),((u2.fst<=p.length / 2/\∀(u1:Nat),u1<u2.fst->u2.snd u1=gb p u1)/\p.length / 2 - u2.fst<p.length / 2 - u4.fst)/\(u4.fst:Int)+1=(u2.fst:Int)/\ah (SB.rows false ((p.length:Int) / 2).toNat [au.int IntKind.u8 fun(u0:Nat)=>if u0=0+(u4.fst:Int).toNat then bitsOf BinOp.or (ai p (2*(u4.fst:Int))*16% (256:Int)) (ai p (2*(u4.fst:Int)+1))else u4.snd u0] false (((p.length:Int) / 2).toNat*1) 5) (SB.rows false ((p.length:Int) / 2).toNat [au.int IntKind.u8 u2.snd] false (((p.length:Int) / 2).toNat*1) 5)/\True) /\(decide ((u4.fst:Int)<(↑((p.length:Int) / 2).toNat:Int))=false->0+((p.length:Int) / 2).toNat<=((p.length:Int) / 2).toNat/\R (SV.str false (cO u4.snd 0 ((p.length:Int) / 2).toNat))))):=by kernel_rfl
theorem Tj (a b:Bool)(R:SV->Prop):VC.holds (dm Xa 220 Tryz.f220 [.bool false a,.bool false b] R)=(((a=true->(b=true->R (SV.int .u8 true 3))/\(b=false->(a=true->R (SV.int .u8 true 2))/\(a=false->(b=true->R (SV.int .u8 true 1))/\(b=false->R (SV.int .u8 true 0)))))/\(a=false->(a=true->R (SV.int .u8 true 2))/\(a=false->(b=true->R (SV.int .u8 true 1))/\(b=false->R (SV.int .u8 true 0)))))):=by kernel_rfl
theorem cq {l:Bool}{a b:Bool}(h:a=b):af (.bool l a) (.bool false b):=fun E=>by subst h;rfl
theorem dw.next {n:Nat}{t:Nat->Bool}{i:Nat}(h:dw n t i)(hi:(i:Int)<(n:Int))(ht:t i=true):dw n t (i+1) :=
 ⟨by omega,fun j hj=>by
  by_cases e:j=i
  ·subst e;exact ht
  ·exact h.all j (by omega)⟩
theorem dw.zero (n:Nat)(t:Nat->Bool):dw n t 0:=⟨Nat.zero_le _,fun _j hj=>absurd hj (Nat.not_lt_zero _)⟩
theorem dw.done {n:Nat}{t:Nat->Bool}{i:Nat}(h:dw n t i)(hi: ¬ (i:Int)<(n:Int)):(List.range n).all t=true:=by
 rw[List.all_eq_true]
 intro j hj
 have:=List.mem_range.1 hj
 exact h.all j (by omega)
theorem all_none {n i:Nat}{t:Nat->Bool}(hi:(i:Int)<(n:Int))(ht:t i=false):(List.range n).all t=false:=by
 rw[List.all_eq_false]
 exact⟨i,List.mem_range.2 (by omega),by rw[ht];decide⟩
theorem CH {p:List UInt8}(hp:p.length<1152921504606846976):aA (dm (Ry p) 169 Tryz.f169 [.str false p] (fun v=>af v (.bool false (fB p)))):=by
 refine aA.of_eq (N1 p _) ?_
 refine⟨⟨0,dw.zero _ _,rfl,trivial⟩,fun x hx=>⟨fun h=> ?_,fun h=> ?_⟩⟩
 ·have h:(x:Int)<(p.length:Int):=of_decide_eq_true h
  refine⟨by omega,fun g=>cq ?_,fun g=>⟨by omega,x+1,⟨hx.next h ?_,by omega⟩,by omega,trivial⟩⟩
  ·exact(all_none h (by rw[CY,g];rfl)).symm
  ·rw[CY,g];rfl
 ·have h: ¬ (x:Int)<(p.length:Int):=of_decide_eq_false h
  exact cq (hx.done h).symm
def mV:List SV->Option (Prop×SV)
 | [.str false p]=>some (p.length<1152921504606846976,.bool false (fB p))
 | _=>none
theorem Bc:aB Tryz.prog 169 (aU mV):=by
 refine dD (dA (n:=20) (fn:=Tryz.f169) Tryz.func169 (by kernel_rfl) (by kernel_rfl) ?_)
 intro args p a h hp
 unfold mV at h
 split at h
 ·injection h with h;injection h with h1 h2;subst h1;subst h2
  exact⟨_,UN _,rfl,rfl,CH hp⟩
 ·cases h
theorem WE {b:Int}(h0:0<=b)(h1:b<256):bitsOf .and b 15=b% 16:=by
 obtain⟨n,rfl⟩:=Int.eq_ofNat_of_zero_le h0
 show(((n:Int).toNat &&& (15:Int).toNat:Nat):Int)=_
 have:n &&& 15=n% 16:=Nat.and_two_pow_sub_one_eq_mod n 4
 simp only[Int.toNat_natCast]
 rw[show(15:Int).toNat=15 from rfl,this];omega
theorem Fc {z z':Bool}{n n':Nat}{f g:Nat->Int}{tot tot':Nat}{ty:TypeId}(hz:z=z')(hn:n=n')(ht:tot=tot')(h: ∀ i,i<n->f i=g i):ah (.rows z n [.int .u8 f] false tot ty) (.rows z' n' [.int .u8 g] false tot' ty):=by
 subst hz
 refine Sx.ah.A9 hn ht rfl fun i k c' hi hk=>⟨.int .u8 f,?_,?_⟩
 ·match k,hk with
  | 0,_=>rfl
 ·match k,hk with
  | 0,hk =>
    simp only[List.getElem?_cons_zero,Option.some.injEq] at hk
    subst hk
    simp only[au.at,h i hi]
theorem Mr {tot tot':Nat}{ty:TypeId}{av:List au}{z:Bool}(h:tot=tot'):ah (.cells [] tot ty) (.rows z 0 av false tot' ty):=by
 subst h
 refine ah.of rfl rfl fun _=> ?_
 refine⟨rfl,fun E o ⟨c,fr,h1,h2,_,h4⟩=>⟨c,fr,h1,fun _=>h2,by omega,h4,fun i k col hi=>absurd hi (Nat.not_lt_zero _)⟩,fun _=>rfl⟩
theorem HP (k:List UInt8)(x i:Nat)(hi:i<2*x+2)(h1: ¬ i<2*x):An [ai k (x:Int) / 16,bitsOf .and (ai k (x:Int)) 15] (i - 2*x)=jw k i:=by
 have hb:=dG k (x:Int)
 rw[WE hb.1 hb.2]
 unfold jw
 by_cases e:i=2*x
 ·subst e
  have e2:2*x / 2=x:=by omega
  rw[if_pos (by omega),show((2*x:Nat):Int) / 2=(x:Int)by omega,Nat.sub_self];rfl
 ·have e:i=2*x+1:=by omega
  subst e
  rw[if_neg (by omega),show((2*x+1:Nat):Int) / 2=(x:Int)by omega,show 2*x+1 - 2*x=1 by omega];rfl
theorem F9 {k:List UInt8}(hk:k.length<1099511627776):aA (dm (Na k) 58 Tryz.f58 [.str false k] (fun v=>af v (.str false (az k)))):=by
 refine aA.of_eq (TI k _) ?_
 refine⟨by omega,by omega,⟨(0,2*k.length),⟨Nat.zero_le _,Nat.zero_le _⟩,rfl,⟨rfl,rfl,by omega⟩,trivial,Mr (by omega),trivial⟩,fun x hx=>⟨fun h=> ?_,fun h=> ?_⟩⟩
 ·have h:(x.1:Int)<(k.length:Int):=of_decide_eq_true h
  have hb:=dG k (x.1:Int)
  refine⟨by omega,by omega,by omega,⟨by omega,trivial,by omega,by omega⟩,by omega,fun c hc=>⟨by omega,(x.1+1,c),⟨⟨by show x.1+1<=_;omega,by show 2*(x.1+1)<=c;omega⟩,by show _ - (x.1+1)<_;omega⟩,by show(x.1:Int)+1=((x.1+1:Nat):Int);omega,⟨rfl,rfl,rfl⟩,trivial,Fc rfl rfl (Nat.mul_one c) fun i hi=> ?_,trivial⟩⟩
  by_cases h1:i<2*x.1
  ·rw[if_pos h1]
  ·rw[if_neg h1];exact HP k x.1 i hi h1
 ·have h: ¬ (x.1:Int)<(k.length:Int):=of_decide_eq_false h
  have e:x.1=k.length:=by have:=hx.1;omega
  exact⟨by omega,fO (by rw[e];rfl)⟩
def pJ:List SV->Option (Prop×SV)
 | [.str false k]=>some (k.length<1099511627776,.str false (az k))
 | _=>none
theorem Gs:aB Tryz.prog 58 (aU pJ):=by
 refine dD (dA (n:=20) (fn:=Tryz.f58) Tryz.func58 (by kernel_rfl) (by kernel_rfl) ?_)
 intro args p a h hp
 unfold pJ at h
 split at h
 ·injection h with h;injection h with h1 h2;subst h1;subst h2
  exact⟨_,UT _,rfl,rfl,F9 hp⟩
 ·cases h
theorem DA {p:List UInt8}(hp:p.length<1099511627776):aA (dm (NV p) 170 Tryz.f170 [.str false p] (fun v=>af v (.str false (bF p)))):=by
 refine aA.of_eq (Ow p _) ?_
 have e:((p.length:Int) / 2).toNat=p.length / 2:=by omega
 rw[e]
 refine⟨by omega,⟨rfl,by omega,by omega,by omega⟩,⟨(0,fun _=>0),⟨Nat.zero_le _,fun j hj=>absurd hj (Nat.not_lt_zero _)⟩,rfl,ah.refl _,trivial⟩,fun x hx=>⟨fun h=> ?_,fun h=> ?_⟩⟩
 ·have h:(x.1:Int)<((p.length / 2:Nat):Int):=of_decide_eq_true h
  have b1:=dG p (2*(x.1:Int))
  have b2:=dG p (2*(x.1:Int)+1)
  refine⟨by omega,by omega,by omega,by omega,by omega,by omega,by omega,by omega,by omega,(x.1+1,fun j=>if j=x.1 then gb p x.1 else x.2 j),⟨⟨by show x.1+1<=_;omega,fun j hj=> ?_⟩,by show _ - (x.1+1)<_;omega⟩,by show(x.1:Int)+1=((x.1+1:Nat):Int);omega,?_,trivial⟩
  ·show(if j=x.1 then gb p x.1 else x.2 j)=gb p j
   by_cases ej:j=x.1
   ·rw[if_pos ej,ej]
   ·rw[if_neg ej];exact hx.2 j (by have:j<x.1+1:=hj;omega)
  ·refine Fc rfl rfl rfl fun i hi=> ?_
   simp only[Nat.zero_add,Int.toNat_natCast]
   rfl
 ·have h: ¬ (x.1:Int)<((p.length / 2:Nat):Int):=of_decide_eq_false h
  have e1:x.1=p.length / 2:=by have:=hx.1;omega
  refine⟨by omega,fO ?_⟩
  unfold bF cO
  apply List.map_congr_left
  intro j hj
  rw[List.mem_range] at hj
  rw[Nat.zero_add,hx.2 j (by omega)]
def nr:List SV->Option (Prop×SV)
 | [.str false p]=>some (p.length<1099511627776,.str false (bF p))
 | _=>none
theorem BR:aB Tryz.prog 170 (aU nr):=by
 refine dD (dA (n:=20) (fn:=Tryz.f170) Tryz.func170 (by kernel_rfl) (by kernel_rfl) ?_)
 intro args p a h hp
 unfold nr at h
 split at h
 ·injection h with h;injection h with h1 h2;subst h1;subst h2
  exact⟨_,VH _,rfl,rfl,DA hp⟩
 ·cases h
def uq:List SV->Option (Prop×SV)
 | [.bool false a,.bool false b]=>some (True,.int .u8 false (e9 a b))
 | _=>none
theorem O0:aB Tryz.prog 220 (aU uq):=by
 refine fX WL (n:=20) (fn:=Tryz.f220) Tryz.func220 (by kernel_rfl) (by kernel_rfl) ?_
 intro args p r h hp
 unfold uq at h
 split at h
 ·rename_i a b
  injection h with h;injection h with h1 h2;subst h1;subst h2
  refine⟨rfl,rfl,aA.of_eq (Tj a b _) ?_⟩
  cases a<;>cases b<;>simp[af,SV.val,e9]
 ·cases h
noncomputable def Rk:List (FuncId×PT):=(169,aU mV)::(58,aU pJ)::(170,aU nr)::(220,aU uq)::zR
theorem K1:bl Tryz.prog (fun f=>aG f Rk):=.cons Bc (aN _) (.cons Gs (aN _) (.cons BR (aN _) (.cons O0 (aN _) mK)))
noncomputable def Ge:ff:={cg with cI:=fun f=>aG f Rk}
theorem NU:Sx.Good Tryz.prog Ge:=.of bS K1 bt
def cZ (p:List UInt8)(leaf:Bool):List UInt8:=bF (UInt8.ofNat (e9 leaf (decide ((p.length:Int)% 2=1))).toNat::(bif decide ((p.length:Int)% 2=1)then p else 0::p))
def OE (p:List UInt8)(leaf:Bool):c6:=.fork (fB p) fun b=>match b with
 | true=>.ret (.aL [.str false (cZ p leaf),.bool true true])
 | false=>.ret (.aL [.str true [],.bool true false])
def eC (s:List UInt8):Bool:=decide (az s≠[])&&decide (ai (az s) 0<=3)&&(decide (ai (az s) 0% 2=1)||decide (ai (az s) 1=0))
def c8 (s:List UInt8):Bool:=decide (2<=ai (az s) 0)
def cV (s:List UInt8):List UInt8:=if ai (az s) 0% 2=1 then(az s).drop 1 else(az s).drop 2
def NP (s:List UInt8):c6:=.fork (eC s) fun b=>match b with
 | true=>.ret (.aL [.str false (cV s),.bool false (c8 s),.bool true true])
 | false=>.ret (.aL [.str true [],.bool true false,.bool true false])
theorem VI (p:List UInt8)(leaf:Bool):VC.holds (fW Ge 210 Tryz.f210 [.str false p,.bool false leaf] (OE p leaf))=((p.length<1152921504606846976/\((!fB p)=true->(fB p=true->af (SV.aL [SV.str true [],SV.bool true false]) (SV.aL [SV.str false (cZ p leaf),SV.bool true true]))/\(fB p=false->af (SV.aL [SV.str true [],SV.bool true false]) (SV.aL [SV.str true [],SV.bool true false])))/\((!fB p)=false->(0<=(p.length:Int)/\(p.length:Int)<=9223372036854775807/\(0:Int)<(2:Int))/\True/\(0<=(p.length:Int)/\(p.length:Int)<=9223372036854775807/\(0:Int)<(2:Int))/\((!decide ((p.length:Int)% 2=(1:Int)))=true->(↑(1:Nat):Int)+1<=(9223372036854775807:Int)/\(↑(2:Nat):Int)+(p.length:Int)<=9223372036854775807/\(cat (cat [UInt8.ofNat (e9 leaf (decide ((p.length:Int)% 2=(1:Int)))).toNat] [(0:UInt8)]) p).length<1099511627776/\(fB p=true->af (SV.aL [SV.str false (bF (cat (cat [UInt8.ofNat (e9 leaf (decide ((p.length:Int)% 2=(1:Int)))).toNat] [(0:UInt8)]) p)),SV.bool true true]) (SV.aL [SV.str false (cZ p leaf),SV.bool true true]))/\(fB p=false ->af (SV.aL [SV.str false (bF (cat (cat [UInt8.ofNat (e9 leaf (decide ((p.length:Int)% 2=(1:Int)))).toNat] [(0:UInt8)]) p)),SV.bool true true]) (SV.aL [SV.str true [],SV.bool true false])))/\((!decide ((p.length:Int)% 2=(1:Int)))=false->(↑(1:Nat):Int)+(p.length:Int)<=9223372036854775807/\(cat [UInt8.ofNat (e9 leaf (decide ((p.length:Int)% 2=(1:Int)))).toNat] p).length<1099511627776/\(fB p=true->af (SV.aL [SV.str false (bF (cat [UInt8.ofNat (e9 leaf (decide ((p.length:Int)% 2=(1:Int)))).toNat] p)),SV.bool true true]) (SV.aL [SV.str false (cZ p leaf),SV.bool true true]))/\(fB p=false->af (SV.aL [SV.str false (bF (cat [UInt8.ofNat (e9 leaf (decide ((p.length:Int)% 2=(1:Int)))).toNat] p)),SV.bool true true]) (SV.aL [SV.str true [],SV.bool true false])))))):=by kernel_rfl
theorem Vp (s:List UInt8):VC.holds (fW Ge 217 Tryz.f217 [.str false s] (NP s))=((fun P0:SV=>((fun P1:SV=>((fun P2:List UInt8=>((fun P3:List UInt8=>((s.length<1099511627776/\(decide (az s=[])=true->(eC s=true->af P0 P1)/\(eC s=false->af P0 P0))/\(decide (az s=[])=false->((0:Int)<=(0:Int)/\0<(↑(az s).length:Int))/\(decide (ai (az s) 0=(3:Int))=true->((0:Int)<=(1:Int)/\1<=(↑(az s).length:Int)/\(↑(az s).length:Int)<=(↑(az s).length:Int))/\(eC s=true->af (SV.aL [SV.str (false&&true&&false) P2,SV.bool true true,SV.bool true true]) P1)/\(eC s=false->af (SV.aL [SV.str (false&&true&&false) P2,SV.bool true true,SV.bool true true]) P0))/\(decide (ai (az s) 0=(3:Int))=false->(decide (ai (az s) 0=(2:Int))=true->((0:Int)<=(1:Int)/\1<(↑(az s).length:Int))/\((!decide (ai (az s) 1=(0:Int)))=true->(eC s=true->af P0 P1)/\(eC s=false->af P0 P0))/\((!decide (ai (az s) 1=(0:Int)))=false->((0:Int)<=(2:Int)/\2<=(↑(az s).length:Int)/\(↑(az s).length:Int)<=(↑(az s).length:Int))/\(eC s=true->af (SV.aL [SV.str (false&&true&&false) P3,SV.bool true true,SV.bool true true]) P1) /\(eC s=false->af (SV.aL [SV.str (false&&true&&false) P3,SV.bool true true,SV.bool true true]) P0)))/\(decide (ai (az s) 0=(2:Int))=false->(decide (ai (az s) 0=(1:Int))=true->((0:Int)<=(1:Int)/\1<=(↑(az s).length:Int)/\(↑(az s).length:Int)<=(↑(az s).length:Int))/\(eC s=true->af (SV.aL [SV.str (false&&true&&false) P2,SV.bool true false,SV.bool true true]) P1)/\(eC s=false->af (SV.aL [SV.str (false&&true&&false) P2,SV.bool true false,SV.bool true true]) P0))/\(decide (ai (az s) 0=(1:Int))=false->(decide (ai (az s) 0=(0:Int))=true->((0:Int)<=(1:Int)/\1<(↑(az s).length:Int))/\((!decide (ai (az s) 1=(0:Int)))=true->(eC s=true->af P0 P1)/\(eC s=false->af P0 P0))/\((!decide (ai (az s) 1=(0:Int)))=false->((0:Int)<=(2:Int)/\2<=(↑(az s).length:Int)/\(↑(az s).length:Int)<=(↑(az s).length:Int))/\(eC s=true->af (SV.aL [SV.str (false&&true&&false) P3,SV.bool true false,SV.bool true true]) P1)/\(eC s=false ->af (SV.aL [SV.str (false&&true&&false) P3,SV.bool true false,SV.bool true true]) P0)))/\(decide (ai (az s) 0=(0:Int))=false->(eC s=true->af P0 P1)/\(eC s=false->af P0 P0))))))))) (bz (az s) (some (Operand.const (Value.int IntKind.i64 2))) none 2 (↑(az s).length:Int)))) (bz (az s) (some (Operand.const (Value.int IntKind.i64 1))) none 1 (↑(az s).length:Int)))) (SV.aL [SV.str false (cV s),SV.bool false (c8 s),SV.bool true true]))) (SV.aL [SV.str true [],SV.bool true false,SV.bool true false])):=by kernel_rfl
theorem sK {a b:List UInt8}{i:Int}(h:i<=a.length):part (a++b) i=part a i:=by
 unfold part
 by_cases h1:1<=i
 ·have hl:1<=a.length:=by omega
  rw[List.drop_append_of_le_length hl,List.take_append_of_le_length (by simp only[List.length_drop];omega)]
 ·have:(i - 1).toNat=0:=by omega
  rw[this];rfl
theorem Rg {a b:List UInt8}{i:Int}(h2:2<=i)(h:iM a i=true):iM (a++b) i=true:=by
 obtain⟨h1,h3,h4,h5⟩:=gj.1 h
 refine gj.2 ⟨by simp only[List.length_append];omega,?_,?_,?_⟩
 ·rw[jg (by omega) (by omega)];exact h3
 ·rw[sK h1];exact h4
 ·rw[sK h1];exact h5
theorem DE {a:List UInt8}(h:bE a=true)(b:List UInt8):bE (a++b)=true/\cQ (a++b)=cQ a/\aa (a++b)=aa a/\aE (a++b)=aE a++b:=by
 obtain⟨h0,hc⟩:=dX.1 h
 have hl:=List.length_pos_iff.2 h0
 have e0:ai (a++b) 0=ai a 0:=jg (Int.le_refl _) (by omega)
 have el:lead (a++b)=lead a:=by unfold lead;rw[e0]
 have eL:cQ (a++b)=cQ a:=by unfold cQ;rw[e0]
 have hne:a++b≠[]:=by simp[h0]
 refine⟨?_,eL,?_⟩
 ·refine dX.2 ⟨hne,?_⟩
  rw[e0,el]
  rcases hc with hA | ⟨hA,hB,hC,hD⟩ | ⟨hA,hB,hC,hD⟩
  ·exact .inl hA
  ·have hq:=(gj.1 hC).1
   exact .inr (.inl ⟨hA,hB,Rg (by omega) hC,by rw[sK hq];simp only[List.length_append];omega⟩)
  ·exact .inr (.inr ⟨hA,hB,by simp only[List.length_append];omega,fun⟨x,y,z⟩=>hD ⟨x,y,by rwa [jg (by omega) (by omega)] at z⟩⟩)
 ·rcases hc with hA | ⟨hA,hB,hC,hD⟩ | ⟨hA,hB,hC,hD⟩
  ·obtain⟨_,k2,k3⟩:=jT hA
   obtain⟨_,j2,j3⟩:=jT (s:=a++b) (by rw[e0];exact hA)
   rw[k2,k3,j2,j3]
   exact⟨List.take_append_of_le_length (by omega),List.drop_append_of_le_length (by omega)⟩
  ·have hq:=(gj.1 hC).1
   have hp:=pV a (lead a - 54)
   obtain⟨k2,k3⟩:=kD hA hB
   obtain⟨j2,j3⟩:=kD (s:=a++b) (by rw[e0];exact hA) (by rw[el];exact hB)
   rw[k2,k3,j2,j3,el,sK hq]
   constructor
   ·rw[List.drop_append_of_le_length (by omega),List.take_append_of_le_length (by simp only[List.length_drop];omega)]
   ·rw[List.drop_append_of_le_length (by omega)]
  ·have hn:=Dh hA
   obtain⟨k2,k3⟩:=nC hA hB
   obtain⟨j2,j3⟩:=nC (s:=a++b) (by rw[e0];exact hA) (by rw[el];exact hB)
   rw[k2,k3,j2,j3,el]
   have e1:(1:Int).toNat=1:=rfl
   rw[e1]
   constructor
   ·rw[List.drop_append_of_le_length (by omega),List.take_append_of_le_length (by simp only[List.length_drop];omega)]
   ·rw[List.drop_append_of_le_length (by omega)]
theorem HM {a:List UInt8}(h:bE a=true)(b:List UInt8):ry (a++b)=ry a:=by
 unfold ry
 rw[(DE h b).2.2.2,List.length_append,List.length_append]
 have:a.length+b.length - ((aE a).length+b.length)=a.length - (aE a).length:=by omega
 rw[this,List.take_append_of_le_length (by omega)]
theorem Walk.app {a:List UInt8}(b:List UInt8): ∀ {k:Nat},Walk a k->aT (a++b) k=aT a k++b
 | 0,_=>by simp only[aT]
 | k+1,h=>by
   have h1:=Walk.app b (k:=k) (fun j hj=>h j (by omega))
   simp only[aT]
   rw[h1,(DE (h k (by omega)).2 b).2.2.2]
theorem Walk.take {a:List UInt8}{k j:Nat}(h:Walk a k)(hj:j<=k):Walk a j:=fun i hi=>h i (by omega)
theorem Walk.join {a:List UInt8}(b:List UInt8){k:Nat}(h:Walk a k):Walk (a++b) k:=fun j hj=>by
 rw[(h.take (j:=j) (by omega)).app b]
 obtain⟨h1,h2⟩:=h j hj
 exact⟨by simp[h1],(DE h2 b).1⟩
theorem Walk.item {a:List UInt8}(b:List UInt8){k j:Nat}(h:Walk a k)(hj:j<k):aj (a++b) j=aj a j:=by
 unfold aj
 rw[(h.take (j:=j) (by omega)).app b,HM (h j hj).2]
theorem I8 (n:Nat): ∀(s:List UInt8),s.length<=n->c9 s=true->Walk s (bB s)/\aT s (bB s)=[]:=by
 have nil: ∀ s:List UInt8,s=[]->Walk s (bB s)/\aT s (bB s)=[]:=by
  intro s hs
  rw[hs,iW.2]
  exact⟨fun j hj=>absurd hj (Nat.not_lt_zero _),by simp only[aT]⟩
 induction n with
 | zero=>exact fun s h _=>nil s (List.length_eq_zero_iff.1 (by omega))
 | succ n ih =>
   intro s h hb
   by_cases hne:s=[]
   ·exact nil s hne
   ·have hc:bE s=true:=by
     cases hc:bE s with
     | false=>rw[B7 hne hc] at hb;cases hb
     | true=>rfl
    obtain⟨h1,h2⟩:=uJ hne hc
    have hl:=yT hc
    obtain⟨h3,h4⟩:=ih (aE s) (by omega) (by rw[← h1];exact hb)
    rw[h2]
    refine⟨fun j hj=> ?_,by rw[jf];exact h4⟩
    cases j with
    | zero=>simp only[aT];exact⟨hne,hc⟩
    | succ j=>rw[jf];exact h3 j (by omega)
theorem xZ (s:List UInt8)(k:Nat): ∀ j,aT s (k+j)=aT (aT s k) j
 | 0=>by simp only[aT,Nat.add_zero]
 | j+1=>by rw[← Nat.add_assoc,aT,xZ s k j];simp only[aT]
theorem Ic {a:List UInt8}(h:c9 a=true)(b:List UInt8):c9 (a++b)=c9 b/\bB (a++b)=bB a+bB b /\
  (∀ j,j<bB a->aj (a++b) j=aj a j)/\∀ j,aj (a++b) (bB a+j)=aj b j:=by
 obtain⟨h1,h2⟩:=I8 a.length a (Nat.le_refl _) h
 have h3:=h1.app b
 rw[h2,List.nil_append] at h3
 obtain⟨h4,h5⟩:=(h1.join b).items
 rw[h3] at h4 h5
 refine⟨h4,by omega,fun j hj=>h1.item b hj,fun j=> ?_⟩
 unfold aj
 rw[xZ,h3]
theorem Oa {s:List UInt8}(h:bE s=true)(h2:aE s=[]):c9 s=true/\bB s=1/\aj s 0=s:=by
 have hne:=(dX.1 h).1
 obtain⟨g1,g2⟩:=uJ hne h
 rw[h2] at g1 g2
 refine⟨by rw[g1];exact iW.1,by rw[g2,iW.2],?_⟩
 unfold aj ry
 simp only[aT]
 rw[h2,List.length_nil,Nat.sub_zero,List.take_length]
theorem MH (a:List UInt8)(r:List (List UInt8)):flat (a::r)=a++flat r:=by simp[flat]
theorem z8: ∀(l:List (List UInt8)),(∀ x∈ l,bE x=true/\aE x=[])->c9 (flat l)=true/\bB (flat l)=l.length/\∀(j:Nat) (x:List UInt8),l[j]?=some x->aj (flat l) j=x
 | [],_=>⟨iW.1,iW.2,fun j x h=>by simp at h⟩
 | a::r,h=>by
   obtain⟨h1,h2⟩:=h a (by simp)
   obtain⟨o1,o2,o3⟩:=Oa h1 h2
   obtain⟨g1,g2,g3⟩:=z8 r fun x hx=>h x (by simp[hx])
   obtain⟨j1,j2,j3,j4⟩:=Ic o1 (flat r)
   rw[MH]
   refine⟨by rw[j1];exact g1,by rw[j2,o2,g2,List.length_cons];omega,fun j x hx=> ?_⟩
   cases j with
   | zero =>
     simp only[List.getElem?_cons_zero,Option.some.injEq] at hx
     rw[j3 0 (by omega),o3,hx]
   | succ j =>
     have:=j4 j
     rw[o2] at this
     rw[Nat.add_comm j 1,this]
     exact g3 j x (by simpa using hx)
theorem Q1 {l:List (List UInt8)}(hl:(flat l).length<=1048576)(rest:List UInt8) :
  bE (bJ 192 (flat l).length++flat l++rest)=true/\cQ (bJ 192 (flat l).length++flat l++rest)=true/\aa (bJ 192 (flat l).length++flat l++rest)=flat l/\aE (bJ 192 (flat l).length++flat l++rest)=rest:=by
 obtain⟨h1,h2,h3,h4⟩:=Ke (.inr rfl) hl (fun h=>by omega) rest
 exact⟨h1,by rw[h2];rfl,h3,h4⟩
theorem HG (s:List UInt8):(aE s).length<=s.length:=by
 unfold aE;rw[List.length_drop];omega
theorem AZ (s:List UInt8): ∀ k,(aT s k).length<=s.length
 | 0=>by simp only[aT];exact Nat.le_refl _
 | k+1=>by simp only[aT];exact Nat.le_trans (HG _) (AZ s k)
theorem Cl (s:List UInt8)(k:Nat):(aj s k).length<=s.length:=by
 have:=AZ s k
 unfold aj ry;rw[List.length_take];omega
theorem EE (s:List UInt8):(aa s).length<=s.length:=by
 unfold aa;simp only[List.length_take,List.length_drop];omega
def dL (l:List (List UInt8)):List UInt8:=bJ 192 (flat l).length++flat l
theorem vO (c:UInt8)(t:List UInt8):ai (c::t) 1=ai t 0:=by cases t<;>rfl
def lC (l:Bool)(b:List UInt8):List UInt8:=bif l then bJ 192 b.length++b else ax b
theorem toNat_eq {a b:UInt8}(h:a.toNat=b.toNat):a=b:=UInt8.toNat_inj.1 h
theorem DN {s:List UInt8}(h:s≠[]): ∃ b t,s=b::t/\ai s 0=(b.toNat:Int):=by
 cases s with
 | nil=>exact absurd rfl h
 | cons b t=>exact⟨b,t,rfl,rfl⟩
theorem FM {s:List UInt8}(h:bE s=true):lC (cQ s) (aa s)++aE s=s:=by
 obtain⟨h0,h⟩:=dX.1 h
 obtain⟨b,t,rfl,hb⟩:=DN h0
 have hb8:=b.toNat_lt
 rcases h with hA | ⟨hA,hL,hB,hP⟩ | ⟨hA,hL,hP,hN⟩
 ·obtain⟨k1,k2,k3⟩:=jT hA
  rw[k1,k2,k3]
  simp only[lC,cond_false,List.take_succ_cons,List.take_zero,List.drop_succ_cons,List.drop_zero]
  rw[zH ⟨rfl,by rw[hb] at hA;exact hA⟩];rfl
 ·obtain⟨k1,k2⟩:=kD hA hL
  obtain⟨g1,g2,g3,g4⟩:=gj.1 hB
  have hl:=g1
  simp only[List.length_cons] at hl g1 hP
  have hlead:lead (b::t)<64/\0<=lead (b::t):=by unfold lead;split<;>omega
  have hpn:=pV (b::t) (lead (b::t) - 54)
  have elen:(aa (b::t)).length=(part (b::t) (lead (b::t) - 54)).toNat:=by
   rw[k1];simp only[List.length_take,List.length_drop,List.length_cons];omega
  have hd:digits (part (b::t) (lead (b::t) - 54))=t.take (lead (b::t) - 55).toNat:=by
   have e:part (b::t) (lead (b::t) - 54)=num (t.take (lead (b::t) - 55).toNat):=by
    unfold part
    simp only[List.drop_succ_cons,List.drop_zero]
    congr 2;omega
   rw[e]
   refine KO (by simp only[List.length_take];omega) (.inr ?_)
   intro h
   apply g2
   rw[vO]
   have:ai (t.take (lead (b::t) - 55).toNat) 0=ai t 0:=by
    obtain⟨m,hm⟩: ∃ m,(lead (b::t) - 55).toNat=m+1:=⟨(lead (b::t) - 55).toNat - 1,by omega⟩
    rw[hm]
    cases t<;>rfl
   rw[← this];exact h
  have hhead: ∀ base:Int,lead (b::t)=ai (b::t) 0 - base->0<=base->bJ base (aa (b::t)).length=b::t.take (lead (b::t) - 55).toNat:=by
   intro base hbase hb0
   rw[A3 (by rw[elen];omega),elen,show(((part (b::t) (lead (b::t) - 54)).toNat:Nat):Int)=part (b::t) (lead (b::t) - 54)by omega,hd]
   congr 1
   apply toNat_eq
   have:(base+55+((t.take (lead (b::t) - 55).toNat).length:Int)).toNat=b.toNat:=by
    rw[hb] at hbase
    simp only[List.length_take];omega
   rw[this]
   simp
  have hcat: ∀ base:Int,lead (b::t)=ai (b::t) 0 - base->0<=base->bJ base (aa (b::t)).length++aa (b::t)++aE (b::t)=b::t:=by
   intro base hbase hb0
   rw[hhead base hbase hb0,k1,k2,List.append_assoc]
   have e1:(lead (b::t) - 54).toNat=(lead (b::t) - 55).toNat+1:=by omega
   have e2:(lead (b::t) - 54+part (b::t) (lead (b::t) - 54)).toNat=(lead (b::t) - 55).toNat+1+(part (b::t) (lead (b::t) - 54)).toNat:=by omega
   rw[e1,e2]
   generalize (lead (b::t) - 55).toNat=k
   generalize (part (b::t) (lead (b::t) - 54)).toNat=p
   rw[show k+1+p=(k+p)+1 by omega]
   simp only[List.drop_succ_cons,List.cons_append]
   rw[← List.drop_drop,List.take_append_drop,List.take_append_drop]
  by_cases hC:ai (b::t) 0<192
  ·have e3:cQ (b::t)=false:=by simp[cQ];omega
   rw[e3,lC,cond_false,mz (by rw[elen];omega)]
   exact hcat 128 (xd hC) (by omega)
  ·have e3:cQ (b::t)=true:=by simp[cQ];omega
   rw[e3,lC,cond_true]
   exact hcat 192 (w5 hC) (by omega)
 ·obtain⟨k1,k2⟩:=nC hA hL
  simp only[List.length_cons] at hP
  have hlead:=Dh hA
  have elen:(aa (b::t)).length=(lead (b::t)).toNat:=by
   rw[k1];simp only[List.length_take,List.length_drop,List.length_cons];omega
  have ein:aa (b::t)=t.take (lead (b::t)).toNat:=by rw[k1];rfl
  have hcat: ∀ base:Int,lead (b::t)=ai (b::t) 0 - base->0<=base->bJ base (aa (b::t)).length++aa (b::t)++aE (b::t)=b::t:=by
   intro base hbase hb0
   rw[xC (by rw[elen];omega),elen,ein,k2]
   have:(base+((lead (b::t)).toNat:Int)).toNat=b.toNat:=by rw[hb] at hbase;omega
   rw[this,show(1+lead (b::t)).toNat=(lead (b::t)).toNat+1 by omega]
   simp
  by_cases hC:ai (b::t) 0<192
  ·have e3:cQ (b::t)=false:=by simp[cQ];omega
   rw[e3,lC,cond_false,mz ?_]
   ·exact hcat 128 (xd hC) (by omega)
   ·rintro⟨h1,h2⟩
    rw[elen] at h1
    apply hN
    refine⟨hC,by omega,?_⟩
    rw[vO]
    rw[ein,h1] at h2
    cases t with
    | nil=>exact h2
    | cons c u=>exact h2
  ·have e3:cQ (b::t)=true:=by simp[cQ];omega
   rw[e3,lC,cond_true]
   exact hcat 192 (w5 hC) (by omega)
theorem qP (f:Nat->Int)(i n:Nat):(cO f i n).length=n:=by simp[cO]
theorem pW (k:List UInt8):(az k).length=2*k.length:=qP _ _ _
theorem xz (p:List UInt8):(bF p).length=p.length / 2:=qP _ _ _
theorem Bz {l:Bool}{a b:List UInt8}{l1 l2 x:Bool}(h:a=b):af (.aL [.str l a,.bool l1 x]) (.aL [.str false b,.bool l2 x]):=fun E=>by subst h;rfl
theorem IB {p:List UInt8}(leaf:Bool)(hp:p.length<1073741824):aA (fW Ge 210 Tryz.f210 [.str false p,.bool false leaf] (OE p leaf)):=by
 refine aA.of_eq (VI p leaf) ?_
 cases fB p with
 | false=>exact⟨by omega,fun _=>⟨(fun h=>by cases h),fun _ _=>rfl⟩,fun h=>by cases h⟩
 | true =>
   refine⟨by omega,(fun h=>by cases h),fun _=>⟨by omega,trivial,by omega,fun h=> ?_,fun h=> ?_⟩⟩
   ·have ho:decide ((p.length:Int)% 2=1)=false:=by simpa using h
    refine⟨by omega,by omega,by simp only[cat,List.length_append,List.length_cons,List.length_nil];omega,fun _=>Bz ?_,fun h=>by cases h⟩
    rw[cZ,ho];rfl
   ·have ho:decide ((p.length:Int)% 2=1)=true:=by simpa using h
    refine⟨by omega,by simp only[cat,List.length_append,List.length_cons,List.length_nil];omega,fun _=>Bz ?_,fun h=>by cases h⟩
    rw[cZ,ho];rfl
def zS:List SV->Option (Prop×c6)
 | [.str false p,.bool false leaf]=>some (p.length<1073741824,OE p leaf)
 | _=>none
theorem Sz:aB Tryz.prog 210 (cE zS):=by
 refine dA (n:=20) (fn:=Tryz.f210) Tryz.func210 (by kernel_rfl) (by kernel_rfl) ?_
 intro args p a h hp
 unfold zS at h
 split at h
 ·injection h with h;injection h with h1 h2;subst h1;subst h2
  exact⟨_,NU,rfl,fun b=>by cases b<;>exact rfl,IB _ hp⟩
 ·cases h
theorem qi {l:Bool}{a b:List UInt8}{l1 l2 l3 l4 x y z:Bool}(h:a=b)(h2:x=y):af (.aL [.str l a,.bool l1 x,.bool l2 z]) (.aL [.str false b,.bool l3 y,.bool l4 z]):=fun E=>by subst h;subst h2;rfl
theorem sO {s:List UInt8}:eC s=true↔az s≠[]/\ai (az s) 0<=3/\(ai (az s) 0% 2=1∨ai (az s) 1=0):=by
 simp only[eC,Bool.and_eq_true,Bool.or_eq_true,decide_eq_true_eq,and_assoc]
theorem IN {s:List UInt8}(hs:s.length<1099511627776):aA (fW Ge 217 Tryz.f217 [.str false s] (NP s)):=by
 refine aA.of_eq (Vp s) ?_
 have hl:=pW s
 have b0:=dG (az s) 0
 have F: ∀ {p:Prop},¬ (az s≠[]/\ai (az s) 0<=3/\(ai (az s) 0% 2=1∨ai (az s) 1=0))->eC s=true->p:=fun h h'=>absurd (sO.1 h') h
 have T: ∀ {p:Prop},(az s≠[]/\ai (az s) 0<=3/\(ai (az s) 0% 2=1∨ai (az s) 1=0))->eC s=false->p:=fun h h'=>by rw[sO.2 h] at h';cases h'
 have none':af (.aL [.str true [],.bool true false,.bool true false]) (.aL [.str true [],.bool true false,.bool true false]):=fun _=>rfl
 have O:ai (az s) 0% 2=1->(az s).drop 1=cV s:=fun h=>(if_pos h).symm
 have Ev: ¬ ai (az s) 0% 2=1->(az s).drop 2=cV s:=fun h=>(if_neg h).symm
 refine⟨hs,fun h=>⟨F (by simp at h;simp[h]),fun _=>none'⟩,fun h=> ?_⟩
 have h:az s≠[]:=of_decide_eq_false h
 have hp:=List.length_pos_iff.2 h
 refine⟨by omega,fun a=> ?_,fun a=>⟨fun b=> ?_,fun b=>⟨fun c=> ?_,fun c=>⟨fun d=> ?_,fun d=> ?_⟩⟩⟩⟩
 ·have a:=of_decide_eq_true a
  refine⟨by omega,fun _=>qi (O (by omega)) (by simp[c8,a]),T ⟨h,by omega,.inl (by omega)⟩⟩
 ·have b:=of_decide_eq_true b
  refine⟨by omega,fun g=> ?_,fun g=>⟨by omega,fun _=>qi (Ev (by omega)) (by simp[c8,b]),?_⟩⟩
  ·have g: ¬ ai (az s) 1=0:=by simpa using g
   exact⟨F (by rintro⟨_,_,e | e⟩;omega;exact g e),fun _=>none'⟩
  ·have g:ai (az s) 1=0:=by simpa using g
   exact T ⟨h,by omega,.inr g⟩
 ·have c:=of_decide_eq_true c
  refine⟨by omega,fun _=>qi (O (by omega)) (by simp[c8,c]),T ⟨h,by omega,.inl (by omega)⟩⟩
 ·have d:=of_decide_eq_true d
  refine⟨by omega,fun g=> ?_,fun g=>⟨by omega,fun _=>qi (Ev (by omega)) (by simp[c8,d]),?_⟩⟩
  ·have g: ¬ ai (az s) 1=0:=by simpa using g
   exact⟨F (by rintro⟨_,_,e | e⟩;omega;exact g e),fun _=>none'⟩
  ·have g:ai (az s) 1=0:=by simpa using g
   exact T ⟨h,by omega,.inr g⟩
 ·have a:=of_decide_eq_false a
  have b:=of_decide_eq_false b
  have c:=of_decide_eq_false c
  have d:=of_decide_eq_false d
  exact⟨F (by rintro⟨_,e,_⟩;omega),fun _=>none'⟩
def zV:List SV->Option (Prop×c6)
 | [.str false s]=>some (s.length<1099511627776,NP s)
 | _=>none
theorem RG:aB Tryz.prog 217 (cE zV):=by
 refine dA (n:=20) (fn:=Tryz.f217) Tryz.func217 (by kernel_rfl) (by kernel_rfl) ?_
 intro args p a h hp
 unfold zV at h
 split at h
 ·injection h with h;injection h with h1 h2;subst h1;subst h2
  exact⟨_,NU,rfl,fun b=>by cases b<;>exact rfl,IN hp⟩
 ·cases h
noncomputable def Dp:List (FuncId×PT):=(169,aU mV)::(210,cE zS)::(217,cE zV)::zR
theorem uF:bl Tryz.prog (fun f=>aG f Dp):=.cons Bc (aN _) (.cons Sz (cj _) (.cons RG (cj _) mK))
noncomputable def xK:ff:={cg with cI:=fun f=>aG f Dp}
theorem xe:Sx.Good Tryz.prog xK:=.of bS uF bt
structure Nd where
 k:Int
 p:List UInt8
 v:List UInt8
 r:Nat->List UInt8
def Ft (r:Nat->List UInt8):List SV:=[.str false (r 0),.str false (r 1),.str false (r 2),.str false (r 3),.str false (r 4),.str false (r 5),.str false (r 6),.str false (r 7),.str false (r 8),.str false (r 9),.str false (r 10),.str false (r 11),.str false (r 12),.str false (r 13),.str false (r 14),.str false (r 15)]
def Nd.vB (x:Nd)(l:Bool)(k:Int):SV:=.agg (.int .i64 l k::.str false x.p::.str false x.v::Ft x.r)
def Nd.sv (x:Nd):SV:=x.vB false x.k
def dg:SV:=.agg [.int .i64 true 0,.str true [],.str true [],.str true [],.str true [],.str true [],.str true [],.str true [],.str true [],.str true [],.str true [],.str true [],.str true [],.str true [],.str true [],.str true [],.str true [],.str true [],.str true []]
def Ii:List SV->Option Nd
 | [.int .i64 false k,.str false p,.str false v,.str false r0,.str false r1,.str false r2,.str false r3,.str false r4,.str false r5,.str false r6,.str false r7,.str false r8,.str false r9,.str false r10,.str false r11,.str false r12,.str false r13,.str false r14,.str false r15]=>some ⟨k,p,v,fun i=>[r0,r1,r2,r3,r4,r5,r6,r7,r8,r9,r10,r11,r12,r13,r14,r15].getD i []⟩
 | _=>none
theorem tZ {l:List SV}{x:Nd}(h:Ii l=some x):SV.agg l=x.sv:=by
 unfold Ii at h
 split at h
 ·injection h with h;subst h;rfl
 ·cases h
def cC (t:List UInt8):Bool:=bE t&& !cQ t&&decide (aE t=[])
def bI (t:List UInt8):Bool:=cC t&&decide (((aa t).length:Int)=32)
def HU (t:List UInt8):c6:=.fork (cC t) fun b=>match b with
 | true=>.ret (.aL [.str false (aa t),.bool true true])
 | false=>.ret (.aL [.str true [],.bool true false])
def NF (t:List UInt8):c6:=.fork (bI t) fun b=>match b with
 | true=>.ret (.aL [.str false (aa t),.bool true true])
 | false=>.ret (.aL [.str true [],.bool true false])
def fZ (x:Nd)(least:Int):Bool:=decide (least<=(x.p.length:Int))&&decide ((x.p.length:Int)<=12)&&fB x.p
def bX (r:Nat->List UInt8):Nat->Int
 | 0=>0
 | i+1=>if r i=[] then bX r i else(i:Int)+1
noncomputable def LF (x:Nd):bC :=
 {α:=Nat,pre:=fun _ i=>i<=16,nY:=fun _ i=>16 - i,fresh:=0,slots:=fun _ i=>[(7,.int .i64 false i)],
  mem:=fun _ i=>[(1,.cells [.int .i64 false (bX x.r i)] 1 3)]}
noncomputable def Pz (x:Nd):ff:={cg with cI:=fun f=>aG f Dp,br:=fun f=>if f=201 then [(1,always (LF x))] else []}
theorem UO (x:Nd):Sx.Good Tryz.prog (Pz x):=.of bS uF bt
theorem Tb (t:List UInt8):VC.holds (fW xK 184 Tryz.f184 [.str false t] (HU t))=((fun P0:SV=>((t.length<9223372036854775808/\(bE t=true->(cQ t=true->(cC t=true->af P0 (SV.aL [SV.str false (aa t),SV.bool true true]))/\(cC t=false->af P0 P0))/\(cQ t=false->((!decide (aE t=[]))=true->(cC t=true->af P0 (SV.aL [SV.str false (aa t),SV.bool true true]))/\(cC t=false->af P0 P0))/\((!decide (aE t=[]))=false->(cC t=true->af (SV.aL [SV.str false (aa t),SV.bool true true]) (SV.aL [SV.str false (aa t),SV.bool true true]))/\(cC t=false->af (SV.aL [SV.str false (aa t),SV.bool true true]) P0))))/\(bE t=false->(cC t=true->af P0 (SV.aL [SV.str false (aa t),SV.bool true true]))/\(cC t=false->af P0 P0))))) (SV.aL [SV.str true [],SV.bool true false])):=by kernel_rfl
theorem UW (t:List UInt8):VC.holds (fW xK 151 Tryz.f151 [.str false t] (NF t))=((fun P0:SV=>((fun P1:SV=>((t.length<9223372036854775808/\(bE t=true->(cQ t=true->(bI t=true->af P0 P1)/\(bI t=false->af P0 P0))/\(cQ t=false->((!decide (aE t=[]))=true->(bI t=true->af P0 P1)/\(bI t=false->af P0 P0))/\((!decide (aE t=[]))=false->((!decide ((↑(aa t).length:Int)=32))=true->(bI t=true->af P0 P1)/\(bI t=false->af P0 P0))/\((!decide ((↑(aa t).length:Int)=32))=false->(bI t=true->af P1 P1)/\(bI t=false->af P1 P0)))))/\(bE t=false->(bI t=true->af P0 P1)/\(bI t=false->af P0 P0))))) (SV.aL [SV.str false (aa t),SV.bool true true]))) (SV.aL [SV.str true [],SV.bool true false])):=by kernel_rfl
theorem N6 (x:Nd)(least:Int)(R:SV->Prop):VC.holds (dm xK 207 Tryz.f207 [x.sv,.int .i64 false least] R)=(((decide (least<=(x.p.length:Int))=true->(decide ((x.p.length:Int)<=12)=true->x.p.length<1152921504606846976/\R (SV.bool false (fB x.p)))/\(decide ((x.p.length:Int)<=12)=false->R (SV.bool true false)))/\(decide (least<=(x.p.length:Int))=false->R (SV.bool true false)))):=by kernel_rfl
theorem MY (x:Nd)(R:SV->Prop):VC.holds (dm (Pz x) 208 Tryz.f208 [x.sv] R)=((fun R0:Nat->SV=>((fun P0:SB=>((∀(u4:Loop),(∃(u3:Nat),u3<=16/\0=(u3:Int)/\ah (SB.cells [SV.int .i64 true 0] 1 3) (SB.cells [SV.int .i64 false (bX x.r u3)] 1 3)/\ah (SB.loop LoopState.ready none u4) (SB.loop LoopState.ready none u4)/\ah P0 P0/\ah (SB.cells x.sv.cells 19 238) (SB.cells x.sv.cells 19 238)/\True)/\∀(u2:Nat),u2<=16->(decide ((u2:Int)<16)=true->(0<=(u2:Int)/\(u2:Int)<16/\(u2:Int)<(↑(16:Nat):Int))/\((!decide (bq [x.r 0,x.r 1,x.r 2,x.r 3,x.r 4,x.r 5,x.r 6,x.r 7,x.r 8,x.r 9,x.r 10,x.r 11,x.r 12,x.r 13,x.r 14,x.r 15] (u2:Int).toNat=[]))=true->u4=u4/\((-9223372036854775808:Int)<=(u2:Int)+1/\(u2:Int)+1<=(9223372036854775807:Int))/\((-9223372036854775808:Int)<=(u2:Int)+1/\(u2:Int)+1<=(9223372036854775807:Int))/\∃(u1:Nat),(u1<=16/\16 - u1<16 - u2)/\(u2:Int)+1=(u1:Int)/\ah (SB.cells [SV.int .i64 false ((u2:Int)+1)] 1 3) (SB.cells [SV.int .i64 false (bX x.r u1)] 1 3)/\ah (SB.loop LoopState.ready none u4) (SB.loop LoopState.ready none u4)/\ah P0 P0/\ah (SB.cells x.sv.cells 19 238) (SB.cells x.sv.cells 19 238)/\True) /\((!decide (bq [x.r 0,x.r 1,x.r 2,x.r 3,x.r 4,x.r 5,x.r 6,x.r 7,x.r 8,x.r 9,x.r 10,x.r 11,x.r 12,x.r 13,x.r 14,x.r 15] (u2:Int).toNat=[]))=false->((-9223372036854775808:Int)<=(u2:Int)+1/\(u2:Int)+1<=(9223372036854775807:Int))/\∃(u0:Nat),(u0<=16/\16 - u0<16 - u2)/\(u2:Int)+1=(u0:Int)/\ah (SB.cells [SV.int .i64 false (bX x.r u2)] 1 3) (SB.cells [SV.int .i64 false (bX x.r u0)] 1 3)/\ah (SB.loop LoopState.ready none u4) (SB.loop LoopState.ready none u4)/\ah P0 P0/\ah (SB.cells x.sv.cells 19 238) (SB.cells x.sv.cells 19 238)/\True))/\(decide ((u2:Int)<16)=false->R (SV.int .i64 false (bX x.r u2)))))) (SB.cells (SV.agg [SV.int .i64 false x.k,SV.str false x.p,SV.str false x.v,R0 0,R0 1,R0 2,R0 3,R0 4,R0 5,R0 6,R0 7,R0 8,R0 9,R0 10,R0 11,R0 12,R0 13,R0 14,R0 15]).cells 19 238))) (fun(n0:Nat)=>SV.str false (x.r n0))):=by kernel_rfl
theorem Qm (x:Nd)(R:SV->Prop):VC.holds (dm xK 185 Tryz.f185 [x.sv] R)=((R (SV.bool (false&&true&&(false&&true&&(false&&true&&(false&&true&&(false&&true&&(false&&true&&(false&&true&&(false&&true&&(false&&true&&(false&&true&&(false&&true&&(false&&true&&(false&&true&&(false&&true&&(false&&true&&(false&&true&&(false&&true&&(false&&true&&(false&&true&&true)))))))))))))))&&true)))) (decide (x.k=0)&&(decide (x.p=[])&&(decide (x.v=[])&&(decide (x.r 0=[])&&(decide (x.r 1=[])&&(decide (x.r 2=[])&&(decide (x.r 3=[])&&(decide (x.r 4=[])&&(decide (x.r 5=[])&&(decide (x.r 6=[])&&(decide (x.r 7=[])&&(decide (x.r 8=[])&&(decide (x.r 9=[])&&(decide (x.r 10=[])&&(decide (x.r 11=[])&&(decide (x.r 12=[])&&(decide (x.r 13=[])&&(decide (x.r 14=[])&&(decide (x.r 15=[])&&true)))))))))))))))&&true))))))):=by kernel_rfl
theorem qd {t:List UInt8}:cC t=true↔bE t=true/\cQ t=false/\aE t=[]:=by
 simp only[cC,Bool.and_eq_true,Bool.not_eq_true',decide_eq_true_eq,and_assoc]
theorem oF {t:List UInt8}:bI t=true↔(bE t=true/\cQ t=false/\aE t=[])/\(aa t).length=32:=by
 simp only[bI,Bool.and_eq_true,qd,decide_eq_true_eq]
 constructor<;>rintro⟨h1,h2⟩<;>exact⟨h1,by omega⟩
theorem Gl {t:List UInt8}(ht:t.length<9223372036854775808):aA (fW xK 184 Tryz.f184 [.str false t] (HU t)):=by
 refine aA.of_eq (Tb t) ?_
 have no:af (.aL [.str true [],.bool true false]) (.aL [.str true [],.bool true false]):=fun _=>rfl
 have F: ∀ {p:Prop},¬ (bE t=true/\cQ t=false/\aE t=[])->cC t=true->p:=fun h h'=>absurd (qd.1 h') h
 refine⟨ht,fun a=>⟨fun b=>⟨F (by simp[b]),fun _=>no⟩,fun b=>⟨fun c=>⟨F (by simp at c;simp[c]),fun _=>no⟩,fun c=> ?_⟩⟩,fun a=>⟨F (by simp[a]),fun _=>no⟩⟩
 have c:aE t=[]:=by simpa using c
 have hB:=qd.2 ⟨a,b,c⟩
 exact⟨fun _ _=>rfl,fun h=>by rw[hB] at h;cases h⟩
theorem HT {t:List UInt8}(ht:t.length<9223372036854775808):aA (fW xK 151 Tryz.f151 [.str false t] (NF t)):=by
 refine aA.of_eq (UW t) ?_
 have no:af (.aL [.str true [],.bool true false]) (.aL [.str true [],.bool true false]):=fun _=>rfl
 have F: ∀ {p:Prop},¬ ((bE t=true/\cQ t=false/\aE t=[])/\(aa t).length=32)->bI t=true->p:=fun h h'=>absurd (oF.1 h') h
 refine⟨ht,fun a=>⟨fun b=>⟨F (by simp[b]),fun _=>no⟩,fun b=>⟨fun c=>⟨F (by simp at c;simp[c]),fun _=>no⟩,fun c=>⟨fun d=>⟨F (by simp at d;omega),fun _=>no⟩,fun d=> ?_⟩⟩⟩,fun a=>⟨F (by simp[a]),fun _=>no⟩⟩
 have c:aE t=[]:=by simpa using c
 have d:((aa t).length:Int)=32:=by simpa using d
 have hB:=oF.2 ⟨⟨a,b,c⟩,by omega⟩
 exact⟨fun _ _=>rfl,fun h=>by rw[hB] at h;cases h⟩
def uW:List SV->Option (Prop×c6)
 | [.str false t]=>some (t.length<9223372036854775808,HU t)
 | _=>none
def pE:List SV->Option (Prop×c6)
 | [.str false t]=>some (t.length<9223372036854775808,NF t)
 | _=>none
theorem Qs:aB Tryz.prog 184 (cE uW):=by
 refine dA (n:=20) (fn:=Tryz.f184) Tryz.func184 (by kernel_rfl) (by kernel_rfl) ?_
 intro args p a h hp
 unfold uW at h
 split at h
 ·injection h with h;injection h with h1 h2;subst h1;subst h2
  exact⟨_,xe,rfl,fun b=>by cases b<;>exact rfl,Gl hp⟩
 ·cases h
theorem DD:aB Tryz.prog 151 (cE pE):=by
 refine dA (n:=20) (fn:=Tryz.f151) Tryz.func151 (by kernel_rfl) (by kernel_rfl) ?_
 intro args p a h hp
 unfold pE at h
 split at h
 ·injection h with h;injection h with h1 h2;subst h1;subst h2
  exact⟨_,xe,rfl,fun b=>by cases b<;>exact rfl,HT hp⟩
 ·cases h
def rM:List SV->Option (Prop×SV)
 | [.agg l,.int .i64 false least]=>(match Ii l with
   | some x=>some (True,.bool false (fZ x least))
   | none=>none)
 | _=>none
theorem LW:aB Tryz.prog 207 (aU rM):=by
 refine fX xe (n:=20) (fn:=Tryz.f207) Tryz.func207 (by kernel_rfl) (by kernel_rfl) ?_
 intro args p r h hp
 unfold rM at h
 split at h
 ·split at h
  ·rename_i l least _ x hx
   injection h with h;injection h with h1 h2;subst h1;subst h2
   rw[tZ hx]
   refine⟨rfl,rfl,aA.of_eq (N6 x least _) ⟨fun a=>⟨fun b=>⟨?_,cq ?_⟩,fun b=>cq ?_⟩,fun a=>cq ?_⟩⟩
   ·have:=of_decide_eq_true b;omega
   ·rw[fZ,a,b];rfl
   ·rw[fZ,a,b];rfl
   ·rw[fZ,a];rfl
  ·cases h
 ·cases h
theorem Ad (r:Nat->List UInt8){i:Nat}(h:i<16):bq [r 0,r 1,r 2,r 3,r 4,r 5,r 6,r 7,r 8,r 9,r 10,r 11,r 12,r 13,r 14,r 15] i=r i:=by
 have:i=0∨i=1∨i=2∨i=3∨i=4∨i=5∨i=6∨i=7∨i=8∨i=9∨i=10∨i=11∨i=12∨i=13∨i=14∨i=15:=by omega
 rcases this with rfl | rfl | rfl | rfl | rfl | rfl | rfl | rfl | rfl | rfl | rfl | rfl | rfl | rfl | rfl | rfl<;>rfl
theorem x5 {l l':Bool}{a b:Int}{tot:Nat}{ty:TypeId}(h:a=b):ah (.cells [.int .i64 l a] tot ty) (.cells [.int .i64 l' b] tot ty):=by
 subst h
 exact ah.cells (fun _=>rfl) rfl
theorem CQ (x:Nd):aA (dm (Pz x) 208 Tryz.f208 [x.sv] (fun v=>af v (.int .i64 false (bX x.r 16)))):=by
 refine aA.of_eq (MY x _) ?_
 intro R
 refine⟨⟨0,by omega,rfl,x5 rfl,ah.refl _,ah.refl _,ah.refl _,trivial⟩,fun i hi=>⟨fun a=> ?_,fun a=> ?_⟩⟩
 ·have a:=of_decide_eq_true a
  have ei:i<16:=by omega
  rw[Int.toNat_natCast,Ad x.r ei]
  refine⟨by omega,fun b=>⟨rfl,by omega,by omega,i+1,by omega,by omega,x5 ?_,ah.refl _,ah.refl _,ah.refl _,trivial⟩,fun b=>⟨by omega,i+1,by omega,by omega,x5 ?_,ah.refl _,ah.refl _,ah.refl _,trivial⟩⟩
  ·have b: ¬ x.r i=[]:=by simpa using b
   rw[bX,if_neg b]
  ·have b:x.r i=[]:=by simpa using b
   rw[bX,if_pos b]
 ·have a:=of_decide_eq_false a
  have e:i=16:=by omega
  rw[e];exact fun _=>rfl
def rL:List SV->Option (Prop×SV)
 | [.agg l]=>(match Ii l with
   | some x=>some (True,.int .i64 false (bX x.r 16))
   | none=>none)
 | _=>none
theorem Ls:aB Tryz.prog 208 (aU rL):=by
 refine dD (dA (n:=20) (fn:=Tryz.f208) Tryz.func208 (by kernel_rfl) (by kernel_rfl) ?_)
 intro args p a h hp
 unfold rL at h
 split at h
 ·split at h
  ·rename_i l x hx
   injection h with h;injection h with h1 h2;subst h1;subst h2
   rw[tZ hx]
   exact⟨_,UO x,rfl,rfl,CQ x⟩
  ·cases h
 ·cases h
def nR (x:Nd):Bool:=decide (x.k=0)&&(decide (x.p=[])&&(decide (x.v=[])&&(List.range 16).all fun i=>decide (x.r i=[])))
def sr:List SV->Option (Prop×SV)
 | [.agg l]=>(match Ii l with
   | some x=>some (True,.bool false (nR x))
   | none=>none)
 | _=>none
theorem Mk:aB Tryz.prog 185 (aU sr):=by
 refine fX xe (n:=20) (fn:=Tryz.f185) Tryz.func185 (by kernel_rfl) (by kernel_rfl) ?_
 intro args p r h hp
 unfold sr at h
 split at h
 ·split at h
  ·rename_i l x hx
   injection h with h;injection h with h1 h2;subst h1;subst h2
   rw[tZ hx]
   refine⟨rfl,rfl,aA.of_eq (Qm x _) (cq ?_)⟩
   rw[nR,show List.range 16=[0,1,2,3,4,5,6,7,8,9,10,11,12,13,14,15] from by decide]
   simp only[List.all_cons,List.all_nil,Bool.and_true]
  ·cases h
 ·cases h
noncomputable def CD:List (FuncId×PT):=(184,cE uW)::(151,cE pE)::(207,aU rM)::(208,aU rL)::(185,aU sr)::Dp
theorem uB:bl Tryz.prog (fun f=>aG f CD):=.cons Qs (cj _) (.cons DD (cj _) (.cons LW (aN _) (.cons Ls (aN _) (.cons Mk (aN _) uF))))
noncomputable def wF:ff:={cg with cI:=fun f=>aG f CD}
theorem Cw:Sx.Good Tryz.prog wF:=.of bS uB bt
def js (x:Nd):Bool:=fZ x 0&&(!decide (x.v=[])&&(decide ((x.v.length:Int)<=80)&&decide (bX x.r 16=0)))
def cD (x:Nd)(leaf:Bool):List UInt8:=bif fB x.p then cZ x.p leaf else []
def iI (x:Nd):List UInt8:=dL [ax (cD x true),ax x.v]
def nX (x:Nd):List UInt8:=dL [ax (cD x false),x.r 0]
def aQ (r:Nat->List UInt8)(i j:Nat):List UInt8:=if j<i then(if r j=[] then [128] else r j)else [128]
def vl (f:Nat->List UInt8):List SV:=[.str false (f 0),.str false (f 1),.str false (f 2),.str false (f 3),.str false (f 4),.str false (f 5),.str false (f 6),.str false (f 7),.str false (f 8),.str false (f 9),.str false (f 10),.str false (f 11),.str false (f 12),.str false (f 13),.str false (f 14),.str false (f 15),.str false (f 16)]
def eF (x:Nd):List UInt8:=dL [aQ x.r 16 0,aQ x.r 16 1,aQ x.r 16 2,aQ x.r 16 3,aQ x.r 16 4,aQ x.r 16 5,aQ x.r 16 6,aQ x.r 16 7,aQ x.r 16 8,aQ x.r 16 9,aQ x.r 16 10,aQ x.r 16 11,aQ x.r 16 12,aQ x.r 16 13,aQ x.r 16 14,aQ x.r 16 15,ax x.v]
def cu (x:Nd):List UInt8:=if x.k=0 then [128] else if x.k=1 then iI x else if x.k=2 then nX x else eF x
structure Nd.mQ (x:Nd):Prop where
 p:x.p.length<=1000
 v:x.v.length<=1000
 r: ∀ j,j<16->(x.r j).length<=1000
noncomputable def Wu (x:Nd):bC :=
 {α:=Nat,pre:=fun _ i=>i<=16,nY:=fun _ i=>16 - i,fresh:=0,slots:=fun _ i=>[(7,.int .i64 false i)],mem:=fun _ i=>[(1,.cells (vl (aQ x.r i)) 17 9)]}
noncomputable def Nk (x:Nd):ff:={cg with cI:=fun f=>aG f CD,br:=fun f=>if f=201 then [(1,always (Wu x))] else []}
theorem UA (x:Nd):Sx.Good Tryz.prog (Nk x):=.of bS uB bt
def y8 (r0 r1 r2 r3 r4 r5 r6 r7 r8 r9 r10 r11 r12 r13 r14 r15:List UInt8):Nat->List UInt8:=fun i=>[r0,r1,r2,r3,r4,r5,r6,r7,r8,r9,r10,r11,r12,r13,r14,r15].getD i []
def aP (r:Nat->List UInt8):Nat->List UInt8:=y8 (r 0) (r 1) (r 2) (r 3) (r 4) (r 5) (r 6) (r 7) (r 8) (r 9) (r 10) (r 11) (r 12) (r 13) (r 14) (r 15)
def ay:Nat->List UInt8:=y8 [] [] [] [] [] [] [] [] [] [] [] [] [] [] [] []
def ak (t:List UInt8):Nat->List UInt8:=y8 t [] [] [] [] [] [] [] [] [] [] [] [] [] [] []
def aD (s:List UInt8)(j:Nat):List UInt8:=if aj s j=[128] then [] else aj s j
def ue (s:List UInt8)(i j:Nat):List UInt8:=if j<i then aD s j else []
def eN:Nd:=⟨0,[],[],ay⟩
def lM (s:List UInt8):Nd:=⟨1,cV (aa (aj (aa s) 0)),aa (aj (aa s) 1),ay⟩
def qY (s:List UInt8):Nd:=⟨2,cV (aa (aj (aa s) 0)),[],ak (aj (aa s) 1)⟩
def gx (s:List UInt8):Nd:=⟨3,[],aa (aj (aa s) 16),aP (aD (aa s))⟩
def lW (s:List UInt8):Int:=bif cC (aj s 0)&&eC (aa (aj s 0))then(bif c8 (aa (aj s 0))then(bif cC (aj s 1)then 1 else -1)else 2)else -1
def nS (s:List UInt8):Int:=bif c9 s then(if bB s=2 then lW s else if bB s=17 then(bif cC (aj s 16)then 3 else -1)else -1)else -1
def aq (s:List UInt8):Int:=if s=[128] then 0 else bif bE s&&(cQ s&&decide (aE s=[]))then nS (aa s)else -1
def getD (s:List UInt8):Nd:=if aq s=1 then lM s else if aq s=2 then qY s else if aq s=3 then gx s else eN
def PD (s:List UInt8):c6:=.fork (decide (aq s=0)) fun b=>match b with
 | true=>.ret (.aL [dg,.bool true true])
 | false=>.fork (decide (aq s=1)) fun b=>match b with
   | true=>.ret (.aL [(lM s).vB true 1,.bool true true])
   | false=>.fork (decide (aq s=2)) fun b=>match b with
     | true=>.ret (.aL [(qY s).vB true 2,.bool true true])
     | false=>.fork (decide (aq s=3)) fun b=>match b with
       | true=>.ret (.aL [(gx s).vB true 3,.bool true true])
       | false=>.all Nd fun x=>.ret (.aL [x.sv,.bool true false])
def gE (inl:List UInt8->Bool)(t:List UInt8):Bool:=bI t||inl t
def mJ (inl:List UInt8->Bool)(x:Nd):Bool:=fZ x 1&&(decide (x.v=[])&&(decide (bX x.r 16=1)&&(bI (x.r 0)||(inl (x.r 0)&&decide ((getD (x.r 0)).k=3)))))
def cK (r:Nat->List UInt8):Nat->Int
 | 0=>0
 | i+1=>if r i=[] then cK r i else cK r i+1
def iH (inl:List UInt8->Bool)(r:Nat->List UInt8):Nat->Bool
 | 0=>true
 | i+1=>iH inl r i&&(decide (r i=[])||gE inl (r i))
def c7 (inl:List UInt8->Bool)(x:Nd):Bool:=decide (x.p=[])&&(decide ((x.v.length:Int)<=80)&&(iH inl x.r 16&&decide (2<=min (x.v.length:Int) 1+cK x.r 16)))
def gC (inl:List UInt8->Bool)(x:Nd):Bool:=if x.k=0 then nR x else if x.k=1 then js x else if x.k=2 then mJ inl x else if x.k=3 then c7 inl x else false
def AM (inl:List UInt8->Bool)(s:List UInt8):Bool:=decide (0<=aq s)&&(gC inl (getD s)&&decide (cu (getD s)=s))
def zF:Nat->List UInt8->Bool
 | 0,_=>false
 | n+1,t=>decide (t.length<32)&&(AM (zF n) t&& !decide ((getD t).k=0))
def bO (t:List UInt8):Bool:=zF 32 t
def aS (x:Nd):Bool:=gC bO x
def bG (s:List UInt8):Bool:=AM bO s
end Go.Proofs.YtoibaecagklkaaaGreatDoor
