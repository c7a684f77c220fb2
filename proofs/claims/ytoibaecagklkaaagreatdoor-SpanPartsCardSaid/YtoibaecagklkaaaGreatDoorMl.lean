/-
  Rlp: plain laws: what is put is cut again; what ends too early is not.
-/
import Derived.Test.YtoibaecagklkaaaGreatDoorMk
import Derived.Test.YtoibaecagklkaaaGreatDoorMj
open Bool renaming and_eq_true->a_,false->q,true->A
open Decidable renaming decide->C
open Go.IntKind renaming i64->c4,u8->L
open Go.LoopState renaming ready->I
open Go.Proofs.Tryz renaming f151->a!,f169->bf,f170->bO,f184->bS,f185->c5,f207->c6,f208->bU,f210->b_,f217->b!,f220->c7,f58->cl,prog->H
open Int renaming le_refl->c8,toNat_natCast->X
open List renaming append_assoc->c9,cons_append->c_,drop_append_of_le_length->S,drop_drop->c!,drop_left->ag,drop_succ_cons->V,drop_zero->dD,getElem?_cons_zero->dR,length_append->M,length_cons->N,length_drop->Q,length_nil->ct,length_pos_iff->cx,length_take->W,mem_range->cy,range->Y,take_append_drop->d_,take_append_of_le_length->Z,take_left->cS
open Nat renaming le_refl->d!,not_lt_zero->an,zero_add->ec,zero_le->aK
open Option renaming none->G,some->D
open UInt8 renaming ofNat->J
namespace Go.Proofs.YtoibaecagklkaaaGreatDoor
open Go Sx
set_option maxRecDepth 20000
theorem A9 {base:Int}{n:Nat}(h:n<=55):bV base n=[J (base+n).toNat]:=if_pos h
theorem DK {base:Int}{n:Nat}(h: ¬ n<=55):bV base n=J (base+55+(digits n).length).toNat::digits n:=if_neg h
theorem NF {s:List UInt8}{base n:Int}(hb:base=128∨base=192)(h0:0<=n)(h:n<64)(h1:ai s 0=base+n):lead s=n/\¬ ai s 0<128/\(ai s 0<192↔base=128):=by
 unfold lead;rcases hb with rfl | rfl
 ·rw[if_pos (by omega)];omega
 ·rw[if_neg (by omega)];omega
structure tL (base:Int)(n:Nat)(s d t:List UInt8):Prop where
 eq:s=J (base+55+d.length).toNat::(d++t)
 num:num d=n
 hd:ai d 0≠0
 len:1<=d.length/\d.length<=3
theorem WD {base:Int}{n:Nat}(h: ¬ n<=55)(h2:n<=1048576)(t:List UInt8):tL base n (bV base n++t) (digits n) t:=by have h1:=Ht (n:=n) (by omega) (by omega);have h3:=cx.2 h1.1;exact⟨by rw[DK h];rfl,KE (by omega) (by omega),h1.2,by omega,Fm (by omega)⟩
theorem tL.abl {base:Int}{n:Nat}{s d t:List UInt8}(hb:base=128∨base=192)(h:tL base n s d t):ai s 0=base+55+d.length/\lead s=55+d.length/\¬ ai s 0<128/\(ai s 0<192↔base=128):=by
 have hl:=h.len;have h0:ai s 0=base+55+d.length:=by rw[h.eq,iW,ofNat_toNat (by omega) (by omega)]
 obtain⟨h1,h2,h3⟩:=NF (s:=s) (base:=base) (n:=55+d.length) hb (by omega) (by omega) (by omega);exact⟨h0,h1,h2,h3⟩
theorem tL.part' {base:Int}{n:Nat}{s d t:List UInt8}(h:tL base n s d t):part s (d.length+1)=n/\ai s 1≠0:=by
 have hl:=h.len;constructor
 ·unfold part;rw[h.eq];have e:((d.length:Int)+1 - 1).toNat=d.length:=by omega
  rw[e,List.drop_one,List.tail_cons,cS];exact h.num
 ·rw[h.eq];have h2:=h.hd
  match d,hl with
  | c::d,_ =>rw[iW] at h2;rw[c_,uX];exact h2
theorem tL.cut {base:Int}{n:Nat}{s d t:List UInt8}(hb:base=128∨base=192)(hn:55<n)(hn2:n<=1048576)(h:tL base n s d t):bM s=C (n<=t.length)/\dj s=C (base=192)/\ah s=t.take n/\aH s=t.drop n:=by
 obtain⟨b0,l1,l2,l3⟩:=h.abl hb;obtain⟨p1,p2⟩:=h.part';have hl:=h.len;have e1:lead s - 54=d.length+1:=by omega
 have hs:s.length=1+d.length+t.length:=by rw[h.eq];simp;omega
 have hlen:jP s (lead s - 54)=true:=iz.2 (by rw[e1,p1];exact⟨by omega,p2,by omega,by omega⟩);rw[e1] at hlen;obtain⟨c1,c2⟩:=lP (s:=s) l2 (by omega);refine⟨?_,?_,?_,?_⟩
 ·rw[Bool.eq_iff_iff,fj];have hne:s≠[]:=by rw[h.eq];simp
  have hL:55<lead s:=by omega
  simp only[hne,ne_eq,not_false_eq_true,l2,hL,hlen,e1,p1,true_and,false_or,not_true_eq_false,false_and,or_false,decide_eq_true_eq];omega
 ·unfold dj;rcases hb with rfl | rfl
  ·have:=l3.2 rfl;simp;omega
  ·simp;omega
 ·rw[c1,e1,p1,h.eq];have e:((d.length:Int)+1).toNat=d.length+1:=by omega
  rw[e,V,ag,X]
 ·rw[c2,e1,p1,h.eq];have e:((d.length:Int)+1+n).toNat=d.length+n+1:=by omega
  rw[e,V,← c!,ag]
theorem Qo {base:Int}{n:Nat}{s t:List UInt8}(hb:base=128∨base=192)(hn:n<=55)(h:s=J (base+n).toNat::t) :
  (bM s=A↔n<=t.length/\¬ (base=128/\n=1/\ai t 0<128))/\dj s=C (base=192)/\ah s=t.take n/\aH s=t.drop n:=by
 have h0:ai s 0=base+n:=by rw[h,iW,ofNat_toNat (by omega) (by omega)]
 obtain⟨l1,l2,l3⟩:=NF (s:=s) (base:=base) (n:=n) hb (by omega) (by omega) h0;have hs:s.length=1+t.length:=by rw[h];simp;omega
 obtain⟨c1,c2⟩:=oL (s:=s) l2 (by omega);have hb1:0<t.length->ai s 1=ai t 0:=λhp=>by
  rw[h]
  match t,hp with
  | c::t,_=>rw[uX,iW]
 refine⟨?_,?_,?_,?_⟩
 ·rw[fj];have hne:s≠[]:=by rw[h];simp
  have hL: ¬ (55:Int)<n:=by omega
  simp only[hne,ne_eq,not_false_eq_true,l2,hL,true_and,false_or,false_and,l1,l3];constructor
  ·rintro⟨a,b⟩;refine⟨by omega,fun⟨x,y,z⟩=>b ⟨x,by omega,by rw[hb1 (by omega)];exact z⟩⟩
  ·rintro⟨a,b⟩;refine⟨by omega,fun⟨x,y,z⟩=>b ⟨x,by omega,by rw[hb1 (by omega)] at z;exact z⟩⟩
 ·unfold dj;rcases hb with rfl | rfl
  ·have:=l3.2 rfl;simp;omega
  ·simp;omega
 ·rw[c1,l1,h,X];rfl
 ·rw[c2,l1,h];have e:(1+(n:Int)).toNat=n+1:=by omega
  rw[e,V]
theorem Nj {base:Int}{x:List UInt8}(hb:base=128∨base=192)(hx:x.length<=1048576)(h1: ¬ (base=128/\x.length=1/\ai x 0<128))(rest:List UInt8) :
  bM (bV base x.length++x++rest)=A/\dj (bV base x.length++x++rest)=C (base=192)/\ah (bV base x.length++x++rest)=x/\aH (bV base x.length++x++rest)=rest:=by
 rw[c9];by_cases hn:x.length<=55
 ·obtain⟨g1,g2,g3,g4⟩:=Qo (s:=bV base x.length++(x++rest)) (t:=x++rest) hb hn (by rw[A9 hn];rfl);refine⟨g1.2 ⟨by simp,fun⟨a,b,c⟩=>h1 ⟨a,b,?_⟩⟩,g2,by rw[g3,cS],by rw[g4,ag]⟩
  rwa [ko (c8 _) (by omega)] at c
 ·obtain⟨g1,g2,g3,g4⟩:=(WD (base:=base) hn hx (x++rest)).cut hb (by omega) hx;exact⟨by rw[g1];simp,g2,by rw[g3,cS],by rw[g4,ag]⟩
theorem CC {b:List UInt8}(h:b.length=1/\ai b 0<128):aA b=b:=if_pos h
theorem JR {b:List UInt8}(hb:b.length<=1048576)(rest:List UInt8):bM (aA b++rest)=A/\dj (aA b++rest)=q/\ah (aA b++rest)=b/\aH (aA b++rest)=rest:=by
 by_cases h:b.length=1/\ai b 0<128
 ·rw[CC h]
  match b,h with
  | [c],h =>have h0:ai ([c]++rest) 0<128:=h.2;obtain⟨g1,g2,g3⟩:=lC h0;exact⟨fj.2 ⟨by simp,.inl h0⟩,g1,by rw[g2];rfl,by rw[g3];rfl⟩
 ·rw[ou h];exact Nj (base:=128) (.inl rfl) hb (λx=>h x.2) rest
end Go.Proofs.YtoibaecagklkaaaGreatDoor
namespace Go.Proofs.YtoibaecagklkaaaGreatDoor.Sx
open Go
theorem MU {P:Program}{f:FuncId}{fn:Func}(hf:P.funcs[f]?=D fn) (hn:(fn.name== "runtime.NumGoroutine")=q) (hb:fn.body.isSome=A) {n:Nat} {spec:List SV->Option (Prop×cL)}
  (h: ∀ args p a,spec args=D (p,a)->p->∃ cfg args',Good P cfg/\(∀ E,SV.vals E args'=SV.vals E args)/\SV.fH 0 args'=A/\a.Ok/\aB (fG P (calling P cfg n) [] Ad (cfg.bx f) cfg.rounds fn args' [] 0 (λv m _=>a.fit v m))):az P f (cH spec):=by
 intro args m nx K hk hwf hargs Γ E w hs;unfold cH at hk;split at hk
 ·rename_i p a hr;obtain⟨hp,hk⟩:=hk;obtain⟨cfg,args',hg,e,h1,h2,h3⟩:=h _ _ _ hr hp;have hc:=eV hg hf hn hb h3 rfl h1 (aL.none w hs.KU);rw[SV.sY h1 (λ_=>0) E,e,pX] at hc;refine fV hf hn hb (hc.mono ?_);rintro e w' ⟨v,rfl,E',sv,m',nx',_,_,g3,g4,g5⟩;refine⟨v,rfl,?_⟩;cases sv with
  | none=>exact g5.elim
  | some u=>rw[g3 u rfl];exact cL.told hs hwf g4 h2 g5 hk
 ·exact hk.elim
theorem eJ {P:Program}{f:FuncId}{spec:List SV->Option (Prop×SV)}(h:az P f (cH λargs=>(spec args).map λp=>(p.1,.ret p.2))):az P f (aY spec):=by
 intro args m nx K hk;refine h args m nx K ?_;unfold aY at hk;unfold cH;split at hk
 ·rename_i p r hr;simp only[hr,Option.map_some];exact hk
 ·exact hk.elim
end Go.Proofs.YtoibaecagklkaaaGreatDoor.Sx
namespace Go.Proofs.YtoibaecagklkaaaGreatDoor
open Go Sx
set_option maxRecDepth 20000
structure cT (n:Nat)(t:Nat->Bool)(i:Nat):Prop where
 le:i<=n
 all: ∀ j,j<i->t j=A
noncomputable def Ki (tmp n:Nat)(t:Nat->Bool):aV :={α:=Nat,pre:=λ_ i=>cT n t i,kT:=λ_ i=>n - i,fresh:=0,slots:=λ_ i=>[(tmp,.int .i64 q i)],mem:=λ_ _=>[]}
def F9 (p:List UInt8)(i:Nat):Bool:=!decide (15<ai p i)
def gY (p:List UInt8):Bool:=(Y p.length).all (F9 p)
noncomputable def RL (p:List UInt8):fJ:={cm with cG:=λf=>aE f Bv,bx:=λf=>if f=169 then [(2,always (Ki 6 p.length (F9 p)))] else []}
theorem Zs (p:List UInt8):Sx.Good H (RL p):=.of bR nT bl
def kI (k:List UInt8)(j:Nat):Int:=if j% 2=0 then ai k (j / 2) / 16 else ai k (j / 2)% 16
def ak (k:List UInt8):List UInt8:=di (kI k) 0 (2*k.length)
noncomputable def VT (k:List UInt8):aV :=
 {α:=Nat×Nat,pre:=λ_ x=>x.1<=k.length/\2*x.1<=x.2,kT:=λ_ x=>k.length - x.1,fresh:=1,slots:=λst x=>[(11,.int .i64 q x.1),(3,.aZ st.nx 1 q 0 (2*x.1) x.2)],
  mem:=λst x=>[(st.nx,.rows q (2*x.1) [.int .u8 (kI k)] q x.2 5)]}
noncomputable def RJ (k:List UInt8):fJ:={cm with cG:=λf=>aE f Bv,bx:=λf=>if f=58 then [(3,always (VT k))] else []}
theorem Zq (k:List UInt8):Sx.Good H (RJ k):=.of bR nT bl
def iu (p:List UInt8)(j:Nat):Int:=bitsOf .or (ai p (2*(j:Int))*16% 256) (ai p (2*(j:Int)+1))
def aX (p:List UInt8):List UInt8:=di (iu p) 0 (p.length / 2)
noncomputable def Rh (p:List UInt8):aV :=
 {α:=Nat×(Nat->Int),pre:=λ_ x=>x.1<=p.length / 2/\∀ j,j<x.1->x.2 j=iu p j,kT:=λ_ x=>p.length / 2 - x.1,fresh:=0,slots:=λ_ x=>[(11,.int .i64 q x.1)],
  mem:=λst x=>match slot st.tmps 3 with
   | some (.aZ k _ _ _ _ _)=>(match st.m.get k with
     | some (.rows z n _ ro tot ty)=>[(k,.rows z n [.int .u8 x.2] ro tot ty)]
     | _=>[])
   | _=>[]}
noncomputable def RK (p:List UInt8):fJ:={cm with cG:=λf=>aE f Bv,bx:=λf=>if f=170 then [(3,always (Rh p))] else []}
theorem Zr (p:List UInt8):Sx.Good H (RK p):=.of bR nT bl
def ga (leaf odd:Bool):Int:=(bif leaf then 2 else 0)+(bif odd then 1 else 0)
theorem Vd (p:List UInt8)(R:SV->Prop):VC.holds (eD (RL p) 169 bf [.str q p] R)=(((∃(u2:Nat),cT p.length (F9 p) u2/\0=(u2:Int)/\True)/\∀(u1:Nat),cT p.length (F9 p) u1->(C ((u1:Int)<(p.length:Int))=A->(0<=(u1:Int)/\(u1:Int)<(p.length:Int))/\(C (15<ai p (u1:Int))=A->R (SV.bool A q))/\(C (15<ai p (u1:Int))=q->I6 ((u1:Int)+1)/\∃(u0:Nat),(cT p.length (F9 p) u0/\p.length - u0<p.length - u1)/\(u1:Int)+1=(u0:Int)/\True))/\(C ((u1:Int)<(p.length:Int))=q->R (SV.bool A A)))):=by kernel_rfl
theorem XA (k:List UInt8)(R:SV->Prop):VC.holds (eD (RJ k) 58 cl [.str q k] R)=((((-9223372036854775808:Int)<=2*(k.length:Int)/\2*(k.length:Int)<=9223372036854775807)/\((0:Int)<=2*(k.length:Int)/\1*(2*(k.length:Int))<=140737488355328/\2*(k.length:Int)<=9223372036854775807)/\(∃(u4:Nat×Nat),(u4.1<=k.length/\2*u4.1<=u4.2)/\0=(u4.1:Int)/\((0:Nat)=(0:Nat)/\(0:Nat)=2*u4.1/\(2*(k.length:Int)).toNat=u4.2)/\True/\aa (SB.cells [] ((2*(k.length:Int)).toNat*1) 5) (SB.rows q (2*u4.1) [aq.int L (kI k)] q u4.2 5)/\True)/\∀(u3:Nat×Nat),u3.1<=k.length/\2*u3.1<=u3.2->(C ((u3.1:Int)<(k.length:Int))=A->(0<=(u3.1:Int)/\(u3.1:Int)<(k.length:Int))/\(0<=(u3.1:Int)/\(u3.1:Int)<(k.length:Int))/\(0<=ai k (u3.1:Int)/\ai k (u3.1:Int)<=255/\(0:Int)<=(15:Int)/\(15:Int)<=(255:Int))/\((0:Nat)+2*u3.1<=2*u3.1/\True/\2*(2*u3.1+2)*1<=(281474976710656:Nat)/\2*u3.1+2<(9223372036854775808:Nat))/\u3.2=u3.2*1/\∀(u2:Nat),2*u3.1+2<=u2->((-9223372036854775808:Int)<=(u3.1:Int)+1 /\(u3.1:Int)+1<=(9223372036854775807:Int))/\∃(u1:Nat×Nat),((u1.1<=k.length/\2*u1.1<=u1.2)/\k.length - u1.1<k.length - u3.1)/\(u3.1:Int)+1=(u1.1:Int)/\((0:Nat)=(0:Nat)/\2*u3.1+2=2*u1.1/\u2=u1.2)/\True/\aa (SB.rows q (2*u3.1+2) [aq.int L fun(u0:Nat)=>if u0<2*u3.1 then kI k u0 else Db [ai k (u3.1:Int) / 16,bitsOf BinOp.and (ai k (u3.1:Int)) 15] (u0 - 2*u3.1)] q (u2*1) 5) (SB.rows q (2*u1.1) [aq.int L (kI k)] q u1.2 5)/\True)/\(C ((u3.1:Int)<(k.length:Int))=q->(0:Nat)+2*u3.1<=2*u3.1/\R (SV.str q (di (kI k) 0 (2*u3.1)))))):=by kernel_rfl
theorem Vc (p:List UInt8)(R:SV->Prop):VC.holds (eD (RK p) 170 bO [.str q p] R)=(((0<=(p.length:Int)/\(p.length:Int)<=9223372036854775807/\(0:Int)<(2:Int))/\((p.length:Int) / 2=(p.length:Int) / 2/\0<=(p.length:Int) / 2/\1*((p.length:Int) / 2)<=140737488355328/\(p.length:Int) / 2<=(9223372036854775807:Int))/\(∃(u7:Nat×(Nat->Int)),(u7.1<=p.length / 2/\∀(u6:Nat),u6<u7.1->u7.2 u6=iu p u6)/\0=(u7.1:Int)/\aa (SB.rows q ((p.length:Int) / 2).toNat [aq.int L fun(_:Nat)=>(0:Int)] q (((p.length:Int) / 2).toNat*1) 5) (SB.rows q ((p.length:Int) / 2).toNat [aq.int L u7.2] q (((p.length:Int) / 2).toNat*1) 5)/\True)/\∀(u4:Nat×(Nat->Int)),(u4.1<=p.length / 2/\∀(u3:Nat),u3<u4.1->u4.2 u3=iu p u3)->(C ((u4.1:Int)<(↑((p.length:Int) / 2).toNat:Int))=A->((-9223372036854775808:Int)<=2*(u4.1:Int)/\2*(u4.1:Int)<=9223372036854775807)/\((0:Int)<=2*(u4.1:Int)/\2*(u4.1:Int)<(p.length:Int))/\((-9223372036854775808:Int)<=2*(u4.1:Int)/\2*(u4.1:Int)<=9223372036854775807)/\((-9223372036854775808:Int)<=2*(u4.1:Int)+1 /\2*(u4.1:Int)+1<=(9223372036854775807:Int))/\((0:Int)<=2*(u4.1:Int)+1/\2*(u4.1:Int)+1<(p.length:Int))/\(0<=ai p (2*(u4.1:Int))*16% (256:Int)/\ai p (2*(u4.1:Int))*16% (256:Int)<=(255:Int)/\0<=ai p (2*(u4.1:Int)+1)/\ai p (2*(u4.1:Int)+1)<=255)/\(0<=(u4.1:Int)/\(u4.1:Int)<(↑((p.length:Int) / 2).toNat:Int))/\0+(u4.1:Int).toNat<((p.length:Int) / 2).toNat/\I6 ((u4.1:Int)+1)/\∃(u2:Nat×(Nat->Int)),((u2.1<=p.length / 2/\∀(u1:Nat),u1<u2.1->u2.2 u1=iu p u1)/\p.length / 2 - u2.1<p.length / 2 - u4.1)/\(u4.1:Int)+1=(u2.1:Int)/\aa (SB.rows q ((p.length:Int) / 2).toNat [aq.int L fun(u0:Nat)=>if u0=0+(u4.1:Int).toNat then bitsOf BinOp.or (ai p (2*(u4.1:Int))*16% (256:Int)) (ai p (2*(u4.1:Int)+1))else u4.2 u0] q (((p.length:Int) / 2).toNat*1) 5) (SB.rows q ((p.length:Int) / 2).toNat [aq.int L u2.2] q (((p.length:Int) / 2).toNat*1) 5)/\True) /\(C ((u4.1:Int)<(↑((p.length:Int) / 2).toNat:Int))=q->0+((p.length:Int) / 2).toNat<=((p.length:Int) / 2).toNat/\R (SV.str q (di u4.2 0 ((p.length:Int) / 2).toNat))))):=by kernel_rfl
theorem Xz (a b:Bool)(R:SV->Prop):VC.holds (eD aa9 220 c7 [.bool q a,.bool q b] R)=(((a=A->(b=A->R (SV.int .u8 A 3))/\(b=q->(a=A->R (SV.int .u8 A 2))/\(a=q->(b=A->R (SV.int .u8 A 1))/\(b=q->R (SV.int .u8 A 0)))))/\(a=q->(a=A->R (SV.int .u8 A 2))/\(a=q->(b=A->R (SV.int .u8 A 1))/\(b=q->R (SV.int .u8 A 0)))))):=by kernel_rfl
theorem cM {l:Bool}{a b:Bool}(h:a=b):af (.bool l a) (.bool q b):=λE=>by subst h;rfl
theorem cT.next {n:Nat}{t:Nat->Bool}{i:Nat}(h:cT n t i)(hi:(i:Int)<(n:Int))(ht:t i=A):cT n t (i+1) :=
 ⟨by omega,λj hj=>by
  by_cases e:j=i
  ·subst e;exact ht
  ·exact h.all j (by omega)⟩
theorem cT.zero (n:Nat)(t:Nat->Bool):cT n t 0:=⟨aK _,λ_j hj=>absurd hj (an _)⟩
theorem cT.done {n:Nat}{t:Nat->Bool}{i:Nat}(h:cT n t i)(hi: ¬ (i:Int)<(n:Int)):(Y n).all t=true:=by rw[List.all_eq_true];intro j hj;have:=cy.1 hj;exact h.all j (by omega)
theorem all_none {n i:Nat}{t:Nat->Bool}(hi:(i:Int)<(n:Int))(ht:t i=q):(Y n).all t=false:=by rw[List.all_eq_false];exact⟨i,cy.2 (by omega),by rw[ht];decide⟩
theorem Ge {p:List UInt8}(hp:p.length<1152921504606846976):aB (eD (RL p) 169 bf [.str q p] (λv=>af v (.bool q (gY p)))):=by
 refine aB.of_eq (Vd p _) ?_;refine⟨⟨0,cT.zero _ _,rfl,trivial⟩,λx hx=>⟨λh=> ?_,λh=> ?_⟩⟩
 ·have h:(x:Int)<(p.length:Int):=of_decide_eq_true h;refine⟨by omega,λg=>cM ?_,λg=>⟨by omega,x+1,⟨hx.next h ?_,by omega⟩,by omega,trivial⟩⟩
  ·exact(all_none h (by rw[F9,g];rfl)).symm
  ·rw[F9,g];rfl
 ·have h: ¬ (x:Int)<(p.length:Int):=of_decide_eq_false h;exact cM (hx.done h).symm
def pn:List SV->Option (Prop×SV)
 | [.str q p]=>D (p.length<1152921504606846976,.bool q (gY p))
 | _=>G
theorem En:az H 169 (aY pn):=by
 refine eJ (ew (n:=20) (fn:=bf) Tryz.func169 (by kernel_rfl) (by kernel_rfl) ?_);intro args p a h hp;unfold pn at h;split at h
 ·injection h with h;injection h with h1 h2;subst h1;subst h2;exact⟨_,Zs _,rfl,rfl,Ge hp⟩
 ·cases h
theorem aaX {b:Int}(h0:0<=b)(h1:b<256):bitsOf .and b 15=b% 16:=by obtain⟨n,rfl⟩:=Int.eq_ofNat_of_zero_le h0;show(((n:Int).toNat &&& (15:Int).toNat:Nat):Int)=_;have:n &&& 15=n% 16:=Nat.and_two_pow_sub_one_eq_mod n 4;simp only[X];rw[show(15:Int).toNat=15 from rfl,this];omega
theorem Jn {z z':Bool}{n n':Nat}{f g:Nat->Int}{tot tot':Nat}{ty:TypeId}(hz:z=z')(hn:n=n')(ht:tot=tot')(h: ∀ i,i<n->f i=g i):aa (.rows z n [.int .u8 f] q tot ty) (.rows z' n' [.int .u8 g] q tot' ty):=by
 subst hz;refine Sx.aa.EG hn ht rfl λi k c' hi hk=>⟨.int .u8 f,?_,?_⟩
 ·match k,hk with
  | 0,_=>rfl
 ·match k,hk with
  | 0,hk =>simp only[dR,Option.some.injEq] at hk;subst hk;simp only[aq.at,h i hi]
theorem Qe {tot tot':Nat}{ty:TypeId}{ay:List aq}{z:Bool}(h:tot=tot'):aa (.cells [] tot ty) (.rows z 0 ay q tot' ty):=by subst h;refine aa.of rfl rfl λ_=> ?_;refine⟨rfl,λE o ⟨c,fr,h1,h2,_,h4⟩=>⟨c,fr,h1,λ_=>h2,by omega,h4,λi k col hi=>absurd hi (an _)⟩,λ_=>rfl⟩
theorem LO (k:List UInt8)(x i:Nat)(hi:i<2*x+2)(h1: ¬ i<2*x):Db [ai k (x:Int) / 16,bitsOf .and (ai k (x:Int)) 15] (i - 2*x)=kI k i:=by
 have hb:=eO k (x:Int);rw[aaX hb.1 hb.2];unfold kI;by_cases e:i=2*x
 ·subst e;have e2:2*x / 2=x:=by omega
  rw[if_pos (by omega),show((2*x:Nat):Int) / 2=(x:Int)by omega,Nat.sub_self];rfl
 ·have e:i=2*x+1:=by omega
  subst e;rw[if_neg (by omega),show((2*x+1:Nat):Int) / 2=(x:Int)by omega,show 2*x+1 - 2*x=1 by omega];rfl
theorem IU {k:List UInt8}(hk:k.length<1099511627776):aB (eD (RJ k) 58 cl [.str q k] (λv=>af v (.str q (ak k)))):=by
 refine aB.of_eq (XA k _) ?_;refine⟨by omega,by omega,⟨(0,2*k.length),⟨aK _,aK _⟩,rfl,⟨rfl,rfl,by omega⟩,trivial,Qe (by omega),trivial⟩,λx hx=>⟨λh=> ?_,λh=> ?_⟩⟩
 ·have h:(x.1:Int)<(k.length:Int):=of_decide_eq_true h;have hb:=eO k (x.1:Int);refine⟨by omega,by omega,by omega,⟨by omega,trivial,by omega,by omega⟩,by omega,λc hc=>⟨by omega,(x.1+1,c),⟨⟨by show x.1+1<=_;omega,by show 2*(x.1+1)<=c;omega⟩,by show _ - (x.1+1)<_;omega⟩,by show(x.1:Int)+1=((x.1+1:Nat):Int);omega,⟨rfl,rfl,rfl⟩,trivial,Jn rfl rfl (Nat.mul_one c) λi hi=> ?_,trivial⟩⟩;by_cases h1:i<2*x.1
  ·rw[if_pos h1]
  ·rw[if_neg h1];exact LO k x.1 i hi h1
 ·have h: ¬ (x.1:Int)<(k.length:Int):=of_decide_eq_false h;have e:x.1=k.length:=by have:=hx.1;omega
  exact⟨by omega,gQ (by rw[e];rfl)⟩
def sH:List SV->Option (Prop×SV)
 | [.str q k]=>D (k.length<1099511627776,.str q (ak k))
 | _=>G
theorem IV:az H 58 (aY sH):=by
 refine eJ (ew (n:=20) (fn:=cl) Tryz.func58 (by kernel_rfl) (by kernel_rfl) ?_);intro args p a h hp;unfold sH at h;split at h
 ·injection h with h;injection h with h1 h2;subst h1;subst h2;exact⟨_,Zq _,rfl,rfl,IU hp⟩
 ·cases h
theorem Gc {p:List UInt8}(hp:p.length<1099511627776):aB (eD (RK p) 170 bO [.str q p] (λv=>af v (.str q (aX p)))):=by
 refine aB.of_eq (Vc p _) ?_;have e:((p.length:Int) / 2).toNat=p.length / 2:=by omega
 rw[e];refine⟨by omega,⟨rfl,by omega,by omega,by omega⟩,⟨(0,λ_=>0),⟨aK _,λj hj=>absurd hj (an _)⟩,rfl,aa.refl _,trivial⟩,λx hx=>⟨λh=> ?_,λh=> ?_⟩⟩
 ·have h:(x.1:Int)<((p.length / 2:Nat):Int):=of_decide_eq_true h;have b1:=eO p (2*(x.1:Int));have b2:=eO p (2*(x.1:Int)+1);refine⟨by omega,by omega,by omega,by omega,by omega,by omega,by omega,by omega,by omega,(x.1+1,λj=>if j=x.1 then iu p x.1 else x.2 j),⟨⟨by show x.1+1<=_;omega,λj hj=> ?_⟩,by show _ - (x.1+1)<_;omega⟩,by show(x.1:Int)+1=((x.1+1:Nat):Int);omega,?_,trivial⟩
  ·show(if j=x.1 then iu p x.1 else x.2 j)=iu p j
   by_cases ej:j=x.1
   ·rw[if_pos ej,ej]
   ·rw[if_neg ej];exact hx.2 j (by have:j<x.1+1:=hj;omega)
  ·refine Jn rfl rfl rfl λi hi=> ?_;simp only[ec,X];rfl
 ·have h: ¬ (x.1:Int)<((p.length / 2:Nat):Int):=of_decide_eq_false h;have e1:x.1=p.length / 2:=by have:=hx.1;omega
  refine⟨by omega,gQ ?_⟩;unfold aX di;apply List.map_congr_left;intro j hj;rw[cy] at hj;rw[ec,hx.2 j (by omega)]
def pg:List SV->Option (Prop×SV)
 | [.str q p]=>D (p.length<1099511627776,.str q (aX p))
 | _=>G
theorem Em:az H 170 (aY pg):=by
 refine eJ (ew (n:=20) (fn:=bO) Tryz.func170 (by kernel_rfl) (by kernel_rfl) ?_);intro args p a h hp;unfold pg at h;split at h
 ·injection h with h;injection h with h1 h2;subst h1;subst h2;exact⟨_,Zr _,rfl,rfl,Gc hp⟩
 ·cases h
def xW:List SV->Option (Prop×SV)
 | [.bool q a,.bool q b]=>D (True,.int .u8 q (ga a b))
 | _=>G
theorem TU:az H 220 (aY xW):=by
 refine iJ abe (n:=20) (fn:=c7) Tryz.func220 (by kernel_rfl) (by kernel_rfl) ?_;intro args p r h hp;unfold xW at h;split at h
 ·rename_i a b;injection h with h;injection h with h1 h2;subst h1;subst h2;refine⟨rfl,rfl,aB.of_eq (Xz a b _) ?_⟩;cases a<;>cases b<;>simp[af,SV.val,ga]
 ·cases h
noncomputable def Tt:List (FuncId×PT):=(169,aY pn)::(58,aY sH)::(170,aY pg)::(220,aY xW)::Bv
theorem Pc:bn H (λf=>aE f Tt):=.cons En (aR _) (.cons IV (aR _) (.cons Em (aR _) (.cons TU (aR _) nT)))
noncomputable def Hf:fJ:={cm with cG:=λf=>aE f Tt}
theorem SS:Sx.Good H Hf:=.of bR Pc bl
def dG (p:List UInt8)(leaf:Bool):List UInt8:=aX (J (ga leaf (C ((p.length:Int)% 2=1))).toNat::(bif C ((p.length:Int)% 2=1)then p else 0::p))
def TY (p:List UInt8)(leaf:Bool):cL:=.fork (gY p) λb=>match b with
 | true=>.ret (.aN [.str q (dG p leaf),.bool A A])
 | false=>.ret (.aN [.str A [],.bool A q])
def fF (s:List UInt8):Bool:=C (ak s≠[])&&C (ai (ak s) 0<=3)&&(C (ai (ak s) 0% 2=1)||decide (ai (ak s) 1=0))
def dK (s:List UInt8):Bool:=C (2<=ai (ak s) 0)
def eo (s:List UInt8):List UInt8:=if ai (ak s) 0% 2=1 then(ak s).drop 1 else(ak s).drop 2
def TV (s:List UInt8):cL:=.fork (fF s) λb=>match b with
 | true=>.ret (.aN [.str q (eo s),.bool q (dK s),.bool A A])
 | false=>.ret (.aN [.str A [],.bool A q,.bool A q])
theorem aaD (p:List UInt8)(leaf:Bool):VC.holds (hJ Hf 210 b_ [.str q p,.bool q leaf] (TY p leaf))=((p.length<1152921504606846976/\((!gY p)=A->(gY p=A->af (SV.aN [SV.str A [],SV.bool A q]) (SV.aN [SV.str q (dG p leaf),SV.bool A A]))/\(gY p=q->af (SV.aN [SV.str A [],SV.bool A q]) (SV.aN [SV.str A [],SV.bool A q])))/\((!gY p)=q->(0<=(p.length:Int)/\(p.length:Int)<=9223372036854775807/\(0:Int)<(2:Int))/\True/\(0<=(p.length:Int)/\(p.length:Int)<=9223372036854775807/\(0:Int)<(2:Int))/\((!decide ((p.length:Int)% 2=(1:Int)))=A->(↑(1:Nat):Int)+1<=(9223372036854775807:Int)/\(↑(2:Nat):Int)+(p.length:Int)<=9223372036854775807/\(cat (cat [J (ga leaf (C ((p.length:Int)% 2=(1:Int)))).toNat] [(0:UInt8)]) p).length<1099511627776/\(gY p=A->af (SV.aN [SV.str q (aX (cat (cat [J (ga leaf (C ((p.length:Int)% 2=(1:Int)))).toNat] [(0:UInt8)]) p)),SV.bool A A]) (SV.aN [SV.str q (dG p leaf),SV.bool A A]))/\(gY p=q ->af (SV.aN [SV.str q (aX (cat (cat [J (ga leaf (C ((p.length:Int)% 2=(1:Int)))).toNat] [(0:UInt8)]) p)),SV.bool A A]) (SV.aN [SV.str A [],SV.bool A q])))/\((!decide ((p.length:Int)% 2=(1:Int)))=q->(↑(1:Nat):Int)+(p.length:Int)<=9223372036854775807/\(cat [J (ga leaf (C ((p.length:Int)% 2=(1:Int)))).toNat] p).length<1099511627776/\(gY p=A->af (SV.aN [SV.str q (aX (cat [J (ga leaf (C ((p.length:Int)% 2=(1:Int)))).toNat] p)),SV.bool A A]) (SV.aN [SV.str q (dG p leaf),SV.bool A A]))/\(gY p=q->af (SV.aN [SV.str q (aX (cat [J (ga leaf (C ((p.length:Int)% 2=(1:Int)))).toNat] p)),SV.bool A A]) (SV.aN [SV.str A [],SV.bool A q])))))):=by kernel_rfl
theorem aaC (s:List UInt8):VC.holds (hJ Hf 217 b! [.str q s] (TV s))=((λP0:SV=>((λP1:SV=>((λP2:List UInt8=>((λP3:List UInt8=>((s.length<1099511627776/\(C (ak s=[])=A->(fF s=A->af P0 P1)/\(fF s=q->af P0 P0))/\(C (ak s=[])=q->((0:Int)<=(0:Int)/\0<(↑(ak s).length:Int))/\(C (ai (ak s) 0=(3:Int))=A->((0:Int)<=(1:Int)/\1<=(↑(ak s).length:Int)/\(↑(ak s).length:Int)<=(↑(ak s).length:Int))/\(fF s=A->af (SV.aN [SV.str (q&&A&&q) P2,SV.bool A A,SV.bool A A]) P1)/\(fF s=q->af (SV.aN [SV.str (q&&A&&q) P2,SV.bool A A,SV.bool A A]) P0))/\(C (ai (ak s) 0=(3:Int))=q->(C (ai (ak s) 0=(2:Int))=A->((0:Int)<=(1:Int)/\1<(↑(ak s).length:Int))/\((!decide (ai (ak s) 1=(0:Int)))=A->(fF s=A->af P0 P1)/\(fF s=q->af P0 P0))/\((!decide (ai (ak s) 1=(0:Int)))=q->((0:Int)<=(2:Int)/\2<=(↑(ak s).length:Int)/\(↑(ak s).length:Int)<=(↑(ak s).length:Int))/\(fF s=A->af (SV.aN [SV.str (q&&A&&q) P3,SV.bool A A,SV.bool A A]) P1) /\(fF s=q->af (SV.aN [SV.str (q&&A&&q) P3,SV.bool A A,SV.bool A A]) P0)))/\(C (ai (ak s) 0=(2:Int))=q->(C (ai (ak s) 0=(1:Int))=A->((0:Int)<=(1:Int)/\1<=(↑(ak s).length:Int)/\(↑(ak s).length:Int)<=(↑(ak s).length:Int))/\(fF s=A->af (SV.aN [SV.str (q&&A&&q) P2,SV.bool A q,SV.bool A A]) P1)/\(fF s=q->af (SV.aN [SV.str (q&&A&&q) P2,SV.bool A q,SV.bool A A]) P0))/\(C (ai (ak s) 0=(1:Int))=q->(C (ai (ak s) 0=(0:Int))=A->((0:Int)<=(1:Int)/\1<(↑(ak s).length:Int))/\((!decide (ai (ak s) 1=(0:Int)))=A->(fF s=A->af P0 P1)/\(fF s=q->af P0 P0))/\((!decide (ai (ak s) 1=(0:Int)))=q->((0:Int)<=(2:Int)/\2<=(↑(ak s).length:Int)/\(↑(ak s).length:Int)<=(↑(ak s).length:Int))/\(fF s=A->af (SV.aN [SV.str (q&&A&&q) P3,SV.bool A q,SV.bool A A]) P1)/\(fF s=q ->af (SV.aN [SV.str (q&&A&&q) P3,SV.bool A q,SV.bool A A]) P0)))/\(C (ai (ak s) 0=(0:Int))=q->(fF s=A->af P0 P1)/\(fF s=q->af P0 P0))))))))) (cj (ak s) (D (Operand.const (Value.int c4 2))) G 2 (↑(ak s).length:Int)))) (cj (ak s) (D (Operand.const (Value.int c4 1))) G 1 (↑(ak s).length:Int)))) (SV.aN [SV.str q (eo s),SV.bool q (dK s),SV.bool A A]))) (SV.aN [SV.str A [],SV.bool A q,SV.bool A q])):=by kernel_rfl
theorem vL {a b:List UInt8}{i:Int}(h:i<=a.length):part (a++b) i=part a i:=by
 unfold part;by_cases h1:1<=i
 ·have hl:1<=a.length:=by omega
  rw[S hl,Z (by simp only[Q];omega)]
 ·have:(i - 1).toNat=0:=by omega
  rw[this];rfl
theorem Tk {a b:List UInt8}{i:Int}(h2:2<=i)(h:jP a i=A):jP (a++b) i=true:=by
 obtain⟨h1,h3,h4,h5⟩:=iz.1 h;refine iz.2 ⟨by simp only[M];omega,?_,?_,?_⟩
 ·rw[ko (by omega) (by omega)];exact h3
 ·rw[vL h1];exact h4
 ·rw[vL h1];exact h5
theorem Fj {a:List UInt8}(h:bM a=A)(b:List UInt8):bM (a++b)=A/\dj (a++b)=dj a/\ah (a++b)=ah a/\aH (a++b)=aH a++b:=by
 obtain⟨h0,hc⟩:=fj.1 h;have hl:=cx.2 h0;have e0:ai (a++b) 0=ai a 0:=ko (c8 _) (by omega);have el:lead (a++b)=lead a:=by unfold lead;rw[e0]
 have eL:dj (a++b)=dj a:=by unfold dj;rw[e0]
 have hne:a++b≠[]:=by simp[h0]
 refine⟨?_,eL,?_⟩
 ·refine fj.2 ⟨hne,?_⟩;rw[e0,el];rcases hc with hA | ⟨hA,hB,hC,hD⟩ | ⟨hA,hB,hC,hD⟩
  ·exact .inl hA
  ·have hq:=(iz.1 hC).1;exact .inr (.inl ⟨hA,hB,Tk (by omega) hC,by rw[vL hq];simp only[M];omega⟩)
  ·exact .inr (.inr ⟨hA,hB,by simp only[M];omega,fun⟨x,y,z⟩=>hD ⟨x,y,by rwa [ko (by omega) (by omega)] at z⟩⟩)
 ·rcases hc with hA | ⟨hA,hB,hC,hD⟩ | ⟨hA,hB,hC,hD⟩
  ·obtain⟨_,k2,k3⟩:=lC hA;obtain⟨_,j2,j3⟩:=lC (s:=a++b) (by rw[e0];exact hA);rw[k2,k3,j2,j3];exact⟨Z (by omega),S (by omega)⟩
  ·have hq:=(iz.1 hC).1;have hp:=sI a (lead a - 54);obtain⟨k2,k3⟩:=lP hA hB;obtain⟨j2,j3⟩:=lP (s:=a++b) (by rw[e0];exact hA) (by rw[el];exact hB);rw[k2,k3,j2,j3,el,vL hq];constructor
   ·rw[S (by omega),Z (by simp only[Q];omega)]
   ·rw[S (by omega)]
  ·have hn:=FM hA;obtain⟨k2,k3⟩:=oL hA hB;obtain⟨j2,j3⟩:=oL (s:=a++b) (by rw[e0];exact hA) (by rw[el];exact hB);rw[k2,k3,j2,j3,el];have e1:(1:Int).toNat=1:=rfl;rw[e1];constructor
   ·rw[S (by omega),Z (by simp only[Q];omega)]
   ·rw[S (by omega)]
theorem K6 {a:List UInt8}(h:bM a=A)(b:List UInt8):uk (a++b)=uk a:=by
 unfold uk;rw[(Fj h b).2.2.2,M,M];have:a.length+b.length - ((aH a).length+b.length)=a.length - (aH a).length:=by omega
 rw[this,Z (by omega)]
theorem Walk.app {a:List UInt8}(b:List UInt8): ∀ {k:Nat},Walk a k->aW (a++b) k=aW a k++b
 | 0,_=>by simp only[aW]
 | k+1,h=>by have h1:=Walk.app b (k:=k) (λj hj=>h j (by omega));simp only[aW];rw[h1,(Fj (h k (by omega)).2 b).2.2.2]
theorem Walk.take {a:List UInt8}{k j:Nat}(h:Walk a k)(hj:j<=k):Walk a j:=λi hi=>h i (by omega)
theorem Walk.join {a:List UInt8}(b:List UInt8){k:Nat}(h:Walk a k):Walk (a++b) k:=λj hj=>by rw[(h.take (j:=j) (by omega)).app b];obtain⟨h1,h2⟩:=h j hj;exact⟨by simp[h1],(Fj h2 b).1⟩
theorem Walk.item {a:List UInt8}(b:List UInt8){k j:Nat}(h:Walk a k)(hj:j<k):ax (a++b) j=ax a j:=by unfold ax;rw[(h.take (j:=j) (by omega)).app b,K6 (h j hj).2]
theorem Lc (n:Nat): ∀(s:List UInt8),s.length<=n->dN s=A->Walk s (bI s)/\aW s (bI s)=[]:=by
 have nil: ∀ s:List UInt8,s=[]->Walk s (bI s)/\aW s (bI s)=[]:=by intro s hs;rw[hs,jN.2];exact⟨λj hj=>absurd hj (an _),by simp only[aW]⟩
 induction n with
 | zero=>exact λs h _=>nil s (List.length_eq_zero_iff.1 (by omega))
 | succ n ih =>
   intro s h hb;by_cases hne:s=[]
   ·exact nil s hne
   ·have hc:bM s=true:=by
     cases hc:bM s with
     | false=>rw[DO hne hc] at hb;cases hb
     | true=>rfl
    obtain⟨h1,h2⟩:=xC hne hc;have hl:=AM hc;obtain⟨h3,h4⟩:=ih (aH s) (by omega) (by rw[← h1];exact hb);rw[h2];refine⟨λj hj=> ?_,by rw[kM];exact h4⟩;cases j with
    | zero=>simp only[aW];exact⟨hne,hc⟩
    | succ j=>rw[kM];exact h3 j (by omega)
theorem Cg (s:List UInt8)(k:Nat): ∀ j,aW s (k+j)=aW (aW s k) j
 | 0=>by simp only[aW,Nat.add_zero]
 | j+1=>by rw[← Nat.add_assoc,aW,Cg s k j];simp only[aW]
theorem Lb {a:List UInt8}(h:dN a=A)(b:List UInt8):dN (a++b)=dN b/\bI (a++b)=bI a+bI b /\
  (∀ j,j<bI a->ax (a++b) j=ax a j)/\∀ j,ax (a++b) (bI a+j)=ax b j:=by
 obtain⟨h1,h2⟩:=Lc a.length a (d! _) h;have h3:=h1.app b;rw[h2,List.nil_append] at h3;obtain⟨h4,h5⟩:=(h1.join b).items;rw[h3] at h4 h5;refine⟨h4,by omega,λj hj=>h1.item b hj,λj=> ?_⟩;unfold ax;rw[Cg,h3]
theorem T7 {s:List UInt8}(h:bM s=A)(h2:aH s=[]):dN s=A/\bI s=1/\ax s 0=s:=by have hne:=(fj.1 h).1;obtain⟨g1,g2⟩:=xC hne h;rw[h2] at g1 g2;refine⟨by rw[g1];exact jN.1,by rw[g2,jN.2],?_⟩;unfold ax uk;simp only[aW];rw[h2,ct,Nat.sub_zero,List.take_length]
theorem OS (a:List UInt8)(r:List (List UInt8)):flat (a::r)=a++flat r:=by simp[flat]
theorem AX: ∀(l:List (List UInt8)),(∀ x∈ l,bM x=A/\aH x=[])->dN (flat l)=A/\bI (flat l)=l.length/\∀(j:Nat) (x:List UInt8),l[j]?=D x->ax (flat l) j=x
 | [],_=>⟨jN.1,jN.2,λj x h=>by simp at h⟩
 | a::r,h=>by
   obtain⟨h1,h2⟩:=h a (by simp);obtain⟨o1,o2,o3⟩:=T7 h1 h2;obtain⟨g1,g2,g3⟩:=AX r λx hx=>h x (by simp[hx]);obtain⟨j1,j2,j3,j4⟩:=Lb o1 (flat r);rw[OS];refine⟨by rw[j1];exact g1,by rw[j2,o2,g2,N];omega,λj x hx=> ?_⟩;cases j with
   | zero =>simp only[dR,Option.some.injEq] at hx;rw[j3 0 (by omega),o3,hx]
   | succ j =>have:=j4 j;rw[o2] at this;rw[Nat.add_comm j 1,this];exact g3 j x (by simpa using hx)
theorem TC {l:List (List UInt8)}(hl:(flat l).length<=1048576)(rest:List UInt8) :
  bM (bV 192 (flat l).length++flat l++rest)=A/\dj (bV 192 (flat l).length++flat l++rest)=A/\ah (bV 192 (flat l).length++flat l++rest)=flat l/\aH (bV 192 (flat l).length++flat l++rest)=rest:=by
 obtain⟨h1,h2,h3,h4⟩:=Nj (.inr rfl) hl (λh=>by omega) rest;exact⟨h1,by rw[h2];rfl,h3,h4⟩
theorem KD (s:List UInt8):(aH s).length<=s.length:=by unfold aH;rw[Q];omega
theorem ED (s:List UInt8): ∀ k,(aW s k).length<=s.length
 | 0=>by simp only[aW];exact d! _
 | k+1=>by simp only[aW];exact Nat.le_trans (KD _) (ED s k)
theorem DN (s:List UInt8)(k:Nat):(ax s k).length<=s.length:=by have:=ED s k;unfold ax uk;rw[W];omega
theorem Hp (s:List UInt8):(ah s).length<=s.length:=by unfold ah;simp only[W,Q];omega
def eY (l:List (List UInt8)):List UInt8:=bV 192 (flat l).length++flat l
theorem yU (c:UInt8)(t:List UInt8):ai (c::t) 1=ai t 0:=by cases t<;>rfl
def mF (l:Bool)(b:List UInt8):List UInt8:=bif l then bV 192 b.length++b else aA b
theorem toNat_eq {a b:UInt8}(h:a.toNat=b.toNat):a=b:=UInt8.toNat_inj.1 h
theorem Fa {s:List UInt8}(h:s≠[]): ∃ b t,s=b::t/\ai s 0=(b.toNat:Int):=by
 cases s with
 | nil=>exact absurd rfl h
 | cons b t=>exact⟨b,t,rfl,rfl⟩
theorem Hq {s:List UInt8}(h:bM s=A):mF (dj s) (ah s)++aH s=s:=by
 obtain⟨h0,h⟩:=fj.1 h;obtain⟨b,t,rfl,hb⟩:=Fa h0;have hb8:=b.toNat_lt;rcases h with hA | ⟨hA,hL,hB,hP⟩ | ⟨hA,hL,hP,hN⟩
 ·obtain⟨k1,k2,k3⟩:=lC hA;rw[k1,k2,k3];simp only[mF,cond_false,List.take_succ_cons,List.take_zero,V,dD];rw[CC ⟨rfl,by rw[hb] at hA;exact hA⟩];rfl
 ·obtain⟨k1,k2⟩:=lP hA hL;obtain⟨g1,g2,g3,g4⟩:=iz.1 hB;have hl:=g1;simp only[N] at hl g1 hP;have hlead:lead (b::t)<64/\0<=lead (b::t):=by unfold lead;split<;>omega
  have hpn:=sI (b::t) (lead (b::t) - 54);have elen:(ah (b::t)).length=(part (b::t) (lead (b::t) - 54)).toNat:=by rw[k1];simp only[W,Q,N];omega
  have hd:digits (part (b::t) (lead (b::t) - 54))=t.take (lead (b::t) - 55).toNat:=by
   have e:part (b::t) (lead (b::t) - 54)=num (t.take (lead (b::t) - 55).toNat):=by unfold part;simp only[V,dD];congr 2;omega
   rw[e];refine ON (by simp only[W];omega) (.inr ?_);intro h;apply g2;rw[yU];have:ai (t.take (lead (b::t) - 55).toNat) 0=ai t 0:=by
    obtain⟨m,hm⟩: ∃ m,(lead (b::t) - 55).toNat=m+1:=⟨(lead (b::t) - 55).toNat - 1,by omega⟩
    rw[hm];cases t<;>rfl
   rw[← this];exact h
  have hhead: ∀ base:Int,lead (b::t)=ai (b::t) 0 - base->0<=base->bV base (ah (b::t)).length=b::t.take (lead (b::t) - 55).toNat:=by
   intro base hbase hb0;rw[DK (by rw[elen];omega),elen,show(((part (b::t) (lead (b::t) - 54)).toNat:Nat):Int)=part (b::t) (lead (b::t) - 54)by omega,hd];congr 1;apply toNat_eq;have:(base+55+((t.take (lead (b::t) - 55).toNat).length:Int)).toNat=b.toNat:=by rw[hb] at hbase;simp only[W];omega
   rw[this];simp
  have hcat: ∀ base:Int,lead (b::t)=ai (b::t) 0 - base->0<=base->bV base (ah (b::t)).length++ah (b::t)++aH (b::t)=b::t:=by
   intro base hbase hb0;rw[hhead base hbase hb0,k1,k2,c9];have e1:(lead (b::t) - 54).toNat=(lead (b::t) - 55).toNat+1:=by omega
   have e2:(lead (b::t) - 54+part (b::t) (lead (b::t) - 54)).toNat=(lead (b::t) - 55).toNat+1+(part (b::t) (lead (b::t) - 54)).toNat:=by omega
   rw[e1,e2];generalize (lead (b::t) - 55).toNat=k;generalize (part (b::t) (lead (b::t) - 54)).toNat=p;rw[show k+1+p=(k+p)+1 by omega];simp only[V,c_];rw[← c!,d_,d_]
  by_cases hC:ai (b::t) 0<192
  ·have e3:dj (b::t)=false:=by simp[dj];omega
   rw[e3,mF,cond_false,ou (by rw[elen];omega)];exact hcat 128 (Aa hC) (by omega)
  ·have e3:dj (b::t)=true:=by simp[dj];omega
   rw[e3,mF,cond_true];exact hcat 192 (z8 hC) (by omega)
 ·obtain⟨k1,k2⟩:=oL hA hL;simp only[N] at hP;have hlead:=FM hA;have elen:(ah (b::t)).length=(lead (b::t)).toNat:=by rw[k1];simp only[W,Q,N];omega
  have ein:ah (b::t)=t.take (lead (b::t)).toNat:=by rw[k1];rfl
  have hcat: ∀ base:Int,lead (b::t)=ai (b::t) 0 - base->0<=base->bV base (ah (b::t)).length++ah (b::t)++aH (b::t)=b::t:=by
   intro base hbase hb0;rw[A9 (by rw[elen];omega),elen,ein,k2];have:(base+((lead (b::t)).toNat:Int)).toNat=b.toNat:=by rw[hb] at hbase;omega
   rw[this,show(1+lead (b::t)).toNat=(lead (b::t)).toNat+1 by omega];simp
  by_cases hC:ai (b::t) 0<192
  ·have e3:dj (b::t)=false:=by simp[dj];omega
   rw[e3,mF,cond_false,ou ?_]
   ·exact hcat 128 (Aa hC) (by omega)
   ·rintro⟨h1,h2⟩;rw[elen] at h1;apply hN;refine⟨hC,by omega,?_⟩;rw[yU];rw[ein,h1] at h2;cases t with
    | nil=>exact h2
    | cons c u=>exact h2
  ·have e3:dj (b::t)=true:=by simp[dj];omega
   rw[e3,mF,cond_true];exact hcat 192 (z8 hC) (by omega)
theorem tj (f:Nat->Int)(i n:Nat):(di f i n).length=n:=by simp[di]
theorem n4 (k:List UInt8):(ak k).length=2*k.length:=tj _ _ _
theorem BW (p:List UInt8):(aX p).length=p.length / 2:=tj _ _ _
theorem EO {l:Bool}{a b:List UInt8}{l1 l2 x:Bool}(h:a=b):af (.aN [.str l a,.bool l1 x]) (.aN [.str q b,.bool l2 x]):=λE=>by subst h;rfl
theorem LU {p:List UInt8}(leaf:Bool)(hp:p.length<1073741824):aB (hJ Hf 210 b_ [.str q p,.bool q leaf] (TY p leaf)):=by
 refine aB.of_eq (aaD p leaf) ?_;cases gY p with
 | false=>exact⟨by omega,λ_=>⟨(λh=>by cases h),λ_ _=>rfl⟩,λh=>by cases h⟩
 | true =>
   refine⟨by omega,(λh=>by cases h),λ_=>⟨by omega,trivial,by omega,λh=> ?_,λh=> ?_⟩⟩
   ·have ho:C ((p.length:Int)% 2=1)=false:=by simpa using h
    refine⟨by omega,by omega,by simp only[cat,M,N,ct];omega,λ_=>EO ?_,λh=>by cases h⟩;rw[dG,ho];rfl
   ·have ho:C ((p.length:Int)% 2=1)=true:=by simpa using h
    refine⟨by omega,by simp only[cat,M,N,ct];omega,λ_=>EO ?_,λh=>by cases h⟩;rw[dG,ho];rfl
def BP:List SV->Option (Prop×cL)
 | [.str q p,.bool q leaf]=>D (p.length<1073741824,TY p leaf)
 | _=>G
theorem WO:az H 210 (cH BP):=by
 refine ew (n:=20) (fn:=b_) Tryz.func210 (by kernel_rfl) (by kernel_rfl) ?_;intro args p a h hp;unfold BP at h;split at h
 ·injection h with h;injection h with h1 h2;subst h1;subst h2;exact⟨_,SS,rfl,λb=>by cases b<;>exact rfl,LU _ hp⟩
 ·cases h
theorem sS {l:Bool}{a b:List UInt8}{l1 l2 l3 l4 x y z:Bool}(h:a=b)(h2:x=y):af (.aN [.str l a,.bool l1 x,.bool l2 z]) (.aN [.str q b,.bool l3 y,.bool l4 z]):=λE=>by subst h;subst h2;rfl
theorem vI {s:List UInt8}:fF s=A↔ak s≠[]/\ai (ak s) 0<=3/\(ai (ak s) 0% 2=1∨ai (ak s) 1=0):=by simp only[fF,a_,Bool.or_eq_true,decide_eq_true_eq,and_assoc]
theorem LN {s:List UInt8}(hs:s.length<1099511627776):aB (hJ Hf 217 b! [.str q s] (TV s)):=by
 refine aB.of_eq (aaC s) ?_;have hl:=n4 s;have b0:=eO (ak s) 0;have F: ∀ {p:Prop},¬ (ak s≠[]/\ai (ak s) 0<=3/\(ai (ak s) 0% 2=1∨ai (ak s) 1=0))->fF s=A->p:=λh h'=>absurd (vI.1 h') h;have T: ∀ {p:Prop},(ak s≠[]/\ai (ak s) 0<=3/\(ai (ak s) 0% 2=1∨ai (ak s) 1=0))->fF s=q->p:=λh h'=>by rw[vI.2 h] at h';cases h'
 have none':af (.aN [.str A [],.bool A q,.bool A q]) (.aN [.str A [],.bool A q,.bool A q]):=λ_=>rfl;have O:ai (ak s) 0% 2=1->(ak s).drop 1=eo s:=λh=>(if_pos h).symm;have Ev: ¬ ai (ak s) 0% 2=1->(ak s).drop 2=eo s:=λh=>(if_neg h).symm;refine⟨hs,λh=>⟨F (by simp at h;simp[h]),λ_=>none'⟩,λh=> ?_⟩;have h:ak s≠[]:=of_decide_eq_false h;have hp:=cx.2 h;refine⟨by omega,λa=> ?_,λa=>⟨λb=> ?_,λb=>⟨λc=> ?_,λc=>⟨λd=> ?_,λd=> ?_⟩⟩⟩⟩
 ·have a:=of_decide_eq_true a;refine⟨by omega,λ_=>sS (O (by omega)) (by simp[dK,a]),T ⟨h,by omega,.inl (by omega)⟩⟩
 ·have b:=of_decide_eq_true b;refine⟨by omega,λg=> ?_,λg=>⟨by omega,λ_=>sS (Ev (by omega)) (by simp[dK,b]),?_⟩⟩
  ·have g: ¬ ai (ak s) 1=0:=by simpa using g
   exact⟨F (by rintro⟨_,_,e | e⟩;omega;exact g e),λ_=>none'⟩
  ·have g:ai (ak s) 1=0:=by simpa using g
   exact T ⟨h,by omega,.inr g⟩
 ·have c:=of_decide_eq_true c;refine⟨by omega,λ_=>sS (O (by omega)) (by simp[dK,c]),T ⟨h,by omega,.inl (by omega)⟩⟩
 ·have d:=of_decide_eq_true d;refine⟨by omega,λg=> ?_,λg=>⟨by omega,λ_=>sS (Ev (by omega)) (by simp[dK,d]),?_⟩⟩
  ·have g: ¬ ai (ak s) 1=0:=by simpa using g
   exact⟨F (by rintro⟨_,_,e | e⟩;omega;exact g e),λ_=>none'⟩
  ·have g:ai (ak s) 1=0:=by simpa using g
   exact T ⟨h,by omega,.inr g⟩
 ·have a:=of_decide_eq_false a;have b:=of_decide_eq_false b;have c:=of_decide_eq_false c;have d:=of_decide_eq_false d;exact⟨F (by rintro⟨_,e,_⟩;omega),λ_=>none'⟩
def BL:List SV->Option (Prop×cL)
 | [.str q s]=>D (s.length<1099511627776,TV s)
 | _=>G
theorem WL:az H 217 (cH BL):=by
 refine ew (n:=20) (fn:=b!) Tryz.func217 (by kernel_rfl) (by kernel_rfl) ?_;intro args p a h hp;unfold BL at h;split at h
 ·injection h with h;injection h with h1 h2;subst h1;subst h2;exact⟨_,SS,rfl,λb=>by cases b<;>exact rfl,LN hp⟩
 ·cases h
noncomputable def FT:List (FuncId×PT):=(169,aY pn)::(210,cH BP)::(217,cH BL)::Bv
theorem xM:bn H (λf=>aE f FT):=.cons En (aR _) (.cons WO (b9 _) (.cons WL (b9 _) nT))
noncomputable def AG:fJ:={cm with cG:=λf=>aE f FT}
theorem zV:Sx.Good H AG:=.of bR xM bl
structure Nd where
 k:Int
 p:List UInt8
 v:List UInt8
 r:Nat->List UInt8
def Jc (r:Nat->List UInt8):List SV:=[.str q (r 0),.str q (r 1),.str q (r 2),.str q (r 3),.str q (r 4),.str q (r 5),.str q (r 6),.str q (r 7),.str q (r 8),.str q (r 9),.str q (r 10),.str q (r 11),.str q (r 12),.str q (r 13),.str q (r 14),.str q (r 15)]
def Nd.yx (x:Nd)(l:Bool)(k:Int):SV:=.agg (.int .i64 l k::.str q x.p::.str q x.v::Jc x.r)
def Nd.sv (x:Nd):SV:=x.yx q x.k
def dw:SV:=.agg [.int .i64 A 0,.str A [],.str A [],.str A [],.str A [],.str A [],.str A [],.str A [],.str A [],.str A [],.str A [],.str A [],.str A [],.str A [],.str A [],.str A [],.str A [],.str A [],.str A []]
def LK:List SV->Option Nd
 | [.int .i64 q k,.str q p,.str q v,.str q r0,.str q r1,.str q r2,.str q r3,.str q r4,.str q r5,.str q r6,.str q r7,.str q r8,.str q r9,.str q r10,.str q r11,.str q r12,.str q r13,.str q r14,.str q r15]=>D ⟨k,p,v,λi=>[r0,r1,r2,r3,r4,r5,r6,r7,r8,r9,r10,r11,r12,r13,r14,r15].getD i []⟩
 | _=>G
theorem vH {l:List SV}{x:Nd}(h:LK l=D x):SV.agg l=x.sv:=by
 unfold LK at h;split at h
 ·injection h with h;subst h;rfl
 ·cases h
def cP (t:List UInt8):Bool:=bM t&& !dj t&&C (aH t=[])
def bw (t:List UInt8):Bool:=cP t&&C (((ah t).length:Int)=32)
def LZ (t:List UInt8):cL:=.fork (cP t) λb=>match b with
 | true=>.ret (.aN [.str q (ah t),.bool A A])
 | false=>.ret (.aN [.str A [],.bool A q])
def SZ (t:List UInt8):cL:=.fork (bw t) λb=>match b with
 | true=>.ret (.aN [.str q (ah t),.bool A A])
 | false=>.ret (.aN [.str A [],.bool A q])
def iq (x:Nd)(least:Int):Bool:=C (least<=(x.p.length:Int))&&C ((x.p.length:Int)<=12)&&gY x.p
def cr (r:Nat->List UInt8):Nat->Int
 | 0=>0
 | i+1=>if r i=[] then cr r i else(i:Int)+1
noncomputable def Oz (x:Nd):aV :=
 {α:=Nat,pre:=λ_ i=>i<=16,kT:=λ_ i=>16 - i,fresh:=0,slots:=λ_ i=>[(7,.int .i64 q i)],
  mem:=λ_ i=>[(1,.cells [.int .i64 q (cr x.r i)] 1 3)]}
noncomputable def RI (x:Nd):fJ:={cm with cG:=λf=>aE f FT,bx:=λf=>if f=201 then [(1,always (Oz x))] else []}
theorem Zp (x:Nd):Sx.Good H (RI x):=.of bR xM bl
theorem XC (t:List UInt8):VC.holds (hJ AG 184 bS [.str q t] (LZ t))=((λP0:SV=>((t.length<9223372036854775808/\(bM t=A->(dj t=A->(cP t=A->af P0 (SV.aN [SV.str q (ah t),SV.bool A A]))/\(cP t=q->af P0 P0))/\(dj t=q->((!decide (aH t=[]))=A->(cP t=A->af P0 (SV.aN [SV.str q (ah t),SV.bool A A]))/\(cP t=q->af P0 P0))/\((!decide (aH t=[]))=q->(cP t=A->af (SV.aN [SV.str q (ah t),SV.bool A A]) (SV.aN [SV.str q (ah t),SV.bool A A]))/\(cP t=q->af (SV.aN [SV.str q (ah t),SV.bool A A]) P0))))/\(bM t=q->(cP t=A->af P0 (SV.aN [SV.str q (ah t),SV.bool A A]))/\(cP t=q->af P0 P0))))) (SV.aN [SV.str A [],SV.bool A q])):=by kernel_rfl
theorem aay (t:List UInt8):VC.holds (hJ AG 151 a! [.str q t] (SZ t))=((λP0:SV=>((λP1:SV=>((t.length<9223372036854775808/\(bM t=A->(dj t=A->(bw t=A->af P0 P1)/\(bw t=q->af P0 P0))/\(dj t=q->((!decide (aH t=[]))=A->(bw t=A->af P0 P1)/\(bw t=q->af P0 P0))/\((!decide (aH t=[]))=q->((!decide ((↑(ah t).length:Int)=32))=A->(bw t=A->af P0 P1)/\(bw t=q->af P0 P0))/\((!decide ((↑(ah t).length:Int)=32))=q->(bw t=A->af P1 P1)/\(bw t=q->af P1 P0)))))/\(bM t=q->(bw t=A->af P0 P1)/\(bw t=q->af P0 P0))))) (SV.aN [SV.str q (ah t),SV.bool A A]))) (SV.aN [SV.str A [],SV.bool A q])):=by kernel_rfl
theorem Vf (x:Nd)(least:Int)(R:SV->Prop):VC.holds (eD AG 207 c6 [x.sv,.int .i64 q least] R)=(((C (least<=(x.p.length:Int))=A->(C ((x.p.length:Int)<=12)=A->x.p.length<1152921504606846976/\R (SV.bool q (gY x.p)))/\(C ((x.p.length:Int)<=12)=q->R (SV.bool A q)))/\(C (least<=(x.p.length:Int))=q->R (SV.bool A q)))):=by kernel_rfl
theorem U5 (x:Nd)(R:SV->Prop):VC.holds (eD (RI x) 208 bU [x.sv] R)=((λR0:Nat->SV=>((λP0:SB=>((∀(u4:Loop),(∃(u3:Nat),u3<=16/\0=(u3:Int)/\aa (SB.cells [SV.int .i64 A 0] 1 3) (SB.cells [SV.int .i64 q (cr x.r u3)] 1 3)/\aa (SB.loop I G u4) (SB.loop I G u4)/\aa P0 P0/\aa (SB.cells x.sv.cells 19 238) (SB.cells x.sv.cells 19 238)/\True)/\∀(u2:Nat),u2<=16->(C ((u2:Int)<16)=A->(0<=(u2:Int)/\(u2:Int)<16/\(u2:Int)<(↑(16:Nat):Int))/\((!decide (bP (cV x.r []) (u2:Int).toNat=[]))=A->u4=u4/\I6 ((u2:Int)+1)/\I6 ((u2:Int)+1)/\∃(u1:Nat),(u1<=16/\16 - u1<16 - u2)/\(u2:Int)+1=(u1:Int)/\aa (SB.cells [SV.int .i64 q ((u2:Int)+1)] 1 3) (SB.cells [SV.int .i64 q (cr x.r u1)] 1 3)/\aa (SB.loop I G u4) (SB.loop I G u4)/\aa P0 P0/\aa (SB.cells x.sv.cells 19 238) (SB.cells x.sv.cells 19 238)/\True) /\((!decide (bP (cV x.r []) (u2:Int).toNat=[]))=q->I6 ((u2:Int)+1)/\∃(u0:Nat),(u0<=16/\16 - u0<16 - u2)/\(u2:Int)+1=(u0:Int)/\aa (SB.cells [SV.int .i64 q (cr x.r u2)] 1 3) (SB.cells [SV.int .i64 q (cr x.r u0)] 1 3)/\aa (SB.loop I G u4) (SB.loop I G u4)/\aa P0 P0/\aa (SB.cells x.sv.cells 19 238) (SB.cells x.sv.cells 19 238)/\True))/\(C ((u2:Int)<16)=q->R (SV.int .i64 q (cr x.r u2)))))) (SB.cells (SV.agg (SV.int .i64 q x.k::SV.str q x.p::SV.str q x.v::cV R0 [])).cells 19 238))) (fun(n0:Nat)=>SV.str q (x.r n0))):=by kernel_rfl
theorem Ve (x:Nd)(R:SV->Prop):VC.holds (eD AG 185 c5 [x.sv] R)=((R (SV.bool (q&&A&&(q&&A&&(q&&A&&(q&&A&&(q&&A&&(q&&A&&(q&&A&&(q&&A&&(q&&A&&(q&&A&&(q&&A&&(q&&A&&(q&&A&&(q&&A&&(q&&A&&(q&&A&&(q&&A&&(q&&A&&(q&&A&&A)))))))))))))))&&A)))) (C (x.k=0)&&(C (x.p=[])&&(C (x.v=[])&&(C (x.r 0=[])&&(C (x.r 1=[])&&(C (x.r 2=[])&&(C (x.r 3=[])&&(C (x.r 4=[])&&(C (x.r 5=[])&&(C (x.r 6=[])&&(C (x.r 7=[])&&(C (x.r 8=[])&&(C (x.r 9=[])&&(C (x.r 10=[])&&(C (x.r 11=[])&&(C (x.r 12=[])&&(C (x.r 13=[])&&(C (x.r 14=[])&&(C (x.r 15=[])&&A)))))))))))))))&&A))))))):=by kernel_rfl
theorem sJ {t:List UInt8}:cP t=A↔bM t=A/\dj t=q/\aH t=[]:=by simp only[cP,a_,Bool.not_eq_true',decide_eq_true_eq,and_assoc]
theorem qN {t:List UInt8}:bw t=A↔(bM t=A/\dj t=q/\aH t=[])/\(ah t).length=32:=by simp only[bw,a_,sJ,decide_eq_true_eq];constructor<;>rintro⟨h1,h2⟩<;>exact⟨h1,by omega⟩
theorem I7 {t:List UInt8}(ht:t.length<9223372036854775808):aB (hJ AG 184 bS [.str q t] (LZ t)):=by
 refine aB.of_eq (XC t) ?_;have no:af (.aN [.str A [],.bool A q]) (.aN [.str A [],.bool A q]):=λ_=>rfl;have F: ∀ {p:Prop},¬ (bM t=A/\dj t=q/\aH t=[])->cP t=A->p:=λh h'=>absurd (sJ.1 h') h;refine⟨ht,λa=>⟨λb=>⟨F (by simp[b]),λ_=>no⟩,λb=>⟨λc=>⟨F (by simp at c;simp[c]),λ_=>no⟩,λc=> ?_⟩⟩,λa=>⟨F (by simp[a]),λ_=>no⟩⟩;have c:aH t=[]:=by simpa using c
 have hB:=sJ.2 ⟨a,b,c⟩;exact⟨λ_ _=>rfl,λh=>by rw[hB] at h;cases h⟩
theorem KX {t:List UInt8}(ht:t.length<9223372036854775808):aB (hJ AG 151 a! [.str q t] (SZ t)):=by
 refine aB.of_eq (aay t) ?_;have no:af (.aN [.str A [],.bool A q]) (.aN [.str A [],.bool A q]):=λ_=>rfl;have F: ∀ {p:Prop},¬ ((bM t=A/\dj t=q/\aH t=[])/\(ah t).length=32)->bw t=A->p:=λh h'=>absurd (qN.1 h') h;refine⟨ht,λa=>⟨λb=>⟨F (by simp[b]),λ_=>no⟩,λb=>⟨λc=>⟨F (by simp at c;simp[c]),λ_=>no⟩,λc=>⟨λd=>⟨F (by simp at d;omega),λ_=>no⟩,λd=> ?_⟩⟩⟩,λa=>⟨F (by simp[a]),λ_=>no⟩⟩;have c:aH t=[]:=by simpa using c
 have d:((ah t).length:Int)=32:=by simpa using d
 have hB:=qN.2 ⟨⟨a,b,c⟩,by omega⟩;exact⟨λ_ _=>rfl,λh=>by rw[hB] at h;cases h⟩
def x5:List SV->Option (Prop×cL)
 | [.str q t]=>D (t.length<9223372036854775808,LZ t)
 | _=>G
def vo:List SV->Option (Prop×cL)
 | [.str q t]=>D (t.length<9223372036854775808,SZ t)
 | _=>G
theorem Ud:az H 184 (cH x5):=by
 refine ew (n:=20) (fn:=bS) Tryz.func184 (by kernel_rfl) (by kernel_rfl) ?_;intro args p a h hp;unfold x5 at h;split at h
 ·injection h with h;injection h with h1 h2;subst h1;subst h2;exact⟨_,zV,rfl,λb=>by cases b<;>exact rfl,I7 hp⟩
 ·cases h
theorem Nw:az H 151 (cH vo):=by
 refine ew (n:=20) (fn:=a!) Tryz.func151 (by kernel_rfl) (by kernel_rfl) ?_;intro args p a h hp;unfold vo at h;split at h
 ·injection h with h;injection h with h1 h2;subst h1;subst h2;exact⟨_,zV,rfl,λb=>by cases b<;>exact rfl,KX hp⟩
 ·cases h
def uw:List SV->Option (Prop×SV)
 | [.agg l,.int .i64 q least]=>(match LK l with
   | some x=>D (True,.bool q (iq x least))
   | none=>G)
 | _=>G
theorem PD:az H 207 (aY uw):=by
 refine iJ zV (n:=20) (fn:=c6) Tryz.func207 (by kernel_rfl) (by kernel_rfl) ?_;intro args p r h hp;unfold uw at h;split at h
 ·split at h
  ·rename_i l least _ x hx;injection h with h;injection h with h1 h2;subst h1;subst h2;rw[vH hx];refine⟨rfl,rfl,aB.of_eq (Vf x least _) ⟨λa=>⟨λb=>⟨?_,cM ?_⟩,λb=>cM ?_⟩,λa=>cM ?_⟩⟩
   ·have:=of_decide_eq_true b;omega
   ·rw[iq,a,b];rfl
   ·rw[iq,a,b];rfl
   ·rw[iq,a];rfl
  ·cases h
 ·cases h
theorem zn (r:Nat->List UInt8){i:Nat}(h:i<16):bP [r 0,r 1,r 2,r 3,r 4,r 5,r 6,r 7,r 8,r 9,r 10,r 11,r 12,r 13,r 14,r 15] i=r i:=by
 have:i=0∨i=1∨i=2∨i=3∨i=4∨i=5∨i=6∨i=7∨i=8∨i=9∨i=10∨i=11∨i=12∨i=13∨i=14∨i=15:=by omega
 rcases this with rfl | rfl | rfl | rfl | rfl | rfl | rfl | rfl | rfl | rfl | rfl | rfl | rfl | rfl | rfl | rfl<;>rfl
theorem AE {l l':Bool}{a b:Int}{tot:Nat}{ty:TypeId}(h:a=b):aa (.cells [.int .i64 l a] tot ty) (.cells [.int .i64 l' b] tot ty):=by subst h;exact aa.cells (λ_=>rfl) rfl
theorem E6 (x:Nd):aB (eD (RI x) 208 bU [x.sv] (λv=>af v (.int .i64 q (cr x.r 16)))):=by
 refine aB.of_eq (U5 x _) ?_;intro R;refine⟨⟨0,by omega,rfl,AE rfl,aa.refl _,aa.refl _,aa.refl _,trivial⟩,λi hi=>⟨λa=> ?_,λa=> ?_⟩⟩
 ·have a:=of_decide_eq_true a;have ei:i<16:=by omega
  rw[X,zn x.r ei];refine⟨by omega,λb=>⟨rfl,by omega,by omega,i+1,by omega,by omega,AE ?_,aa.refl _,aa.refl _,aa.refl _,trivial⟩,λb=>⟨by omega,i+1,by omega,by omega,AE ?_,aa.refl _,aa.refl _,aa.refl _,trivial⟩⟩
  ·have b: ¬ x.r i=[]:=by simpa using b
   rw[cr,if_neg b]
  ·have b:x.r i=[]:=by simpa using b
   rw[cr,if_pos b]
 ·have a:=of_decide_eq_false a;have e:i=16:=by omega
  rw[e];exact λ_=>rfl
def tT:List SV->Option (Prop×SV)
 | [.agg l]=>(match LK l with
   | some x=>D (True,.int .i64 q (cr x.r 16))
   | none=>G)
 | _=>G
theorem OD:az H 208 (aY tT):=by
 refine eJ (ew (n:=20) (fn:=bU) Tryz.func208 (by kernel_rfl) (by kernel_rfl) ?_);intro args p a h hp;unfold tT at h;split at h
 ·split at h
  ·rename_i l x hx;injection h with h;injection h with h1 h2;subst h1;subst h2;rw[vH hx];exact⟨_,Zp x,rfl,rfl,E6 x⟩
  ·cases h
 ·cases h
def qe (x:Nd):Bool:=C (x.k=0)&&(C (x.p=[])&&(C (x.v=[])&&(Y 16).all λi=>decide (x.r i=[])))
def uv:List SV->Option (Prop×SV)
 | [.agg l]=>(match LK l with
   | some x=>D (True,.bool q (qe x))
   | none=>G)
 | _=>G
theorem PC:az H 185 (aY uv):=by
 refine iJ zV (n:=20) (fn:=c5) Tryz.func185 (by kernel_rfl) (by kernel_rfl) ?_;intro args p r h hp;unfold uv at h;split at h
 ·split at h
  ·rename_i l x hx;injection h with h;injection h with h1 h2;subst h1;subst h2;rw[vH hx];refine⟨rfl,rfl,aB.of_eq (Ve x _) (cM ?_)⟩;rw[qe,show Y 16=[0,1,2,3,4,5,6,7,8,9,10,11,12,13,14,15] from by decide]
   simp only[List.all_cons,List.all_nil,Bool.and_true]
  ·cases h
 ·cases h
noncomputable def FU:List (FuncId×PT):=(184,cH x5)::(151,cH vo)::(207,aY uw)::(208,aY tT)::(185,aY uv)::FT
theorem xN:bn H (λf=>aE f FU):=.cons Ud (b9 _) (.cons Nw (b9 _) (.cons PD (aR _) (.cons OD (aR _) (.cons PC (aR _) xM))))
noncomputable def yX:fJ:={cm with cG:=λf=>aE f FU}
theorem FD:Sx.Good H yX:=.of bR xN bl
def kH (x:Nd):Bool:=iq x 0&&(!decide (x.v=[])&&(C ((x.v.length:Int)<=80)&&C (cr x.r 16=0)))
def cQ (x:Nd)(leaf:Bool):List UInt8:=bif gY x.p then dG x.p leaf else []
def jE (x:Nd):List UInt8:=eY [aA (cQ x A),aA x.v]
def qh (x:Nd):List UInt8:=eY [aA (cQ x q),x.r 0]
def bT (r:Nat->List UInt8)(i j:Nat):List UInt8:=if j<i then(if r j=[] then [128] else r j)else [128]
def yq (f:Nat->List UInt8):List SV:=[.str q (f 0),.str q (f 1),.str q (f 2),.str q (f 3),.str q (f 4),.str q (f 5),.str q (f 6),.str q (f 7),.str q (f 8),.str q (f 9),.str q (f 10),.str q (f 11),.str q (f 12),.str q (f 13),.str q (f 14),.str q (f 15),.str q (f 16)]
def fL (x:Nd):List UInt8:=eY [bT x.r 16 0,bT x.r 16 1,bT x.r 16 2,bT x.r 16 3,bT x.r 16 4,bT x.r 16 5,bT x.r 16 6,bT x.r 16 7,bT x.r 16 8,bT x.r 16 9,bT x.r 16 10,bT x.r 16 11,bT x.r 16 12,bT x.r 16 13,bT x.r 16 14,bT x.r 16 15,aA x.v]
def cR (x:Nd):List UInt8:=if x.k=0 then [128] else if x.k=1 then jE x else if x.k=2 then qh x else fL x
structure Nd.oB (x:Nd):Prop where
 p:x.p.length<=1000
 v:x.v.length<=1000
 r: ∀ j,j<16->(x.r j).length<=1000
noncomputable def aaY (x:Nd):aV :={α:=Nat,pre:=λ_ i=>i<=16,kT:=λ_ i=>16 - i,fresh:=0,slots:=λ_ i=>[(7,.int .i64 q i)],mem:=λ_ i=>[(1,.cells (yq (bT x.r i)) 17 9)]}
noncomputable def Rx (x:Nd):fJ:={cm with cG:=λf=>aE f FU,bx:=λf=>if f=201 then [(1,always (aaY x))] else []}
theorem Za (x:Nd):Sx.Good H (Rx x):=.of bR xN bl
def Cc (r0 r1 r2 r3 r4 r5 r6 r7 r8 r9 r10 r11 r12 r13 r14 r15:List UInt8):Nat->List UInt8:=λi=>[r0,r1,r2,r3,r4,r5,r6,r7,r8,r9,r10,r11,r12,r13,r14,r15].getD i []
def dx (r:Nat->List UInt8):Nat->List UInt8:=Cc (r 0) (r 1) (r 2) (r 3) (r 4) (r 5) (r 6) (r 7) (r 8) (r 9) (r 10) (r 11) (r 12) (r 13) (r 14) (r 15)
def bF:Nat->List UInt8:=Cc [] [] [] [] [] [] [] [] [] [] [] [] [] [] [] []
def bC (t:List UInt8):Nat->List UInt8:=Cc t [] [] [] [] [] [] [] [] [] [] [] [] [] [] []
def cC (s:List UInt8)(j:Nat):List UInt8:=if ax s j=[128] then [] else ax s j
def wR (s:List UInt8)(i j:Nat):List UInt8:=if j<i then cC s j else []
def e8:Nd:=⟨0,[],[],bF⟩
def ni (s:List UInt8):Nd:=⟨1,eo (ah (ax (ah s) 0)),ah (ax (ah s) 1),bF⟩
def tE (s:List UInt8):Nd:=⟨2,eo (ah (ax (ah s) 0)),[],bC (ax (ah s) 1)⟩
def iB (s:List UInt8):Nd:=⟨3,[],ah (ax (ah s) 16),dx (cC (ah s))⟩
def nZ (s:List UInt8):Int:=bif cP (ax s 0)&&fF (ah (ax s 0))then(bif dK (ah (ax s 0))then(bif cP (ax s 1)then 1 else -1)else 2)else -1
def qd (s:List UInt8):Int:=bif dN s then(if bI s=2 then nZ s else if bI s=17 then(bif cP (ax s 16)then 3 else -1)else -1)else -1
def au (s:List UInt8):Int:=if s=[128] then 0 else bif bM s&&(dj s&&C (aH s=[]))then qd (ah s)else -1
def getD (s:List UInt8):Nd:=if au s=1 then ni s else if au s=2 then tE s else if au s=3 then iB s else e8
def Us (s:List UInt8):cL:=.fork (C (au s=0)) λb=>match b with
 | true=>.ret (.aN [dw,.bool A A])
 | false=>.fork (C (au s=1)) λb=>match b with
   | true=>.ret (.aN [(ni s).yx A 1,.bool A A])
   | false=>.fork (C (au s=2)) λb=>match b with
     | true=>.ret (.aN [(tE s).yx A 2,.bool A A])
     | false=>.fork (C (au s=3)) λb=>match b with
       | true=>.ret (.aN [(iB s).yx A 3,.bool A A])
       | false=>.all Nd λx=>.ret (.aN [x.sv,.bool A q])
def iR (inl:List UInt8->Bool)(t:List UInt8):Bool:=bw t||inl t
def nL (inl:List UInt8->Bool)(x:Nd):Bool:=iq x 1&&(C (x.v=[])&&(C (cr x.r 16=1)&&(bw (x.r 0)||(inl (x.r 0)&&C ((getD (x.r 0)).k=3)))))
def dn (r:Nat->List UInt8):Nat->Int
 | 0=>0
 | i+1=>if r i=[] then dn r i else dn r i+1
def jB (inl:List UInt8->Bool)(r:Nat->List UInt8):Nat->Bool
 | 0=>A
 | i+1=>jB inl r i&&(C (r i=[])||iR inl (r i))
def dJ (inl:List UInt8->Bool)(x:Nd):Bool:=C (x.p=[])&&(C ((x.v.length:Int)<=80)&&(jB inl x.r 16&&C (2<=min (x.v.length:Int) 1+dn x.r 16)))
def iT (inl:List UInt8->Bool)(x:Nd):Bool:=if x.k=0 then qe x else if x.k=1 then kH x else if x.k=2 then nL inl x else if x.k=3 then dJ inl x else q
def CZ (inl:List UInt8->Bool)(s:List UInt8):Bool:=C (0<=au s)&&(iT inl (getD s)&&C (cR (getD s)=s))
def Bd:Nat->List UInt8->Bool
 | 0,_=>q
 | n+1,t=>decide (t.length<32)&&(CZ (Bd n) t&& !decide ((getD t).k=0))
def bJ (t:List UInt8):Bool:=Bd 32 t
def aU (x:Nd):Bool:=iT bJ x
def bg (s:List UInt8):Bool:=CZ bJ s
theorem aaB (x:Nd)(R:SV->Prop):VC.holds (eD yX 186 Tryz.f186 [x.sv] R)=((True/\(iq {k:=x.k,p:=x.p,v:=x.v,r:=fun(u2:Nat)=>(cV x.r []).getD u2 []:Nd} 0=A->((!decide (x.v=[]))=A->(C ((x.v.length:Int)<=80)=A->True/\R (SV.bool (q&&A) (C (cr (fun(u1:Nat)=>(cV x.r []).getD u1 []) 16=(0:Int)))))/\(C ((x.v.length:Int)<=80)=q->R (SV.bool A q)))/\((!decide (x.v=[]))=q->R (SV.bool A q)))/\(iq {k:=x.k,p:=x.p,v:=x.v,r:=fun(u0:Nat)=>(cV x.r []).getD u0 []:Nd} 0=q->R (SV.bool A q)))):=by kernel_rfl
theorem MI (x:Nd)(R:SV->Prop):VC.holds (eD yX 190 Tryz.f190 [x.sv] R)=((x.p.length<1073741824/\(gY x.p=A->(dG x.p A).length<1152921504606846976/\D (SB.cells x.sv.cells 19 238)=D (SB.cells x.sv.cells 19 238)/\x.v.length<1152921504606846976/\(((2:Nat)=(2:Nat)/\(2:Nat)<=(2:Nat))/\(2:Nat)<=(140737488355328:Nat)/\(flat [aA (dG x.p A),aA x.v]).length<=140737488355328)/\(((0:Int)<=(192:Int)/\(192:Int)<=(192:Int))/\0<=(↑(flat [aA (dG x.p A),aA x.v]).length:Int)/\(↑(flat [aA (dG x.p A),aA x.v]).length:Int)<1152921504606846976)/\(↑(bV 192 (↑(flat [aA (dG x.p A),aA x.v]).length:Int).toNat).length:Int)+(↑(flat [aA (dG x.p A),aA x.v]).length:Int)<=9223372036854775807/\R (SV.str q (cat (bV 192 (↑(flat [aA (dG x.p A),aA x.v]).length:Int).toNat) (flat [aA (dG x.p A),aA x.v]))))/\(gY x.p=q->(0:Nat)<(1152921504606846976:Nat)/\D (SB.cells x.sv.cells 19 238)=D (SB.cells x.sv.cells 19 238)/\x.v.length<1152921504606846976/\(((2:Nat)=(2:Nat)/\(2:Nat)<=(2:Nat))/\(2:Nat)<=(140737488355328:Nat) /\(flat [aA [],aA x.v]).length<=140737488355328)/\(((0:Int)<=(192:Int)/\(192:Int)<=(192:Int))/\0<=(↑(flat [aA [],aA x.v]).length:Int)/\(↑(flat [aA [],aA x.v]).length:Int)<1152921504606846976)/\(↑(bV 192 (↑(flat [aA [],aA x.v]).length:Int).toNat).length:Int)+(↑(flat [aA [],aA x.v]).length:Int)<=9223372036854775807/\R (SV.str q (cat (bV 192 (↑(flat [aA [],aA x.v]).length:Int).toNat) (flat [aA [],aA x.v])))))):=by kernel_rfl
theorem QH (x:Nd)(R:SV->Prop):VC.holds (eD yX 191 Tryz.f191 [x.sv] R)=((x.p.length<1073741824/\(gY x.p=A->(dG x.p q).length<1152921504606846976/\D (SB.cells x.sv.cells 19 238)=D (SB.cells x.sv.cells 19 238)/\(((2:Nat)=(2:Nat)/\(2:Nat)<=(2:Nat))/\(2:Nat)<=(140737488355328:Nat)/\(flat [aA (dG x.p q),x.r 0]).length<=140737488355328)/\(((0:Int)<=(192:Int)/\(192:Int)<=(192:Int))/\0<=(↑(flat [aA (dG x.p q),x.r 0]).length:Int)/\(↑(flat [aA (dG x.p q),x.r 0]).length:Int)<1152921504606846976)/\(↑(bV 192 (↑(flat [aA (dG x.p q),x.r 0]).length:Int).toNat).length:Int)+(↑(flat [aA (dG x.p q),x.r 0]).length:Int)<=9223372036854775807/\R (SV.str q (cat (bV 192 (↑(flat [aA (dG x.p q),x.r 0]).length:Int).toNat) (flat [aA (dG x.p q),x.r 0]))))/\(gY x.p=q->(0:Nat)<(1152921504606846976:Nat)/\D (SB.cells x.sv.cells 19 238)=D (SB.cells x.sv.cells 19 238)/\(((2:Nat)=(2:Nat)/\(2:Nat)<=(2:Nat))/\(2:Nat)<=(140737488355328:Nat)/\(flat [aA [],x.r 0]).length<=140737488355328)/\(((0:Int)<=(192:Int)/\(192:Int)<=(192:Int)) /\0<=(↑(flat [aA [],x.r 0]).length:Int)/\(↑(flat [aA [],x.r 0]).length:Int)<1152921504606846976)/\(↑(bV 192 (↑(flat [aA [],x.r 0]).length:Int).toNat).length:Int)+(↑(flat [aA [],x.r 0]).length:Int)<=9223372036854775807/\R (SV.str q (cat (bV 192 (↑(flat [aA [],x.r 0]).length:Int).toNat) (flat [aA [],x.r 0])))))):=by kernel_rfl
theorem MJ (x:Nd)(R:SV->Prop):VC.holds (eD yX 189 Tryz.f189 [x.sv] R)=(((0:Nat)<(1152921504606846976:Nat)/\R (SV.str A (aA [])))):=by kernel_rfl
theorem GL (x:Nd)(R:SV->Prop):VC.holds (eD (Rx x) 192 Tryz.f192 [x.sv] R)=((λR0:Nat->(Nat)->SV=>((λR1:Nat->SV=>((λR2:Nat->(Nat)->SV=>((λR3:Nat->(Nat)->SV=>((λR4:Nat->(Nat)->SV=>((λR5:Nat->(Nat)->SV=>((λP0:SB=>((λP1:SB=>(((0:Nat)<(1152921504606846976:Nat)/\D P0=D P0/\(0:Nat)<(1152921504606846976:Nat)/\D P0=D P0/\(0:Nat)<(1152921504606846976:Nat)/\D P0=D P0/\(0:Nat)<(1152921504606846976:Nat)/\D P0=D P0/\(0:Nat)<(1152921504606846976:Nat)/\D P0=D P0/\(0:Nat)<(1152921504606846976:Nat)/\D P0=D P0/\(0:Nat)<(1152921504606846976:Nat)/\D P0=D P0/\(0:Nat)<(1152921504606846976:Nat)/\D P0=D P0/\(0:Nat)<(1152921504606846976:Nat)/\D P0=D P0/\(0:Nat)<(1152921504606846976:Nat)/\D P0=D P0/\(0:Nat)<(1152921504606846976:Nat)/\D P0=D P0/\(0:Nat)<(1152921504606846976:Nat)/\D P0=D P0/\(0:Nat)<(1152921504606846976:Nat)/\D P0=D P0/\(0:Nat)<(1152921504606846976:Nat)/\D P0=D P0/\(0:Nat)<(1152921504606846976:Nat)/\D P0=D P0/\(0:Nat)<(1152921504606846976:Nat)/\D P0=D P0/\(0:Nat)<(1152921504606846976:Nat)/\D P0=D P0/\∀(u4:Loop),(∃(u3:Nat),u3<=16/\0=(u3:Int) /\aa (SB.cells [SV.str A (aA []),SV.str A (aA []),SV.str A (aA []),SV.str A (aA []),SV.str A (aA []),SV.str A (aA []),SV.str A (aA []),SV.str A (aA []),SV.str A (aA []),SV.str A (aA []),SV.str A (aA []),SV.str A (aA []),SV.str A (aA []),SV.str A (aA []),SV.str A (aA []),SV.str A (aA []),SV.str A (aA [])] 17 9) (SB.cells (K17 (λi=>R0 i u3) []) 17 9)/\aa (SB.loop I G u4) (SB.loop I G u4)/\aa P1 P1/\aa P0 P0/\aa (SB.cells x.sv.cells 19 238) (SB.cells x.sv.cells 19 238)/\True)/\∀(u2:Nat),u2<=16->(C ((u2:Int)<16)=A->(0<=(u2:Int)/\(u2:Int)<16/\(u2:Int)<(↑(16:Nat):Int))/\((!decide (bP (cV x.r []) (u2:Int).toNat=[]))=A->u4=u4/\(0<=(u2:Int)/\(u2:Int)<17)/\(u2:Int).toNat<17 /\I6 ((u2:Int)+1)/\∃(u1:Nat),(u1<=16/\16 - u1<16 - u2)/\(u2:Int)+1=(u1:Int)/\aa (SB.cells (K17 (λi=>R2 i u2) []) 17 9) (SB.cells (K17 (λi=>R3 i u1) []) 17 9)/\aa (SB.loop I G u4) (SB.loop I G u4)/\aa P1 P1/\aa P0 P0/\aa (SB.cells x.sv.cells 19 238) (SB.cells x.sv.cells 19 238)/\True)/\((!decide (bP (cV x.r []) (u2:Int).toNat=[]))=q->I6 ((u2:Int)+1)/\∃(u0:Nat),(u0<=16/\16 - u0<16 - u2)/\(u2:Int)+1=(u0:Int) /\aa (SB.cells (K17 (λi=>R4 i u2) []) 17 9) (SB.cells (K17 (λi=>R5 i u0) []) 17 9)/\aa (SB.loop I G u4) (SB.loop I G u4)/\aa P1 P1/\aa P0 P0/\aa (SB.cells x.sv.cells 19 238) (SB.cells x.sv.cells 19 238)/\True))/\(C ((u2:Int)<16)=q->x.v.length<1152921504606846976/\D P0=D P0/\(((17:Nat)=(17:Nat)/\(17:Nat)<=(17:Nat))/\(17:Nat)<=(140737488355328:Nat)/\(flat (cV (bT x.r u2) [aA x.v])).length<=140737488355328)/\(((0:Int)<=(192:Int)/\(192:Int)<=(192:Int)) /\0<=(↑(flat (cV (bT x.r u2) [aA x.v])).length:Int)/\(↑(flat (cV (bT x.r u2) [aA x.v])).length:Int)<1152921504606846976)/\(↑(bV 192 (↑(flat (cV (bT x.r u2) [aA x.v])).length:Int).toNat).length:Int)+(↑(flat (cV (bT x.r u2) [aA x.v])).length:Int)<=9223372036854775807 /\R (SV.str q (cat (bV 192 (↑(flat (cV (bT x.r u2) [aA x.v])).length:Int).toNat) (flat (cV (bT x.r u2) [aA x.v])))))))) (SB.cells (SV.agg (SV.int .i64 q x.k::SV.str q x.p::SV.str q x.v::cV R1 [])).cells 19 238))) (SB.cells (aT SV.aM.cells 0 (SV.slc ((1:Nat)) 0 17 A 17).cells) 1 29))) (fun(n0:Nat) (u0:Nat)=>SV.str q (bT x.r u0 n0)))) (fun(n0:Nat) (u2:Nat)=>SV.str q (bT x.r u2 n0)))) (fun(n0:Nat) (u1:Nat)=>SV.str q (bT x.r u1 n0)))) (fun(n0:Nat) (u2:Nat)=>SV.str q (if(u2:Int).toNat=n0 then bP (cV x.r []) (u2:Int).toNat else bT x.r u2 n0)))) (fun(n0:Nat)=>SV.str q (x.r n0)))) (fun(n0:Nat) (u3:Nat)=>SV.str q (bT x.r u3 n0))):=by kernel_rfl
end Go.Proofs.YtoibaecagklkaaaGreatDoor
