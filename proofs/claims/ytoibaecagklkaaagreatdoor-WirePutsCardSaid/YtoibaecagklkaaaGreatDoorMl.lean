/-
  Rlp: plain laws: what is put is cut again; what ends too early is not.
-/
import Derived.Test.YtoibaecagklkaaaGreatDoorMk
import Derived.Test.YtoibaecagklkaaaGreatDoorMj
open Bool renaming and_eq_true->aS,false->q,true->A
open Decidable renaming decide->D
open Go.IntKind renaming i64->cL,u8->M
open Go.LoopState renaming ready->I
open Go.Proofs.Tryz renaming f151->a_,f169->a!,f170->bl,f184->bn,f185->c4,f207->c5,f208->b5,f210->b6,f217->b9,f220->c6,f58->b_,prog->H
open Int renaming le_refl->c_,toNat_natCast->X
open List renaming append_assoc->c!,append_nil->d_,cons_append->d!,drop_append_of_le_length->S,drop_drop->ef,drop_left->ag,drop_succ_cons->V,drop_zero->ek,getElem?_cons_zero->en,length_append->L,length_cons->N,length_drop->Q,length_nil->b!,length_pos_iff->cl,length_take->W,mem_range->cx,range->Y,take_append_drop->ep,take_append_of_le_length->Z,take_left->cB
open Nat renaming le_refl->cH,not_lt_zero->an,zero_add->er,zero_le->aA
open Option renaming none->G,some->C
open UInt8 renaming ofNat->J
namespace Go.Proofs.YtoibaecagklkaaaGreatDoor
open Go Sx
variable {l z:Bool}{base:Int}{a b d p s t:e_}{i k n tot:Nat}{ty:TypeId}
section
open Go Sx
set_option maxRecDepth 20000
theorem AF (h:n<=55):aN base n=[J (base+n).toNat]:=if_pos h
theorem Db (h: ¬ n<=55):aN base n=J (base+55+(digits n).length).toNat::digits n:=if_neg h
theorem NU {n:Int}(hb:base=128∨base=192)(h0:0<=n)(h:n<64)(h1:ai s 0=base+n):lead s=n/\¬ ai s 0<128/\(ai s 0<192↔base=128):=by
 unfold lead;rcases hb with rfl | rfl
 ·rw[if_pos (by omega)];omega
 ·rw[if_neg (by omega)];omega
structure td (base:Int)(n:Nat)(s d t:e_):Prop where
 eq:s=J (base+55+d.length).toNat::(d++t)
 num:num d=n
 hd:ai d 0≠0
 len:1<=d.length/\d.length<=3
theorem X2 (h: ¬ n<=55)(h2:n<=1048576)(t:e_):td base n (aN base n++t) (digits n) t:=by have h1:=yH (n:=n) (by omega) (by omega);have h3:=cl.2 h1.1;exact⟨by rw[Db h];rfl,Al (by omega) (by omega),h1.2,by omega,EX (by omega)⟩
theorem td.ac2 (hb:base=128∨base=192)(h:td base n s d t):ai s 0=base+55+d.length/\lead s=55+d.length/\¬ ai s 0<128/\(ai s 0<192↔base=128):=by
 have hl:=h.len;have h0:ai s 0=base+55+d.length:=by rw[h.eq,iS,ofNat_toNat (by omega) (by omega)]
 obtain⟨h1,h2,h3⟩:=NU (s:=s) (base:=base) (n:=55+d.length) hb (by omega) (by omega) (by omega);exact⟨h0,h1,h2,h3⟩
theorem td.part' (h:td base n s d t):part s (d.length+1)=n/\ai s 1≠0:=by
 have hl:=h.len;constructor
 ·unfold part;rw[h.eq];have e:((d.length:Int)+1 - 1).toNat=d.length:=by omega
  rw[e,List.drop_one,List.tail_cons,cB];exact h.num
 ·rw[h.eq];have h2:=h.hd
  match d,hl with
  | c::d,_ =>rw[iS] at h2;rw[d!,uL];exact h2
theorem td.cut (hb:base=128∨base=192)(hn:55<n)(hn2:n<=1048576)(h:td base n s d t):bO s=D (n<=t.length)/\cy s=D (base=192)/\af s=t.take n/\aF s=t.drop n:=by
 obtain⟨b0,l1,l2,l3⟩:=h.ac2 hb;obtain⟨p1,p2⟩:=h.part';have hl:=h.len;have e1:lead s - 54=d.length+1:=by omega
 have hs:s.length=1+d.length+t.length:=by rw[h.eq];simp;omega
 have hlen:nP s (lead s - 54)=true:=gH.2 (by rw[e1,p1];exact⟨by omega,p2,by omega,by omega⟩);rw[e1] at hlen;obtain⟨c1,c2⟩:=lQ (s:=s) l2 (by omega);refine⟨?_,?_,?_,?_⟩
 ·rw[Bool.eq_iff_iff,eA];have hne:s≠[]:=by rw[h.eq];simp
  have hL:55<lead s:=by omega
  simp only[hne,ne_eq,not_false_eq_true,l2,hL,hlen,e1,p1,true_and,false_or,not_true_eq_false,false_and,or_false,decide_eq_true_eq];omega
 ·unfold cy;rcases hb with rfl | rfl
  ·have:=l3.2 rfl;simp;omega
  ·simp;omega
 ·rw[c1,e1,p1,h.eq];have e:((d.length:Int)+1).toNat=d.length+1:=by omega
  rw[e,V,ag,X]
 ·rw[c2,e1,p1,h.eq];have e:((d.length:Int)+1+n).toNat=d.length+n+1:=by omega
  rw[e,V,← ef,ag]
theorem QU (hb:base=128∨base=192)(hn:n<=55)(h:s=J (base+n).toNat::t) :
  (bO s=A↔n<=t.length/\¬ (base=128/\n=1/\ai t 0<128))/\cy s=D (base=192)/\af s=t.take n/\aF s=t.drop n:=by
 have h0:ai s 0=base+n:=by rw[h,iS,ofNat_toNat (by omega) (by omega)]
 obtain⟨l1,l2,l3⟩:=NU (s:=s) (base:=base) (n:=n) hb (by omega) (by omega) h0;have hs:s.length=1+t.length:=by rw[h];simp;omega
 obtain⟨c1,c2⟩:=oH (s:=s) l2 (by omega);have hb1:0<t.length->ai s 1=ai t 0:=λhp=>by
  rw[h]
  match t,hp with
  | c::t,_=>rw[uL,iS]
 refine⟨?_,?_,?_,?_⟩
 ·rw[eA];have hne:s≠[]:=by rw[h];simp
  have hL: ¬ (55:Int)<n:=by omega
  simp only[hne,ne_eq,not_false_eq_true,l2,hL,true_and,false_or,false_and,l1,l3];constructor
  ·rintro⟨a,b⟩;refine⟨by omega,fun⟨x,y,z⟩=>b ⟨x,by omega,by rw[hb1 (by omega)];exact z⟩⟩
  ·rintro⟨a,b⟩;refine⟨by omega,fun⟨x,y,z⟩=>b ⟨x,by omega,by rw[hb1 (by omega)] at z;exact z⟩⟩
 ·unfold cy;rcases hb with rfl | rfl
  ·have:=l3.2 rfl;simp;omega
  ·simp;omega
 ·rw[c1,l1,h,X];rfl
 ·rw[c2,l1,h];have e:(1+(n:Int)).toNat=n+1:=by omega
  rw[e,V]
theorem NB {x:e_}(hb:base=128∨base=192)(hx:x.length<=1048576)(h1: ¬ (base=128/\x.length=1/\ai x 0<128))(rest:e_) :
  bO (aN base x.length++x++rest)=A/\cy (aN base x.length++x++rest)=D (base=192)/\af (aN base x.length++x++rest)=x/\aF (aN base x.length++x++rest)=rest:=by
 rw[c!];by_cases hn:x.length<=55
 ·obtain⟨g1,g2,g3,g4⟩:=QU (s:=aN base x.length++(x++rest)) (t:=x++rest) hb hn (by rw[AF hn];rfl);refine⟨g1.2 ⟨by simp,fun⟨a,b,c⟩=>h1 ⟨a,b,?_⟩⟩,g2,by rw[g3,cB],by rw[g4,ag]⟩
  rwa [j5 (c_ _) (by omega)] at c
 ·obtain⟨g1,g2,g3,g4⟩:=(X2 (base:=base) hn hx (x++rest)).cut hb (by omega) hx;exact⟨by rw[g1];simp,g2,by rw[g3,cB],by rw[g4,ag]⟩
theorem uy (h:b.length=1/\ai b 0<128):aq b=b:=if_pos h
theorem rj (hb:b.length<=1048576)(rest:e_):bO (aq b++rest)=A/\cy (aq b++rest)=q/\af (aq b++rest)=b/\aF (aq b++rest)=rest:=by
 by_cases h:b.length=1/\ai b 0<128
 ·rw[uy h]
  match b,h with
  | [c],h =>have h0:ai ([c]++rest) 0<128:=h.2;obtain⟨g1,g2,g3⟩:=lC h0;exact⟨eA.2 ⟨by simp,.inl h0⟩,g1,by rw[g2];rfl,by rw[g3];rfl⟩
 ·rw[iZ h];exact NB (base:=128) (.inl rfl) hb (λx=>h x.2) rest
theorem rm (b:e_):(aq b).length<=b.length+9:=by
 by_cases h:b.length=1/\ai b 0<128
 ·rw[uy h];omega
 ·rw[iZ h];have:=qw 128 b.length;simp only[L];omega
end
namespace Sx
open Go
theorem Eu {P:Program}{f:FuncId}{fn:Func}(hf:P.funcs[f]?=C fn) (hn:(fn.name== "runtime.NumGoroutine")=q) (hb:fn.body.isSome=A)  {spec:List SV->Option (Prop×cN)}
  (h: ∀ args p a,spec args=C (p,a)->p->∃ cfg args',Good P cfg/\(∀ E,SV.vals E args'=SV.vals E args)/\SV.e9 0 args'=A/\a.Ok/\av (fL P (calling P cfg n) [] zq (cfg.bh f) cfg.rounds fn args' [] 0 (λv m _=>a.fit v m))):ax P f (bw spec):=by
 intro args m nx K hk hwf hargs Γ E w hs;unfold bw at hk;split at hk
 ·rename_i p a hr;obtain⟨hp,hk⟩:=hk;obtain⟨cfg,args',hg,e,h1,h2,h3⟩:=h _ _ _ hr hp;have hc:=dS hg hf hn hb h3 rfl h1 (aO.none w hs.Az);rw[SV.lN h1 (λ_=>0) E,e,jR] at hc;refine eF hf hn hb (hc.mono ?_);rintro e w' ⟨v,rfl,E',sv,m',nx',_,_,g3,g4,g5⟩;refine⟨v,rfl,?_⟩;cases sv with
  | none=>exact g5.elim
  | some u=>rw[g3 u rfl];exact cN.told hs hwf g4 h2 g5 hk
 ·exact hk.elim
theorem cM {P:Program}{f:FuncId}{spec:List SV->Option (Prop×SV)}(h:ax P f (bw λargs=>(spec args).map λp=>(p.1,.ret p.2))):ax P f (aM spec):=by
 intro args m nx K hk;refine h args m nx K ?_;unfold aM at hk;unfold bw;split at hk
 ·rename_i p r hr;simp only[hr,Option.map_some];exact hk
 ·exact hk.elim
end Sx
section
open Go Sx
set_option maxRecDepth 20000
structure jY (n:Nat)(t:Nat->Bool)(i:Nat):Prop where
 le:i<=n
 all: ∀ j,j<i->t j=A
noncomputable def RU (tmp n:Nat)(t:Nat->Bool):aX :={α:=Nat,pre:=λ_ i=>jY n t i,jx:=λ_ i=>n - i,fresh:=0,slots:=λ_ i=>[(tmp,.int .i64 q i)],mem:=λ_ _=>[]}
def sJ (p:e_)(i:Nat):Bool:=!decide (15<ai p i)
def cY (p:e_):Bool:=(Y p.length).all (sJ p)
noncomputable def SX (p:e_):dK:={bE with cm:=λf=>ay f mR,bh:=λf=>if f=169 then [(2,always (RU 6 p.length (sJ p)))] else []}
theorem aaW (p:e_):Sx.Good H (SX p):=.of bz fI aU
def ga (k:e_)(j:Nat):Int:=if j% 2=0 then ai k (j / 2) / 16 else ai k (j / 2)% 16
def ak (k:e_):e_:=bD (ga k) 0 (2*k.length)
noncomputable def Xk (k:e_):aX :=
 {α:=Nat×Nat,pre:=λ_ x=>x.1<=k.length/\2*x.1<=x.2,jx:=λ_ x=>k.length - x.1,fresh:=1,slots:=λst x=>[(11,.int .i64 q x.1),(3,.bx st.nx 1 q 0 (2*x.1) x.2)],
  mem:=λst x=>[(st.nx,.rows q (2*x.1) [.int .u8 (ga k)] q x.2 5)]}
noncomputable def SU (k:e_):dK:={bE with cm:=λf=>ay f mR,bh:=λf=>if f=58 then [(3,always (Xk k))] else []}
theorem aaU (k:e_):Sx.Good H (SU k):=.of bz fI aU
def kS (p:e_)(j:Nat):Int:=bitsOf .or (ai p (2*(j:Int))*16% 256) (ai p (2*(j:Int)+1))
def br (p:e_):e_:=bD (kS p) 0 (p.length / 2)
noncomputable def Sd (p:e_):aX :=
 {α:=Nat×(Nat->Int),pre:=λ_ x=>x.1<=p.length / 2/\∀ j,j<x.1->x.2 j=kS p j,jx:=λ_ x=>p.length / 2 - x.1,fresh:=0,slots:=λ_ x=>[(11,.int .i64 q x.1)],
  mem:=λst x=>match slot st.tmps 3 with
   | some (.bx k _ _ _ _ _)=>(match st.m.get k with
     | some (.rows z n _ ro tot ty)=>[(k,.rows z n [.int .u8 x.2] ro tot ty)]
     | _=>[])
   | _=>[]}
noncomputable def SW (p:e_):dK:={bE with cm:=λf=>ay f mR,bh:=λf=>if f=170 then [(3,always (Sd p))] else []}
theorem aaV (p:e_):Sx.Good H (SW p):=.of bz fI aU
def eU (leaf odd:Bool):Int:=(bif leaf then 2 else 0)+(bif odd then 1 else 0)
theorem Wg (p:e_)(R:SV->Prop):VC.holds (cA (SX p) 169 a! [.str q p] R)=(((∃(u2:Nat),jY p.length (sJ p) u2/\0=(u2:Int)/\True)/\∀(a:Nat),jY p.length (sJ p) a->Fk ((a:Int)<(p.length:Int)) ((0<=(a:Int)/\(a:Int)<(p.length:Int))/\Fk (15<ai p (a:Int)) (R (SV.bool A q)) (I6 ((a:Int)+1)/\∃(b:Nat),(jY p.length (sJ p) b/\p.length - b<p.length - a)/\(a:Int)+1=(b:Int)/\True)) (R (SV.bool A A)))):=by kernel_rfl
theorem Y0 (k:e_)(R:SV->Prop):VC.holds (cA (SU k) 58 b_ [.str q k] R)=((((-9223372036854775808:Int)<=2*(k.length:Int)/\2*(k.length:Int)<=9223372036854775807)/\((0:Int)<=2*(k.length:Int)/\1*(2*(k.length:Int))<=140737488355328/\2*(k.length:Int)<=9223372036854775807)/\(∃(c:Nat×Nat),(c.1<=k.length/\2*c.1<=c.2)/\0=(c.1:Int)/\((0:Nat)=(0:Nat)/\(0:Nat)=2*c.1/\(2*(k.length:Int)).toNat=c.2)/\True/\ah (SB.cells [] ((2*(k.length:Int)).toNat*1) 5) (SB.rows q (2*c.1) [aE.int M (ga k)] q c.2 5)/\True)/\∀(a:Nat×Nat),a.1<=k.length/\2*a.1<=a.2->Fk ((a.1:Int)<(k.length:Int)) ((0<=(a.1:Int)/\(a.1:Int)<(k.length:Int))/\(0<=(a.1:Int)/\(a.1:Int)<(k.length:Int))/\(0<=ai k (a.1:Int)/\ai k (a.1:Int)<=255/\(0:Int)<=(15:Int)/\(15:Int)<=(255:Int))/\((0:Nat)+2*a.1<=2*a.1/\True/\2*(2*a.1+2)*1<=(281474976710656:Nat)/\2*a.1+2<(9223372036854775808:Nat))/\a.2=a.2*1/\∀(u2:Nat),2*a.1+2<=u2->((-9223372036854775808:Int)<=(a.1:Int)+1 /\(a.1:Int)+1<=(9223372036854775807:Int))/\∃(b:Nat×Nat),((b.1<=k.length/\2*b.1<=b.2)/\k.length - b.1<k.length - a.1)/\(a.1:Int)+1=(b.1:Int)/\((0:Nat)=(0:Nat)/\2*a.1+2=2*b.1/\u2=b.2)/\True/\ah (SB.rows q (2*a.1+2) [aE.int M fun(d:Nat)=>if d<2*a.1 then ga k d else zu [ai k (a.1:Int) / 16,bitsOf BinOp.and (ai k (a.1:Int)) 15] (d - 2*a.1)] q (u2*1) 5) (SB.rows q (2*b.1) [aE.int M (ga k)] q b.2 5)/\True) ((0:Nat)+2*a.1<=2*a.1/\R (SV.str q (bD (ga k) 0 (2*a.1)))))):=by kernel_rfl
theorem Wf (p:e_)(R:SV->Prop):VC.holds (cA (SW p) 170 bl [.str q p] R)=(((0<=(p.length:Int)/\(p.length:Int)<=9223372036854775807/\(0:Int)<(2:Int))/\((p.length:Int) / 2=(p.length:Int) / 2/\0<=(p.length:Int) / 2/\1*((p.length:Int) / 2)<=140737488355328/\(p.length:Int) / 2<=(9223372036854775807:Int))/\(∃(b:Nat×(Nat->Int)),(b.1<=p.length / 2/\∀(c:Nat),c<b.1->b.2 c=kS p c)/\0=(b.1:Int)/\ah (SB.rows q ((p.length:Int) / 2).toNat [aE.int M fun(_:Nat)=>(0:Int)] q (((p.length:Int) / 2).toNat*1) 5) (SB.rows q ((p.length:Int) / 2).toNat [aE.int M b.2] q (((p.length:Int) / 2).toNat*1) 5)/\True)/\∀(a:Nat×(Nat->Int)),(a.1<=p.length / 2/\∀(d:Nat),d<a.1->a.2 d=kS p d)->Fk ((a.1:Int)<(↑((p.length:Int) / 2).toNat:Int)) (((-9223372036854775808:Int)<=2*(a.1:Int)/\2*(a.1:Int)<=9223372036854775807)/\((0:Int)<=2*(a.1:Int)/\2*(a.1:Int)<(p.length:Int))/\((-9223372036854775808:Int)<=2*(a.1:Int)/\2*(a.1:Int)<=9223372036854775807)/\((-9223372036854775808:Int)<=2*(a.1:Int)+1 /\2*(a.1:Int)+1<=(9223372036854775807:Int))/\((0:Int)<=2*(a.1:Int)+1/\2*(a.1:Int)+1<(p.length:Int))/\(0<=ai p (2*(a.1:Int))*16% (256:Int)/\ai p (2*(a.1:Int))*16% (256:Int)<=(255:Int)/\0<=ai p (2*(a.1:Int)+1)/\ai p (2*(a.1:Int)+1)<=255)/\(0<=(a.1:Int)/\(a.1:Int)<(↑((p.length:Int) / 2).toNat:Int))/\0+(a.1:Int).toNat<((p.length:Int) / 2).toNat/\I6 ((a.1:Int)+1)/\∃(u2:Nat×(Nat->Int)),((u2.1<=p.length / 2/\∀(e:Nat),e<u2.1->u2.2 e=kS p e)/\p.length / 2 - u2.1<p.length / 2 - a.1)/\(a.1:Int)+1=(u2.1:Int)/\ah (SB.rows q ((p.length:Int) / 2).toNat [aE.int M fun(f:Nat)=>if f=0+(a.1:Int).toNat then bitsOf BinOp.or (ai p (2*(a.1:Int))*16% (256:Int)) (ai p (2*(a.1:Int)+1))else a.2 f] q (((p.length:Int) / 2).toNat*1) 5) (SB.rows q ((p.length:Int) / 2).toNat [aE.int M u2.2] q (((p.length:Int) / 2).toNat*1) 5)/\True) (0+((p.length:Int) / 2).toNat<=((p.length:Int) / 2).toNat/\R (SV.str q (bD a.2 0 ((p.length:Int) / 2).toNat))))):=by kernel_rfl
theorem YZ (a b:Bool)(R:SV->Prop):VC.holds (cA acS 220 c6 [.bool q a,.bool q b] R)=((Bk a (Bk b (R (SV.int .u8 A 3)) (Bk a (R (SV.int .u8 A 2)) (Bk b (R (SV.int .u8 A 1)) (R (SV.int .u8 A 0))))) (Bk a (R (SV.int .u8 A 2)) (Bk b (R (SV.int .u8 A 1)) (R (SV.int .u8 A 0)))))):=by kernel_rfl
theorem bp {a b:Bool}(h:a=b):aa (.bool l a) (.bool q b):=λE=>by subst h;rfl
theorem jY.next {t:Nat->Bool}(h:jY n t i)(hi:(i:Int)<(n:Int))(ht:t i=A):jY n t (i+1) :=
 ⟨by omega,λj hj=>by
  by_cases e:j=i
  ·subst e;exact ht
  ·exact h.all j (by omega)⟩
theorem jY.zero (n:Nat)(t:Nat->Bool):jY n t 0:=⟨aA _,λ_j hj=>absurd hj (an _)⟩
theorem jY.done {t:Nat->Bool}(h:jY n t i)(hi: ¬ (i:Int)<(n:Int)):(Y n).all t=true:=by rw[List.all_eq_true];intro j hj;have:=cx.1 hj;exact h.all j (by omega)
theorem all_none {t:Nat->Bool}(hi:(i:Int)<(n:Int))(ht:t i=q):(Y n).all t=false:=by rw[List.all_eq_false];exact⟨i,cx.2 (by omega),by rw[ht];decide⟩
theorem F6 (hp:p.length<1152921504606846976):av (cA (SX p) 169 a! [.str q p] (λv=>aa v (.bool q (cY p)))):=by
 refine av.gV (Wg p _) (by delta Fk;exact rfl) ?_;refine⟨⟨0,jY.zero _ _,rfl,trivial⟩,λx hx=>⟨λh=> ?_,λh=> ?_⟩⟩
 ·have h:(x:Int)<(p.length:Int):=of_decide_eq_true h;refine⟨by omega,λg=>bp ?_,λg=>⟨by omega,x+1,⟨hx.next h ?_,by omega⟩,by omega,trivial⟩⟩
  ·exact(all_none h (by rw[sJ,g];rfl)).symm
  ·rw[sJ,g];rfl
 ·have h: ¬ (x:Int)<(p.length:Int):=of_decide_eq_false h;exact bp (hx.done h).symm
def gL:List SV->Option (Prop×SV)
 | [.str q p]=>C (p.length<1152921504606846976,.bool q (cY p))
 | _=>G
theorem DS:ax H 169 (aM gL):=by
 refine cM (cn (n:=20) (fn:=a!) Tryz.func169 (by kernel_rfl) (by kernel_rfl) ?_);intro args p a h hp;unfold gL at h;split at h
 ·cases h;exact⟨_,aaW _,rfl,rfl,F6 hp⟩
 ·cases h
theorem acF {b:Int}(h0:0<=b)(h1:b<256):bitsOf .and b 15=b% 16:=by obtain⟨n,rfl⟩:=Int.eq_ofNat_of_zero_le h0;show(((n:Int).toNat &&& (15:Int).toNat:Nat):Int)=_;have:n &&& 15=n% 16:=Nat.and_two_pow_sub_one_eq_mod n 4;simp only[X];rw[show(15:Int).toNat=15 from rfl,this];omega
theorem Jo {z':Bool}{n':Nat}{f g:Nat->Int}{tot':Nat}(hz:z=z')(hn:n=n')(ht:tot=tot')(h: ∀ i,i<n->f i=g i):ah (.rows z n [.int .u8 f] q tot ty) (.rows z' n' [.int .u8 g] q tot' ty):=by
 subst hz;refine Sx.ah.D8 hn ht rfl λi k c' hi hk=>⟨.int .u8 f,?_,?_⟩
 ·match k,hk with
  | 0,_=>rfl
 ·match k,hk with
  | 0,hk =>simp only[en,Option.some.injEq] at hk;subst hk;simp only[aE.at,h i hi]
theorem QG {tot':Nat}{az:List aE}(h:tot=tot'):ah (.cells [] tot ty) (.rows z 0 az q tot' ty):=by subst h;refine ah.of rfl rfl λ_=> ?_;refine⟨rfl,λE o ⟨c,fr,h1,h2,_,h4⟩=>⟨c,fr,h1,λ_=>h2,by omega,h4,λi k col hi=>absurd hi (an _)⟩,λ_=>rfl⟩
theorem L1 (k:e_)(x i:Nat)(hi:i<2*x+2)(h1: ¬ i<2*x):zu [ai k (x:Int) / 16,bitsOf .and (ai k (x:Int)) 15] (i - 2*x)=ga k i:=by
 have hb:=cg k (x:Int);rw[acF hb.1 hb.2];unfold ga;by_cases e:i=2*x
 ·subst e;have e2:2*x / 2=x:=by omega
  rw[if_pos (by omega),show((2*x:Nat):Int) / 2=(x:Int)by omega,Nat.sub_self];rfl
 ·have e:i=2*x+1:=by omega
  subst e;rw[if_neg (by omega),show((2*x+1:Nat):Int) / 2=(x:Int)by omega,show 2*x+1 - 2*x=1 by omega];rfl
theorem II {k:e_}(hk:k.length<1099511627776):av (cA (SU k) 58 b_ [.str q k] (λv=>aa v (.str q (ak k)))):=by
 refine av.gV (Y0 k _) (by delta Fk;exact rfl) ?_;refine⟨by omega,by omega,⟨(0,2*k.length),⟨aA _,aA _⟩,rfl,⟨rfl,rfl,by omega⟩,trivial,QG (by omega),trivial⟩,λx hx=>⟨λh=> ?_,λh=> ?_⟩⟩
 ·have h:(x.1:Int)<(k.length:Int):=of_decide_eq_true h;have hb:=cg k (x.1:Int);refine⟨by omega,by omega,by omega,⟨by omega,trivial,by omega,by omega⟩,by omega,λc hc=>⟨by omega,(x.1+1,c),⟨⟨by show x.1+1<=_;omega,by show 2*(x.1+1)<=c;omega⟩,by show _ - (x.1+1)<_;omega⟩,by show(x.1:Int)+1=((x.1+1:Nat):Int);omega,⟨rfl,rfl,rfl⟩,trivial,Jo rfl rfl (Nat.mul_one c) λi hi=> ?_,trivial⟩⟩;by_cases h1:i<2*x.1
  ·rw[if_pos h1]
  ·rw[if_neg h1];exact L1 k x.1 i hi h1
 ·have h: ¬ (x.1:Int)<(k.length:Int):=of_decide_eq_false h;have e:x.1=k.length:=by have:=hx.1;omega
  exact⟨by omega,cv (by rw[e];rfl)⟩
def hG:List SV->Option (Prop×SV)
 | [.str q k]=>C (k.length<1099511627776,.str q (ak k))
 | _=>G
theorem Bo:ax H 58 (aM hG):=by
 refine cM (cn (n:=20) (fn:=b_) Tryz.func58 (by kernel_rfl) (by kernel_rfl) ?_);intro args p a h hp;unfold hG at h;split at h
 ·cases h;exact⟨_,aaU _,rfl,rfl,II hp⟩
 ·cases h
theorem F5 (hp:p.length<1099511627776):av (cA (SW p) 170 bl [.str q p] (λv=>aa v (.str q (br p)))):=by
 refine av.gV (Wf p _) (by delta Fk;exact rfl) ?_;have e:((p.length:Int) / 2).toNat=p.length / 2:=by omega
 rw[e];refine⟨by omega,⟨rfl,by omega,by omega,by omega⟩,⟨(0,λ_=>0),⟨aA _,λj hj=>absurd hj (an _)⟩,rfl,ah.refl _,trivial⟩,λx hx=>⟨λh=> ?_,λh=> ?_⟩⟩
 ·have h:(x.1:Int)<((p.length / 2:Nat):Int):=of_decide_eq_true h;have b1:=cg p (2*(x.1:Int));have b2:=cg p (2*(x.1:Int)+1);refine⟨by omega,by omega,by omega,by omega,by omega,by omega,by omega,by omega,by omega,(x.1+1,λj=>if j=x.1 then kS p x.1 else x.2 j),⟨⟨by show x.1+1<=_;omega,λj hj=> ?_⟩,by show _ - (x.1+1)<_;omega⟩,by show(x.1:Int)+1=((x.1+1:Nat):Int);omega,?_,trivial⟩
  ·show(if j=x.1 then kS p x.1 else x.2 j)=kS p j
   by_cases ej:j=x.1
   ·rw[if_pos ej,ej]
   ·rw[if_neg ej];exact hx.2 j (by have:j<x.1+1:=hj;omega)
  ·refine Jo rfl rfl rfl λi hi=> ?_;simp only[er,X];rfl
 ·have h: ¬ (x.1:Int)<((p.length / 2:Nat):Int):=of_decide_eq_false h;have e1:x.1=p.length / 2:=by have:=hx.1;omega
  refine⟨by omega,cv ?_⟩;unfold br bD;apply List.map_congr_left;intro j hj;rw[cx] at hj;rw[er,hx.2 j (by omega)]
def oW:List SV->Option (Prop×SV)
 | [.str q p]=>C (p.length<1099511627776,.str q (br p))
 | _=>G
theorem DR:ax H 170 (aM oW):=by
 refine cM (cn (n:=20) (fn:=bl) Tryz.func170 (by kernel_rfl) (by kernel_rfl) ?_);intro args p a h hp;unfold oW at h;split at h
 ·cases h;exact⟨_,aaV _,rfl,rfl,F5 hp⟩
 ·cases h
def xI:List SV->Option (Prop×SV)
 | [.bool q a,.bool q b]=>C (True,.int .u8 q (eU a b))
 | _=>G
theorem UP:ax H 220 (aM xI):=by
 refine dL acW (n:=20) (fn:=c6) Tryz.func220 (by kernel_rfl) (by kernel_rfl) ?_;intro args p r h hp;unfold xI at h;split at h
 ·rename_i a b;cases h;refine⟨rfl,rfl,av.gV (YZ a b _) (by delta Bk;exact rfl) ?_⟩;cases a<;>cases b<;>simp[aa,SV.val,eU]
 ·cases h
noncomputable def Ur:List (FuncId×PT):=(169,aM gL)::(58,aM hG)::(170,aM oW)::(220,aM xI)::mR
theorem PJ:aQ H (λf=>ay f Ur):=.cons DS (aG _) (.cons Bo (aG _) (.cons DR (aG _) (.cons UP (aG _) fI)))
noncomputable def Hf:dK:={bE with cm:=λf=>ay f Ur}
theorem TP:Sx.Good H Hf:=.of bz PJ aU
def bK (p:e_)(leaf:Bool):e_:=br (J (eU leaf (D ((p.length:Int)% 2=1))).toNat::(bif D ((p.length:Int)% 2=1)then p else 0::p))
def IJ (p:e_)(leaf:Bool):cN:=.fork (cY p) λb=>match b with
 | true=>.ret (.aD [.str q (bK p leaf),.bool A A])
 | false=>.ret (.aD [.str A [],.bool A q])
def bI (s:e_):Bool:=D (ak s≠[])&&D (ai (ak s) 0<=3)&&(D (ai (ak s) 0% 2=1)||decide (ai (ak s) 1=0))
def cD (s:e_):Bool:=D (2<=ai (ak s) 0)
def bT (s:e_):e_:=if ai (ak s) 0% 2=1 then(ak s).drop 1 else(ak s).drop 2
def DP (s:e_):cN:=.fork (bI s) λb=>match b with
 | true=>.ret (.aD [.str q (bT s),.bool q (cD s),.bool A A])
 | false=>.ret (.aD [.str A [],.bool A q,.bool A q])
theorem acd (p:e_)(leaf:Bool):VC.holds (dB Hf 210 b6 [.str q p,.bool q leaf] (IJ p leaf))=((p.length<1152921504606846976/\Bk (!cY p) (Bk (cY p) (aa (SV.aD [SV.str A [],SV.bool A q]) (SV.aD [SV.str q (bK p leaf),SV.bool A A])) (aa (SV.aD [SV.str A [],SV.bool A q]) (SV.aD [SV.str A [],SV.bool A q]))) ((0<=(p.length:Int)/\(p.length:Int)<=9223372036854775807/\(0:Int)<(2:Int))/\True/\(0<=(p.length:Int)/\(p.length:Int)<=9223372036854775807/\(0:Int)<(2:Int))/\Bk (!decide ((p.length:Int)% 2=(1:Int))) ((↑(1:Nat):Int)+1<=(9223372036854775807:Int)/\(↑(2:Nat):Int)+(p.length:Int)<=9223372036854775807/\(cat (cat [J (eU leaf (D ((p.length:Int)% 2=(1:Int)))).toNat] [(0:UInt8)]) p).length<1099511627776/\Bk (cY p) (aa (SV.aD [SV.str q (br (cat (cat [J (eU leaf (D ((p.length:Int)% 2=(1:Int)))).toNat] [(0:UInt8)]) p)),SV.bool A A]) (SV.aD [SV.str q (bK p leaf),SV.bool A A])) (aa (SV.aD [SV.str q (br (cat (cat [J (eU leaf (D ((p.length:Int)% 2=(1:Int)))).toNat] [(0:UInt8)]) p)),SV.bool A A]) (SV.aD [SV.str A [],SV.bool A q]))) ((↑(1:Nat):Int)+(p.length:Int)<=9223372036854775807/\(cat [J (eU leaf (D ((p.length:Int)% 2=(1:Int)))).toNat] p).length<1099511627776/\Bk (cY p) (aa (SV.aD [SV.str q (br (cat [J (eU leaf (D ((p.length:Int)% 2=(1:Int)))).toNat] p)),SV.bool A A]) (SV.aD [SV.str q (bK p leaf),SV.bool A A])) (aa (SV.aD [SV.str q (br (cat [J (eU leaf (D ((p.length:Int)% 2=(1:Int)))).toNat] p)),SV.bool A A]) (SV.aD [SV.str A [],SV.bool A q])))))):=by kernel_rfl
theorem ab9 (s:e_):VC.holds (dB Hf 217 b9 [.str q s] (DP s))=((λa:SV=>((λb:SV=>((λc:e_=>((λd:e_=>((s.length<1099511627776/\Fk (ak s=[]) (Bk (bI s) (aa a b) (aa a a)) (((0:Int)<=(0:Int)/\0<(↑(ak s).length:Int))/\Fk (ai (ak s) 0=(3:Int)) (((0:Int)<=(1:Int)/\1<=(↑(ak s).length:Int)/\(↑(ak s).length:Int)<=(↑(ak s).length:Int))/\Bk (bI s) (aa (SV.aD [SV.str (q&&A&&q) c,SV.bool A A,SV.bool A A]) b) (aa (SV.aD [SV.str (q&&A&&q) c,SV.bool A A,SV.bool A A]) a)) (Fk (ai (ak s) 0=(2:Int)) (((0:Int)<=(1:Int)/\1<(↑(ak s).length:Int))/\Bk (!decide (ai (ak s) 1=(0:Int))) (Bk (bI s) (aa a b) (aa a a)) (((0:Int)<=(2:Int)/\2<=(↑(ak s).length:Int)/\(↑(ak s).length:Int)<=(↑(ak s).length:Int))/\Bk (bI s) (aa (SV.aD [SV.str (q&&A&&q) d,SV.bool A A,SV.bool A A]) b) (aa (SV.aD [SV.str (q&&A&&q) d,SV.bool A A,SV.bool A A]) a))) (Fk (ai (ak s) 0=(1:Int)) (((0:Int)<=(1:Int)/\1<=(↑(ak s).length:Int)/\(↑(ak s).length:Int)<=(↑(ak s).length:Int))/\Bk (bI s) (aa (SV.aD [SV.str (q&&A&&q) c,SV.bool A q,SV.bool A A]) b) (aa (SV.aD [SV.str (q&&A&&q) c,SV.bool A q,SV.bool A A]) a)) (Fk (ai (ak s) 0=(0:Int)) (((0:Int)<=(1:Int)/\1<(↑(ak s).length:Int))/\Bk (!decide (ai (ak s) 1=(0:Int))) (Bk (bI s) (aa a b) (aa a a)) (((0:Int)<=(2:Int)/\2<=(↑(ak s).length:Int)/\(↑(ak s).length:Int)<=(↑(ak s).length:Int))/\Bk (bI s) (aa (SV.aD [SV.str (q&&A&&q) d,SV.bool A q,SV.bool A A]) b) (aa (SV.aD [SV.str (q&&A&&q) d,SV.bool A q,SV.bool A A]) a))) (Bk (bI s) (aa a b) (aa a a))))))))) (aB (ak s) (C (Operand.const (Value.int cL 2))) G 2 (↑(ak s).length:Int)))) (aB (ak s) (C (Operand.const (Value.int cL 1))) G 1 (↑(ak s).length:Int)))) (SV.aD [SV.str q (bT s),SV.bool q (cD s),SV.bool A A]))) (SV.aD [SV.str A [],SV.bool A q,SV.bool A q])):=by kernel_rfl
theorem vw {i:Int}(h:i<=a.length):part (a++b) i=part a i:=by
 unfold part;by_cases h1:1<=i
 ·have hl:1<=a.length:=by omega
  rw[S hl,Z (by simp only[Q];omega)]
 ·have:(i - 1).toNat=0:=by omega
  rw[this];rfl
theorem Uc {i:Int}(h2:2<=i)(h:nP a i=A):nP (a++b) i=true:=by
 obtain⟨h1,h3,h4,h5⟩:=gH.1 h;refine gH.2 ⟨by simp only[L];omega,?_,?_,?_⟩
 ·rw[j5 (by omega) (by omega)];exact h3
 ·rw[vw h1];exact h4
 ·rw[vw h1];exact h5
theorem ET (h:bO a=A)(b:e_):bO (a++b)=A/\cy (a++b)=cy a/\af (a++b)=af a/\aF (a++b)=aF a++b:=by
 obtain⟨h0,hc⟩:=eA.1 h;have hl:=cl.2 h0;have e0:ai (a++b) 0=ai a 0:=j5 (c_ _) (by omega);have el:lead (a++b)=lead a:=by unfold lead;rw[e0]
 have eL:cy (a++b)=cy a:=by unfold cy;rw[e0]
 have hne:a++b≠[]:=by simp[h0]
 refine⟨?_,eL,?_⟩
 ·refine eA.2 ⟨hne,?_⟩;rw[e0,el];rcases hc with hA | ⟨hA,hB,hC,hD⟩ | ⟨hA,hB,hC,hD⟩
  ·exact .inl hA
  ·have hq:=(gH.1 hC).1;exact .inr (.inl ⟨hA,hB,Uc (by omega) hC,by rw[vw hq];simp only[L];omega⟩)
  ·exact .inr (.inr ⟨hA,hB,by simp only[L];omega,fun⟨x,y,z⟩=>hD ⟨x,y,by rwa [j5 (by omega) (by omega)] at z⟩⟩)
 ·rcases hc with hA | ⟨hA,hB,hC,hD⟩ | ⟨hA,hB,hC,hD⟩
  ·obtain⟨_,k2,k3⟩:=lC hA;obtain⟨_,j2,j3⟩:=lC (s:=a++b) (by rw[e0];exact hA);rw[k2,k3,j2,j3];exact⟨Z (by omega),S (by omega)⟩
  ·have hq:=(gH.1 hC).1;have hp:=oY a (lead a - 54);obtain⟨k2,k3⟩:=lQ hA hB;obtain⟨j2,j3⟩:=lQ (s:=a++b) (by rw[e0];exact hA) (by rw[el];exact hB);rw[k2,k3,j2,j3,el,vw hq];constructor
   ·rw[S (by omega),Z (by simp only[Q];omega)]
   ·rw[S (by omega)]
  ·have hn:=vn hA;obtain⟨k2,k3⟩:=oH hA hB;obtain⟨j2,j3⟩:=oH (s:=a++b) (by rw[e0];exact hA) (by rw[el];exact hB);rw[k2,k3,j2,j3,el];have e1:(1:Int).toNat=1:=rfl;rw[e1];constructor
   ·rw[S (by omega),Z (by simp only[Q];omega)]
   ·rw[S (by omega)]
theorem Ld (h:bO a=A)(b:e_):qz (a++b)=qz a:=by
 unfold qz;rw[(ET h b).2.2.2,L,L];have:a.length+b.length - ((aF a).length+b.length)=a.length - (aF a).length:=by omega
 rw[this,Z (by omega)]
theorem Walk.app (b:e_): ∀ {k:Nat},Walk a k->aP (a++b) k=aP a k++b
 | 0,_=>by simp only[aP]
 | k+1,h=>by have h1:=Walk.app b (k:=k) (λj hj=>h j (by omega));simp only[aP];rw[h1,(ET (h k (by omega)).2 b).2.2.2]
theorem Walk.take {j:Nat}(h:Walk a k)(hj:j<=k):Walk a j:=λi hi=>h i (by omega)
theorem Walk.join (b:e_)(h:Walk a k):Walk (a++b) k:=λj hj=>by rw[(h.take (j:=j) (by omega)).app b];obtain⟨h1,h2⟩:=h j hj;exact⟨by simp[h1],(ET h2 b).1⟩
theorem Walk.item (b:e_){j:Nat}(h:Walk a k)(hj:j<k):aj (a++b) j=aj a j:=by unfold aj;rw[(h.take (j:=j) (by omega)).app b,Ld (h j hj).2]
theorem AK (n:Nat): ∀(s:e_),s.length<=n->cS s=A->Walk s (au s)/\aP s (au s)=[]:=by
 have nil: ∀ s:e_,s=[]->Walk s (au s)/\aP s (au s)=[]:=by intro s hs;rw[hs,gZ.2];exact⟨λj hj=>absurd hj (an _),by simp only[aP]⟩
 induction n with
 | zero=>exact λs h _=>nil s (List.length_eq_zero_iff.1 (by omega))
 | succ n ih =>
   intro s h hb;by_cases hne:s=[]
   ·exact nil s hne
   ·have hc:bO s=true:=by
     cases hc:bO s with
     | false=>rw[xb hne hc] at hb;cases hb
     | true=>rfl
    obtain⟨h1,h2⟩:=xd hne hc;have hl:=wQ hc;obtain⟨h3,h4⟩:=ih (aF s) (by omega) (by rw[← h1];exact hb);rw[h2];refine⟨λj hj=> ?_,by rw[kD];exact h4⟩;cases j with
    | zero=>simp only[aP];exact⟨hne,hc⟩
    | succ j=>rw[kD];exact h3 j (by omega)
theorem BL (s:e_)(k:Nat): ∀ j,aP s (k+j)=aP (aP s k) j
 | 0=>by simp only[aP,Nat.add_zero]
 | j+1=>by rw[← Nat.add_assoc,aP,BL s k j];simp only[aP]
theorem Le (h:cS a=A)(b:e_):cS (a++b)=cS b/\au (a++b)=au a+au b /\
  (∀ j,j<au a->aj (a++b) j=aj a j)/\∀ j,aj (a++b) (au a+j)=aj b j:=by
 obtain⟨h1,h2⟩:=AK a.length a (cH _) h;have h3:=h1.app b;rw[h2,List.nil_append] at h3;obtain⟨h4,h5⟩:=(h1.join b).items;rw[h3] at h4 h5;refine⟨h4,by omega,λj hj=>h1.item b hj,λj=> ?_⟩;unfold aj;rw[BL,h3]
theorem Pr (h:cS s=A):au s<=s.length:=by have:=(AK s.length s (cH _) h).1.len;omega
theorem U1 (h:bO s=A)(h2:aF s=[]):cS s=A/\au s=1/\aj s 0=s:=by have hne:=(eA.1 h).1;obtain⟨g1,g2⟩:=xd hne h;rw[h2] at g1 g2;refine⟨by rw[g1];exact gZ.1,by rw[g2,gZ.2],?_⟩;unfold aj qz;simp only[aP];rw[h2,b!,Nat.sub_zero,List.take_length]
theorem VR (hb:b.length<=1048576):bO (aq b)=A/\cy (aq b)=q/\aF (aq b)=[]:=by obtain⟨h1,h2,_,h4⟩:=rj hb [];rw[d_] at h1 h2 h4;exact⟨h1,h2,h4⟩
theorem Pc (a:e_)(r:List e_):flat (a::r)=a++flat r:=by simp[flat]
theorem tu: ∀(l:List e_),(∀ x∈ l,bO x=A/\aF x=[])->cS (flat l)=A/\au (flat l)=l.length/\∀(j:Nat) (x:e_),l[j]?=C x->aj (flat l) j=x
 | [],_=>⟨gZ.1,gZ.2,λj x h=>by simp at h⟩
 | a::r,h=>by
   obtain⟨h1,h2⟩:=h a (by simp);obtain⟨o1,o2,o3⟩:=U1 h1 h2;obtain⟨g1,g2,g3⟩:=tu r λx hx=>h x (by simp[hx]);obtain⟨j1,j2,j3,j4⟩:=Le o1 (flat r);rw[Pc];refine⟨by rw[j1];exact g1,by rw[j2,o2,g2,N];omega,λj x hx=> ?_⟩;cases j with
   | zero =>simp only[en,Option.some.injEq] at hx;rw[j3 0 (by omega),o3,hx]
   | succ j =>have:=j4 j;rw[o2] at this;rw[Nat.add_comm j 1,this];exact g3 j x (by simpa using hx)
theorem A5 {l:List e_}(hl:(flat l).length<=1048576)(rest:e_) :
  bO (aN 192 (flat l).length++flat l++rest)=A/\cy (aN 192 (flat l).length++flat l++rest)=A/\af (aN 192 (flat l).length++flat l++rest)=flat l/\aF (aN 192 (flat l).length++flat l++rest)=rest:=by
 obtain⟨h1,h2,h3,h4⟩:=NB (.inr rfl) hl (λh=>by omega) rest;exact⟨h1,by rw[h2];rfl,h3,h4⟩
theorem KC (s:e_):(aF s).length<=s.length:=by unfold aF;rw[Q];omega
theorem D4 (s:e_): ∀ k,(aP s k).length<=s.length
 | 0=>by simp only[aP];exact cH _
 | k+1=>by simp only[aP];exact Nat.le_trans (KC _) (D4 s k)
theorem nN (s:e_)(k:Nat):(aj s k).length<=s.length:=by have:=D4 s k;unfold aj qz;rw[W];omega
theorem j7 (s:e_):(af s).length<=s.length:=by unfold af;simp only[W,Q];omega
def dn (l:List e_):e_:=aN 192 (flat l).length++flat l
theorem yD (c:UInt8)(t:e_):ai (c::t) 1=ai t 0:=by cases t<;>rfl
theorem TE {n:Int}(h0:0<=n)(h:n<18446744073709551616):kP (aq (digits n))=A/\af (aq (digits n))=digits n:=by
 have hl:=fV n;obtain⟨h1,h2,h3,h4⟩:=rj (b:=digits n) (by omega) [];rw[d_] at h1 h2 h3 h4;refine⟨vf.2 ⟨h1,h2,h4,by rw[h3];exact hl,?_⟩,h3⟩;rw[h3];by_cases hp:0<n
 ·exact .inr (yH hp h).2
 ·have:n=0:=by omega
  subst this;exact .inl Hs
def fC (l:Bool)(b:e_):e_:=bif l then aN 192 b.length++b else aq b
theorem toNat_eq {a b:UInt8}(h:a.toNat=b.toNat):a=b:=UInt8.toNat_inj.1 h
theorem EC (h:s≠[]): ∃ b t,s=b::t/\ai s 0=(b.toNat:Int):=by
 cases s with
 | nil=>exact absurd rfl h
 | cons b t=>exact⟨b,t,rfl,rfl⟩
theorem uR (h:bO s=A):fC (cy s) (af s)++aF s=s:=by
 obtain⟨h0,h⟩:=eA.1 h;obtain⟨b,t,rfl,hb⟩:=EC h0;have hb8:=b.toNat_lt;rcases h with hA | ⟨hA,hL,hB,hP⟩ | ⟨hA,hL,hP,hN⟩
 ·obtain⟨k1,k2,k3⟩:=lC hA;rw[k1,k2,k3];simp only[fC,cond_false,List.take_succ_cons,List.take_zero,V,ek];rw[uy ⟨rfl,by rw[hb] at hA;exact hA⟩];rfl
 ·obtain⟨k1,k2⟩:=lQ hA hL;obtain⟨g1,g2,g3,g4⟩:=gH.1 hB;have hl:=g1;simp only[N] at hl g1 hP;have hlead:lead (b::t)<64/\0<=lead (b::t):=by unfold lead;split<;>omega
  have hpn:=oY (b::t) (lead (b::t) - 54);have elen:(af (b::t)).length=(part (b::t) (lead (b::t) - 54)).toNat:=by rw[k1];simp only[W,Q,N];omega
  have hd:digits (part (b::t) (lead (b::t) - 54))=t.take (lead (b::t) - 55).toNat:=by
   have e:part (b::t) (lead (b::t) - 54)=num (t.take (lead (b::t) - 55).toNat):=by unfold part;simp only[V,ek];congr 2;omega
   rw[e];refine O4 (by simp only[W];omega) (.inr ?_);intro h;apply g2;rw[yD];have:ai (t.take (lead (b::t) - 55).toNat) 0=ai t 0:=by
    obtain⟨m,hm⟩: ∃ m,(lead (b::t) - 55).toNat=m+1:=⟨(lead (b::t) - 55).toNat - 1,by omega⟩
    rw[hm];cases t<;>rfl
   rw[← this];exact h
  have hhead: ∀ base:Int,lead (b::t)=ai (b::t) 0 - base->0<=base->aN base (af (b::t)).length=b::t.take (lead (b::t) - 55).toNat:=by
   intro base hbase hb0;rw[Db (by rw[elen];omega),elen,show(((part (b::t) (lead (b::t) - 54)).toNat:Nat):Int)=part (b::t) (lead (b::t) - 54)by omega,hd];congr 1;apply toNat_eq;have:(base+55+((t.take (lead (b::t) - 55).toNat).length:Int)).toNat=b.toNat:=by rw[hb] at hbase;simp only[W];omega
   rw[this];simp
  have hcat: ∀ base:Int,lead (b::t)=ai (b::t) 0 - base->0<=base->aN base (af (b::t)).length++af (b::t)++aF (b::t)=b::t:=by
   intro base hbase hb0;rw[hhead base hbase hb0,k1,k2,c!];have e1:(lead (b::t) - 54).toNat=(lead (b::t) - 55).toNat+1:=by omega
   have e2:(lead (b::t) - 54+part (b::t) (lead (b::t) - 54)).toNat=(lead (b::t) - 55).toNat+1+(part (b::t) (lead (b::t) - 54)).toNat:=by omega
   rw[e1,e2];generalize (lead (b::t) - 55).toNat=k;generalize (part (b::t) (lead (b::t) - 54)).toNat=p;rw[show k+1+p=(k+p)+1 by omega];simp only[V,d!];rw[← ef,ep,ep]
  by_cases hC:ai (b::t) 0<192
  ·have e3:cy (b::t)=false:=by simp[cy];omega
   rw[e3,fC,cond_false,iZ (by rw[elen];omega)];exact hcat 128 (vm hC) (by omega)
  ·have e3:cy (b::t)=true:=by simp[cy];omega
   rw[e3,fC,cond_true];exact hcat 192 (vl hC) (by omega)
 ·obtain⟨k1,k2⟩:=oH hA hL;simp only[N] at hP;have hlead:=vn hA;have elen:(af (b::t)).length=(lead (b::t)).toNat:=by rw[k1];simp only[W,Q,N];omega
  have ein:af (b::t)=t.take (lead (b::t)).toNat:=by rw[k1];rfl
  have hcat: ∀ base:Int,lead (b::t)=ai (b::t) 0 - base->0<=base->aN base (af (b::t)).length++af (b::t)++aF (b::t)=b::t:=by
   intro base hbase hb0;rw[AF (by rw[elen];omega),elen,ein,k2];have:(base+((lead (b::t)).toNat:Int)).toNat=b.toNat:=by rw[hb] at hbase;omega
   rw[this,show(1+lead (b::t)).toNat=(lead (b::t)).toNat+1 by omega];simp
  by_cases hC:ai (b::t) 0<192
  ·have e3:cy (b::t)=false:=by simp[cy];omega
   rw[e3,fC,cond_false,iZ ?_]
   ·exact hcat 128 (vm hC) (by omega)
   ·rintro⟨h1,h2⟩;rw[elen] at h1;apply hN;refine⟨hC,by omega,?_⟩;rw[yD];rw[ein,h1] at h2;cases t with
    | nil=>exact h2
    | cons c u=>exact h2
  ·have e3:cy (b::t)=true:=by simp[cy];omega
   rw[e3,fC,cond_true];exact hcat 192 (vl hC) (by omega)
theorem OL (hb:b.length<=1048576)(rest:e_):bO (fC l b++rest)=A/\cy (fC l b++rest)=l/\af (fC l b++rest)=b/\aF (fC l b++rest)=rest:=by
 cases l with
 | false=>exact rj hb rest
 | true =>
   have:=A5 (l:=[b]) (by simpa [flat] using hb) rest;have e:flat [b]=b:=by simp[flat]
   rw[e] at this;exact this
theorem jV (f:Nat->Int)(i n:Nat):(bD f i n).length=n:=by simp[bD]
theorem fK (k:e_):(ak k).length=2*k.length:=jV _ _ _
theorem tW (p:e_):(br p).length=p.length / 2:=jV _ _ _
theorem i5 {l1 l2 x:Bool}(h:a=b):aa (.aD [.str l a,.bool l1 x]) (.aD [.str q b,.bool l2 x]):=λE=>by subst h;rfl
theorem L6 (leaf:Bool)(hp:p.length<1073741824):av (dB Hf 210 b6 [.str q p,.bool q leaf] (IJ p leaf)):=by
 refine av.gV (acd p leaf) (by delta Bk;exact rfl) ?_;cases cY p with
 | false=>exact⟨by omega,λ_=>⟨(λh=>by cases h),λ_ _=>rfl⟩,λh=>by cases h⟩
 | true =>
   refine⟨by omega,(λh=>by cases h),λ_=>⟨by omega,trivial,by omega,λh=> ?_,λh=> ?_⟩⟩
   ·have ho:D ((p.length:Int)% 2=1)=false:=by simpa using h
    refine⟨by omega,by omega,by simp only[cat,L,N,b!];omega,λ_=>i5 ?_,λh=>by cases h⟩;rw[bK,ho];rfl
   ·have ho:D ((p.length:Int)% 2=1)=true:=by simpa using h
    refine⟨by omega,by simp only[cat,L,N,b!];omega,λ_=>i5 ?_,λh=>by cases h⟩;rw[bK,ho];rfl
def l7:List SV->Option (Prop×cN)
 | [.str q p,.bool q leaf]=>C (p.length<1073741824,IJ p leaf)
 | _=>G
theorem X9:ax H 210 (bw l7):=by
 refine cn (n:=20) (fn:=b6) Tryz.func210 (by kernel_rfl) (by kernel_rfl) ?_;intro args p a h hp;unfold l7 at h;split at h
 ·cases h;exact⟨_,TP,rfl,λb=>by cases b<;>exact rfl,L6 _ hp⟩
 ·cases h
theorem oh {l1 l2 l3 l4 x y:Bool}(h:a=b)(h2:x=y):aa (.aD [.str l a,.bool l1 x,.bool l2 z]) (.aD [.str q b,.bool l3 y,.bool l4 z]):=λE=>by subst h;subst h2;rfl
theorem nV :bI s=A↔ak s≠[]/\ai (ak s) 0<=3/\(ai (ak s) 0% 2=1∨ai (ak s) 1=0):=by simp only[bI,aS,Bool.or_eq_true,decide_eq_true_eq,and_assoc]
theorem L0 (hs:s.length<1099511627776):av (dB Hf 217 b9 [.str q s] (DP s)):=by
 refine av.gV (ab9 s) (by delta Bk Fk;exact rfl) ?_;have hl:=fK s;have b0:=cg (ak s) 0;have F: ∀ {p:Prop},¬ (ak s≠[]/\ai (ak s) 0<=3/\(ai (ak s) 0% 2=1∨ai (ak s) 1=0))->bI s=A->p:=λh h'=>absurd (nV.1 h') h;have T: ∀ {p:Prop},(ak s≠[]/\ai (ak s) 0<=3/\(ai (ak s) 0% 2=1∨ai (ak s) 1=0))->bI s=q->p:=λh h'=>by rw[nV.2 h] at h';cases h'
 have none':aa (.aD [.str A [],.bool A q,.bool A q]) (.aD [.str A [],.bool A q,.bool A q]):=λ_=>rfl;have O:ai (ak s) 0% 2=1->(ak s).drop 1=bT s:=λh=>(if_pos h).symm;have Ev: ¬ ai (ak s) 0% 2=1->(ak s).drop 2=bT s:=λh=>(if_neg h).symm;refine⟨hs,λh=>⟨F (by simp at h;simp[h]),λ_=>none'⟩,λh=> ?_⟩;have h:ak s≠[]:=of_decide_eq_false h;have hp:=cl.2 h;refine⟨by omega,λa=> ?_,λa=>⟨λb=> ?_,λb=>⟨λc=> ?_,λc=>⟨λd=> ?_,λd=> ?_⟩⟩⟩⟩
 ·have a:=of_decide_eq_true a;refine⟨by omega,λ_=>oh (O (by omega)) (by simp[cD,a]),T ⟨h,by omega,.inl (by omega)⟩⟩
 ·have b:=of_decide_eq_true b;refine⟨by omega,λg=> ?_,λg=>⟨by omega,λ_=>oh (Ev (by omega)) (by simp[cD,b]),?_⟩⟩
  ·have g: ¬ ai (ak s) 1=0:=by simpa using g
   exact⟨F (by rintro⟨_,_,e | e⟩;omega;exact g e),λ_=>none'⟩
  ·have g:ai (ak s) 1=0:=by simpa using g
   exact T ⟨h,by omega,.inr g⟩
 ·have c:=of_decide_eq_true c;refine⟨by omega,λ_=>oh (O (by omega)) (by simp[cD,c]),T ⟨h,by omega,.inl (by omega)⟩⟩
 ·have d:=of_decide_eq_true d;refine⟨by omega,λg=> ?_,λg=>⟨by omega,λ_=>oh (Ev (by omega)) (by simp[cD,d]),?_⟩⟩
  ·have g: ¬ ai (ak s) 1=0:=by simpa using g
   exact⟨F (by rintro⟨_,_,e | e⟩;omega;exact g e),λ_=>none'⟩
  ·have g:ai (ak s) 1=0:=by simpa using g
   exact T ⟨h,by omega,.inr g⟩
 ·have a:=of_decide_eq_false a;have b:=of_decide_eq_false b;have c:=of_decide_eq_false c;have d:=of_decide_eq_false d;exact⟨F (by rintro⟨_,e,_⟩;omega),λ_=>none'⟩
def Bl:List SV->Option (Prop×cN)
 | [.str q s]=>C (s.length<1099511627776,DP s)
 | _=>G
theorem X3:ax H 217 (bw Bl):=by
 refine cn (n:=20) (fn:=b9) Tryz.func217 (by kernel_rfl) (by kernel_rfl) ?_;intro args p a h hp;unfold Bl at h;split at h
 ·cases h;exact⟨_,TP,rfl,λb=>by cases b<;>exact rfl,L0 hp⟩
 ·cases h
noncomputable def FM:List (FuncId×PT):=(169,aM gL)::(210,bw l7)::(217,bw Bl)::mR
theorem xz:aQ H (λf=>ay f FM):=.cons DS (aG _) (.cons X9 (aZ _) (.cons X3 (aZ _) fI))
noncomputable def Af:dK:={bE with cm:=λf=>ay f FM}
theorem zD:Sx.Good H Af:=.of bz xz aU
structure Nd where
 k:Int
 p:e_
 v:e_
 r:Nat->e_
def BF (r:Nat->e_):List SV:=[.str q (r 0),.str q (r 1),.str q (r 2),.str q (r 3),.str q (r 4),.str q (r 5),.str q (r 6),.str q (r 7),.str q (r 8),.str q (r 9),.str q (r 10),.str q (r 11),.str q (r 12),.str q (r 13),.str q (r 14),.str q (r 15)]
def Nd.wC (x:Nd)(l:Bool)(k:Int):SV:=.agg (.int .i64 l k::.str q x.p::.str q x.v::BF x.r)
def Nd.sv (x:Nd):SV:=x.wC q x.k
def cK:SV:=.agg [.int .i64 A 0,.str A [],.str A [],.str A [],.str A [],.str A [],.str A [],.str A [],.str A [],.str A [],.str A [],.str A [],.str A [],.str A [],.str A [],.str A [],.str A [],.str A [],.str A []]
def F2:List SV->Option Nd
 | [.int .i64 q k,.str q p,.str q v,.str q r0,.str q r1,.str q r2,.str q r3,.str q r4,.str q r5,.str q r6,.str q r7,.str q r8,.str q r9,.str q r10,.str q r11,.str q r12,.str q r13,.str q r14,.str q r15]=>C ⟨k,p,v,λi=>[r0,r1,r2,r3,r4,r5,r6,r7,r8,r9,r10,r11,r12,r13,r14,r15].getD i []⟩
 | _=>G
theorem mT {l:List SV}{x:Nd}(h:F2 l=C x):SV.agg l=x.sv:=by
 unfold F2 at h;split at h
 ·cases h;rfl
 ·cases h
def dh (t:e_):Bool:=bO t&& !cy t&&D (aF t=[])
def bY (t:e_):Bool:=dh t&&D (((af t).length:Int)=32)
def Mi (t:e_):cN:=.fork (dh t) λb=>match b with
 | true=>.ret (.aD [.str q (af t),.bool A A])
 | false=>.ret (.aD [.str A [],.bool A q])
def C' (t:e_):cN:=.fork (bY t) λb=>match b with
 | true=>.ret (.aD [.str q (af t),.bool A A])
 | false=>.ret (.aD [.str A [],.bool A q])
def gO (x:Nd)(least:Int):Bool:=D (least<=(x.p.length:Int))&&D ((x.p.length:Int)<=12)&&cY x.p
def cr (r:Nat->e_):Nat->Int
 | 0=>0
 | i+1=>if r i=[] then cr r i else(i:Int)+1
noncomputable def ON (x:Nd):aX :=
 {α:=Nat,pre:=λ_ i=>i<=16,jx:=λ_ i=>16 - i,fresh:=0,slots:=λ_ i=>[(7,.int .i64 q i)],
  mem:=λ_ i=>[(1,.cells [.int .i64 q (cr x.r i)] 1 3)]}
noncomputable def SS (x:Nd):dK:={bE with cm:=λf=>ay f FM,bh:=λf=>if f=201 then [(1,always (ON x))] else []}
theorem aaT (x:Nd):Sx.Good H (SS x):=.of bz xz aU
theorem Y2 (t:e_):VC.holds (dB Af 184 bn [.str q t] (Mi t))=((λa:SV=>((t.length<9223372036854775808/\Bk (bO t) (Bk (cy t) (Bk (dh t) (aa a (SV.aD [SV.str q (af t),SV.bool A A])) (aa a a)) (Bk (!decide (aF t=[])) (Bk (dh t) (aa a (SV.aD [SV.str q (af t),SV.bool A A])) (aa a a)) (Bk (dh t) (aa (SV.aD [SV.str q (af t),SV.bool A A]) (SV.aD [SV.str q (af t),SV.bool A A])) (aa (SV.aD [SV.str q (af t),SV.bool A A]) a)))) (Bk (dh t) (aa a (SV.aD [SV.str q (af t),SV.bool A A])) (aa a a))))) (SV.aD [SV.str A [],SV.bool A q])):=by kernel_rfl
theorem ab6 (t:e_):VC.holds (dB Af 151 a_ [.str q t] (C' t))=((λa:SV=>((λb:SV=>((t.length<9223372036854775808/\Bk (bO t) (Bk (cy t) (Bk (bY t) (aa a b) (aa a a)) (Bk (!decide (aF t=[])) (Bk (bY t) (aa a b) (aa a a)) (Bk (!decide ((↑(af t).length:Int)=32)) (Bk (bY t) (aa a b) (aa a a)) (Bk (bY t) (aa b b) (aa b a))))) (Bk (bY t) (aa a b) (aa a a))))) (SV.aD [SV.str q (af t),SV.bool A A]))) (SV.aD [SV.str A [],SV.bool A q])):=by kernel_rfl
theorem Wj (x:Nd)(least:Int)(R:SV->Prop):VC.holds (cA Af 207 c5 [x.sv,.int .i64 q least] R)=((Fk (least<=(x.p.length:Int)) (Fk ((x.p.length:Int)<=12) (x.p.length<1152921504606846976/\R (SV.bool q (cY x.p))) (R (SV.bool A q))) (R (SV.bool A q)))):=by kernel_rfl
theorem V1 (x:Nd)(R:SV->Prop):VC.holds (cA (SS x) 208 b5 [x.sv] R)=((λf:Nat->SV=>((λb:SB=>((∀(a:Loop),(∃(e:Nat),e<=16/\0=(e:Int)/\ah (SB.cells [SV.int .i64 A 0] 1 3) (SB.cells [SV.int .i64 q (cr x.r e)] 1 3)/\ah (SB.loop I G a) (SB.loop I G a)/\ah b b/\ah (SB.cells x.sv.cells 19 238) (SB.cells x.sv.cells 19 238)/\True)/\∀(u2:Nat),u2<=16->Fk ((u2:Int)<16) ((0<=(u2:Int)/\(u2:Int)<16/\(u2:Int)<(↑(16:Nat):Int))/\Bk (!decide (bZ (bG x.r []) (u2:Int).toNat=[])) (a=a/\I6 ((u2:Int)+1)/\I6 ((u2:Int)+1)/\∃(c:Nat),(c<=16/\16 - c<16 - u2)/\(u2:Int)+1=(c:Int)/\ah (SB.cells [SV.int .i64 q ((u2:Int)+1)] 1 3) (SB.cells [SV.int .i64 q (cr x.r c)] 1 3)/\ah (SB.loop I G a) (SB.loop I G a)/\ah b b/\ah (SB.cells x.sv.cells 19 238) (SB.cells x.sv.cells 19 238)/\True) (I6 ((u2:Int)+1)/\∃(d:Nat),(d<=16/\16 - d<16 - u2)/\(u2:Int)+1=(d:Int)/\ah (SB.cells [SV.int .i64 q (cr x.r u2)] 1 3) (SB.cells [SV.int .i64 q (cr x.r d)] 1 3)/\ah (SB.loop I G a) (SB.loop I G a)/\ah b b/\ah (SB.cells x.sv.cells 19 238) (SB.cells x.sv.cells 19 238)/\True)) (R (SV.int .i64 q (cr x.r u2)))))) (SB.cells (SV.agg (SV.int .i64 q x.k::SV.str q x.p::SV.str q x.v::bG f [])).cells 19 238))) (fun(n0:Nat)=>SV.str q (x.r n0))):=by kernel_rfl
theorem Wi (x:Nd)(R:SV->Prop):VC.holds (cA Af 185 c4 [x.sv] R)=((R (SV.bool (q&&A&&(q&&A&&(q&&A&&(q&&A&&(q&&A&&(q&&A&&(q&&A&&(q&&A&&(q&&A&&(q&&A&&(q&&A&&(q&&A&&(q&&A&&(q&&A&&(q&&A&&(q&&A&&(q&&A&&(q&&A&&(q&&A&&A)))))))))))))))&&A)))) (D (x.k=0)&&(D (x.p=[])&&(D (x.v=[])&&(D (x.r 0=[])&&(D (x.r 1=[])&&(D (x.r 2=[])&&(D (x.r 3=[])&&(D (x.r 4=[])&&(D (x.r 5=[])&&(D (x.r 6=[])&&(D (x.r 7=[])&&(D (x.r 8=[])&&(D (x.r 9=[])&&(D (x.r 10=[])&&(D (x.r 11=[])&&(D (x.r 12=[])&&(D (x.r 13=[])&&(D (x.r 14=[])&&(D (x.r 15=[])&&A)))))))))))))))&&A))))))):=by kernel_rfl
theorem nY :dh t=A↔bO t=A/\cy t=q/\aF t=[]:=by simp only[dh,aS,Bool.not_eq_true',decide_eq_true_eq,and_assoc]
theorem nM :bY t=A↔(bO t=A/\cy t=q/\aF t=[])/\(af t).length=32:=by simp only[bY,aS,nY,decide_eq_true_eq];constructor<;>rintro⟨h1,h2⟩<;>exact⟨h1,by omega⟩
theorem I1 (ht:t.length<9223372036854775808):av (dB Af 184 bn [.str q t] (Mi t)):=by
 refine av.gV (Y2 t) (by delta Bk;exact rfl) ?_;have no:aa (.aD [.str A [],.bool A q]) (.aD [.str A [],.bool A q]):=λ_=>rfl;have F: ∀ {p:Prop},¬ (bO t=A/\cy t=q/\aF t=[])->dh t=A->p:=λh h'=>absurd (nY.1 h') h;refine⟨ht,λa=>⟨λb=>⟨F (by simp[b]),λ_=>no⟩,λb=>⟨λc=>⟨F (by simp at c;simp[c]),λ_=>no⟩,λc=> ?_⟩⟩,λa=>⟨F (by simp[a]),λ_=>no⟩⟩;have c:aF t=[]:=by simpa using c
 have hB:=nY.2 ⟨a,b,c⟩;exact⟨λ_ _=>rfl,λh=>by rw[hB] at h;cases h⟩
theorem K4 (ht:t.length<9223372036854775808):av (dB Af 151 a_ [.str q t] (C' t)):=by
 refine av.gV (ab6 t) (by delta Bk;exact rfl) ?_;have no:aa (.aD [.str A [],.bool A q]) (.aD [.str A [],.bool A q]):=λ_=>rfl;have F: ∀ {p:Prop},¬ ((bO t=A/\cy t=q/\aF t=[])/\(af t).length=32)->bY t=A->p:=λh h'=>absurd (nM.1 h') h;refine⟨ht,λa=>⟨λb=>⟨F (by simp[b]),λ_=>no⟩,λb=>⟨λc=>⟨F (by simp at c;simp[c]),λ_=>no⟩,λc=>⟨λd=>⟨F (by simp at d;omega),λ_=>no⟩,λd=> ?_⟩⟩⟩,λa=>⟨F (by simp[a]),λ_=>no⟩⟩;have c:aF t=[]:=by simpa using c
 have d:((af t).length:Int)=32:=by simpa using d
 have hB:=nM.2 ⟨⟨a,b,c⟩,by omega⟩;exact⟨λ_ _=>rfl,λh=>by rw[hB] at h;cases h⟩
def xR:List SV->Option (Prop×cN)
 | [.str q t]=>C (t.length<9223372036854775808,Mi t)
 | _=>G
def ki:List SV->Option (Prop×cN)
 | [.str q t]=>C (t.length<9223372036854775808,C' t)
 | _=>G
theorem U8:ax H 184 (bw xR):=by
 refine cn (n:=20) (fn:=bn) Tryz.func184 (by kernel_rfl) (by kernel_rfl) ?_;intro args p a h hp;unfold xR at h;split at h
 ·cases h;exact⟨_,zD,rfl,λb=>by cases b<;>exact rfl,I1 hp⟩
 ·cases h
theorem Fu:ax H 151 (bw ki):=by
 refine cn (n:=20) (fn:=a_) Tryz.func151 (by kernel_rfl) (by kernel_rfl) ?_;intro args p a h hp;unfold ki at h;split at h
 ·cases h;exact⟨_,zD,rfl,λb=>by cases b<;>exact rfl,K4 hp⟩
 ·cases h
def tQ:List SV->Option (Prop×SV)
 | [.agg l,.int .i64 q least]=>(match F2 l with
   | some x=>C (True,.bool q (gO x least))
   | none=>G)
 | _=>G
theorem Qd:ax H 207 (aM tQ):=by
 refine dL zD (n:=20) (fn:=c5) Tryz.func207 (by kernel_rfl) (by kernel_rfl) ?_;intro args p r h hp;unfold tQ at h;split at h
 ·split at h
  ·rename_i l least _ x hx;cases h;rw[mT hx];refine⟨rfl,rfl,av.of_eq (Wj x least _) ⟨λa=>⟨λb=>⟨?_,bp ?_⟩,λb=>bp ?_⟩,λa=>bp ?_⟩⟩
   ·have:=of_decide_eq_true b;omega
   ·rw[gO,a,b];rfl
   ·rw[gO,a,b];rfl
   ·rw[gO,a];rfl
  ·cases h
 ·cases h
theorem n9 (r:Nat->e_)(h:i<16):bZ [r 0,r 1,r 2,r 3,r 4,r 5,r 6,r 7,r 8,r 9,r 10,r 11,r 12,r 13,r 14,r 15] i=r i:=by
 have:i=0∨i=1∨i=2∨i=3∨i=4∨i=5∨i=6∨i=7∨i=8∨i=9∨i=10∨i=11∨i=12∨i=13∨i=14∨i=15:=by omega
 rcases this with rfl | rfl | rfl | rfl | rfl | rfl | rfl | rfl | rfl | rfl | rfl | rfl | rfl | rfl | rfl | rfl<;>rfl
theorem Ad {l':Bool}{a b:Int}(h:a=b):ah (.cells [.int .i64 l a] tot ty) (.cells [.int .i64 l' b] tot ty):=by subst h;exact ah.cells (λ_=>rfl) rfl
theorem EA (x:Nd):av (cA (SS x) 208 b5 [x.sv] (λv=>aa v (.int .i64 q (cr x.r 16)))):=by
 refine av.gV (V1 x _) (by delta Bk Fk;exact rfl) ?_;intro R;refine⟨⟨0,by omega,rfl,Ad rfl,ah.refl _,ah.refl _,ah.refl _,trivial⟩,λi hi=>⟨λa=> ?_,λa=> ?_⟩⟩
 ·have a:=of_decide_eq_true a;have ei:i<16:=by omega
  rw[X,n9 x.r ei];refine⟨by omega,λb=>⟨rfl,by omega,by omega,i+1,by omega,by omega,Ad ?_,ah.refl _,ah.refl _,ah.refl _,trivial⟩,λb=>⟨by omega,i+1,by omega,by omega,Ad ?_,ah.refl _,ah.refl _,ah.refl _,trivial⟩⟩
  ·have b: ¬ x.r i=[]:=by simpa using b
   rw[cr,if_neg b]
  ·have b:x.r i=[]:=by simpa using b
   rw[cr,if_pos b]
 ·have a:=of_decide_eq_false a;have e:i=16:=by omega
  rw[e];exact λ_=>rfl
def tj:List SV->Option (Prop×SV)
 | [.agg l]=>(match F2 l with
   | some x=>C (True,.int .i64 q (cr x.r 16))
   | none=>G)
 | _=>G
theorem OU:ax H 208 (aM tj):=by
 refine cM (cn (n:=20) (fn:=b5) Tryz.func208 (by kernel_rfl) (by kernel_rfl) ?_);intro args p a h hp;unfold tj at h;split at h
 ·split at h
  ·rename_i l x hx;cases h;rw[mT hx];exact⟨_,aaT x,rfl,rfl,EA x⟩
  ·cases h
 ·cases h
def lZ (x:Nd):Bool:=D (x.k=0)&&(D (x.p=[])&&(D (x.v=[])&&(Y 16).all λi=>decide (x.r i=[])))
def tP:List SV->Option (Prop×SV)
 | [.agg l]=>(match F2 l with
   | some x=>C (True,.bool q (lZ x))
   | none=>G)
 | _=>G
theorem Qc:ax H 185 (aM tP):=by
 refine dL zD (n:=20) (fn:=c4) Tryz.func185 (by kernel_rfl) (by kernel_rfl) ?_;intro args p r h hp;unfold tP at h;split at h
 ·split at h
  ·rename_i l x hx;cases h;rw[mT hx];refine⟨rfl,rfl,av.of_eq (Wi x _) (bp ?_)⟩;rw[lZ,show Y 16=[0,1,2,3,4,5,6,7,8,9,10,11,12,13,14,15] from by decide]
   simp only[List.all_cons,List.all_nil,Bool.and_true]
  ·cases h
 ·cases h
noncomputable def FN:List (FuncId×PT):=(184,bw xR)::(151,bw ki)::(207,aM tQ)::(208,aM tj)::(185,aM tP)::FM
theorem xA:aQ H (λf=>ay f FN):=.cons U8 (aZ _) (.cons Fu (aZ _) (.cons Qd (aG _) (.cons OU (aG _) (.cons Qc (aG _) xz))))
noncomputable def yF:dK:={bE with cm:=λf=>ay f FN}
theorem Fo:Sx.Good H yF:=.of bz xA aU
def kW (x:Nd):Bool:=gO x 0&&(!decide (x.v=[])&&(D ((x.v.length:Int)<=80)&&D (cr x.r 16=0)))
def cJ (x:Nd)(leaf:Bool):e_:=bif cY x.p then bK x.p leaf else []
def jz (x:Nd):e_:=dn [aq (cJ x A),aq x.v]
def pY (x:Nd):e_:=dn [aq (cJ x q),x.r 0]
def bX (r:Nat->e_)(i j:Nat):e_:=if j<i then(if r j=[] then [128] else r j)else [128]
def yd (f:Nat->e_):List SV:=[.str q (f 0),.str q (f 1),.str q (f 2),.str q (f 3),.str q (f 4),.str q (f 5),.str q (f 6),.str q (f 7),.str q (f 8),.str q (f 9),.str q (f 10),.str q (f 11),.str q (f 12),.str q (f 13),.str q (f 14),.str q (f 15),.str q (f 16)]
def fD (x:Nd):e_:=dn [bX x.r 16 0,bX x.r 16 1,bX x.r 16 2,bX x.r 16 3,bX x.r 16 4,bX x.r 16 5,bX x.r 16 6,bX x.r 16 7,bX x.r 16 8,bX x.r 16 9,bX x.r 16 10,bX x.r 16 11,bX x.r 16 12,bX x.r 16 13,bX x.r 16 14,bX x.r 16 15,aq x.v]
def cq (x:Nd):e_:=if x.k=0 then [128] else if x.k=1 then jz x else if x.k=2 then pY x else fD x
structure Nd.jZ (x:Nd):Prop where
 p:x.p.length<=1000
 v:x.v.length<=1000
 r: ∀ j,j<16->(x.r j).length<=1000
noncomputable def acH (x:Nd):aX :={α:=Nat,pre:=λ_ i=>i<=16,jx:=λ_ i=>16 - i,fresh:=0,slots:=λ_ i=>[(7,.int .i64 q i)],mem:=λ_ i=>[(1,.cells (yd (bX x.r i)) 17 9)]}
noncomputable def SD (x:Nd):dK:={bE with cm:=λf=>ay f FN,bh:=λf=>if f=201 then [(1,always (acH x))] else []}
theorem aaD (x:Nd):Sx.Good H (SD x):=.of bz xA aU
def BG (r0 r1 r2 r3 r4 r5 r6 r7 r8 r9 r10 r11 r12 r13 r14 r15:e_):Nat->e_:=λi=>[r0,r1,r2,r3,r4,r5,r6,r7,r8,r9,r10,r11,r12,r13,r14,r15].getD i []
def dR (r:Nat->e_):Nat->e_:=BG (r 0) (r 1) (r 2) (r 3) (r 4) (r 5) (r 6) (r 7) (r 8) (r 9) (r 10) (r 11) (r 12) (r 13) (r 14) (r 15)
def cc:Nat->e_:=BG [] [] [] [] [] [] [] [] [] [] [] [] [] [] [] []
def bN (t:e_):Nat->e_:=BG t [] [] [] [] [] [] [] [] [] [] [] [] [] [] []
def cF (s:e_)(j:Nat):e_:=if aj s j=[128] then [] else aj s j
def fO (s:e_)(i j:Nat):e_:=if j<i then cF s j else []
def eZ:Nd:=⟨0,[],[],cc⟩
def mg (s:e_):Nd:=⟨1,bT (af (aj (af s) 0)),af (aj (af s) 1),cc⟩
def qR (s:e_):Nd:=⟨2,bT (af (aj (af s) 0)),[],bN (aj (af s) 1)⟩
def gP (s:e_):Nd:=⟨3,[],af (aj (af s) 16),dR (cF (af s))⟩
def mW (s:e_):Int:=bif dh (aj s 0)&&bI (af (aj s 0))then(bif cD (af (aj s 0))then(bif dh (aj s 1)then 1 else -1)else 2)else -1
def kX (s:e_):Int:=bif cS s then(if au s=2 then mW s else if au s=17 then(bif dh (aj s 16)then 3 else -1)else -1)else -1
def aH (s:e_):Int:=if s=[128] then 0 else bif bO s&&(cy s&&D (aF s=[]))then kX (af s)else -1
def getD (s:e_):Nd:=if aH s=1 then mg s else if aH s=2 then qR s else if aH s=3 then gP s else eZ
def Vm (s:e_):cN:=.fork (D (aH s=0)) λb=>match b with
 | true=>.ret (.aD [cK,.bool A A])
 | false=>.fork (D (aH s=1)) λb=>match b with
   | true=>.ret (.aD [(mg s).wC A 1,.bool A A])
   | false=>.fork (D (aH s=2)) λb=>match b with
     | true=>.ret (.aD [(qR s).wC A 2,.bool A A])
     | false=>.fork (D (aH s=3)) λb=>match b with
       | true=>.ret (.aD [(gP s).wC A 3,.bool A A])
       | false=>.all Nd λx=>.ret (.aD [x.sv,.bool A q])
def fe (inl:e_->Bool)(t:e_):Bool:=bY t||inl t
def nI (inl:e_->Bool)(x:Nd):Bool:=gO x 1&&(D (x.v=[])&&(D (cr x.r 16=1)&&(bY (x.r 0)||(inl (x.r 0)&&D ((getD (x.r 0)).k=3)))))
def b8 (r:Nat->e_):Nat->Int
 | 0=>0
 | i+1=>if r i=[] then b8 r i else b8 r i+1
def gJ (inl:e_->Bool)(r:Nat->e_):Nat->Bool
 | 0=>A
 | i+1=>gJ inl r i&&(D (r i=[])||fe inl (r i))
def dO (inl:e_->Bool)(x:Nd):Bool:=D (x.p=[])&&(D ((x.v.length:Int)<=80)&&(gJ inl x.r 16&&D (2<=min (x.v.length:Int) 1+b8 x.r 16)))
def fW (inl:e_->Bool)(x:Nd):Bool:=if x.k=0 then lZ x else if x.k=1 then kW x else if x.k=2 then nI inl x else if x.k=3 then dO inl x else q
def Aw (inl:e_->Bool)(s:e_):Bool:=D (0<=aH s)&&(fW inl (getD s)&&D (cq (getD s)=s))
def AH:Nat->e_->Bool
 | 0,_=>q
 | n+1,t=>decide (t.length<32)&&(Aw (AH n) t&& !decide ((getD t).k=0))
def bM (t:e_):Bool:=AH 32 t
def aI (x:Nd):Bool:=fW bM x
def aJ (s:e_):Bool:=Aw bM s
theorem ab8 (x:Nd)(R:SV->Prop):VC.holds (cA yF 186 Tryz.f186 [x.sv] R)=((True/\(gO {k:=x.k,p:=x.p,v:=x.v,r:=fun(u2:Nat)=>(bG x.r []).getD u2 []:Nd} 0=A->Bk (!decide (x.v=[])) (Fk ((x.v.length:Int)<=80) (True/\R (SV.bool (q&&A) (D (cr (fun(a:Nat)=>(bG x.r []).getD a []) 16=(0:Int))))) (R (SV.bool A q))) (R (SV.bool A q)))/\(gO {k:=x.k,p:=x.p,v:=x.v,r:=fun(b:Nat)=>(bG x.r []).getD b []:Nd} 0=q->R (SV.bool A q)))):=by kernel_rfl
theorem M5 (x:Nd)(R:SV->Prop):VC.holds (cA yF 190 Tryz.f190 [x.sv] R)=((x.p.length<1073741824/\(cY x.p=A->(bK x.p A).length<1152921504606846976/\C (SB.cells x.sv.cells 19 238)=C (SB.cells x.sv.cells 19 238)/\x.v.length<1152921504606846976/\(((2:Nat)=(2:Nat)/\(2:Nat)<=(2:Nat))/\(2:Nat)<=(140737488355328:Nat)/\(flat [aq (bK x.p A),aq x.v]).length<=140737488355328)/\(((0:Int)<=(192:Int)/\(192:Int)<=(192:Int))/\0<=(↑(flat [aq (bK x.p A),aq x.v]).length:Int)/\(↑(flat [aq (bK x.p A),aq x.v]).length:Int)<1152921504606846976)/\(↑(aN 192 (↑(flat [aq (bK x.p A),aq x.v]).length:Int).toNat).length:Int)+(↑(flat [aq (bK x.p A),aq x.v]).length:Int)<=9223372036854775807/\R (SV.str q (cat (aN 192 (↑(flat [aq (bK x.p A),aq x.v]).length:Int).toNat) (flat [aq (bK x.p A),aq x.v]))))/\(cY x.p=q->(0:Nat)<(1152921504606846976:Nat)/\C (SB.cells x.sv.cells 19 238)=C (SB.cells x.sv.cells 19 238)/\x.v.length<1152921504606846976/\(((2:Nat)=(2:Nat)/\(2:Nat)<=(2:Nat))/\(2:Nat)<=(140737488355328:Nat) /\(flat [aq [],aq x.v]).length<=140737488355328)/\(((0:Int)<=(192:Int)/\(192:Int)<=(192:Int))/\0<=(↑(flat [aq [],aq x.v]).length:Int)/\(↑(flat [aq [],aq x.v]).length:Int)<1152921504606846976)/\(↑(aN 192 (↑(flat [aq [],aq x.v]).length:Int).toNat).length:Int)+(↑(flat [aq [],aq x.v]).length:Int)<=9223372036854775807/\R (SV.str q (cat (aN 192 (↑(flat [aq [],aq x.v]).length:Int).toNat) (flat [aq [],aq x.v])))))):=by kernel_rfl
theorem Rn (x:Nd)(R:SV->Prop):VC.holds (cA yF 191 Tryz.f191 [x.sv] R)=((x.p.length<1073741824/\(cY x.p=A->(bK x.p q).length<1152921504606846976/\C (SB.cells x.sv.cells 19 238)=C (SB.cells x.sv.cells 19 238)/\(((2:Nat)=(2:Nat)/\(2:Nat)<=(2:Nat))/\(2:Nat)<=(140737488355328:Nat)/\(flat [aq (bK x.p q),x.r 0]).length<=140737488355328)/\(((0:Int)<=(192:Int)/\(192:Int)<=(192:Int))/\0<=(↑(flat [aq (bK x.p q),x.r 0]).length:Int)/\(↑(flat [aq (bK x.p q),x.r 0]).length:Int)<1152921504606846976)/\(↑(aN 192 (↑(flat [aq (bK x.p q),x.r 0]).length:Int).toNat).length:Int)+(↑(flat [aq (bK x.p q),x.r 0]).length:Int)<=9223372036854775807/\R (SV.str q (cat (aN 192 (↑(flat [aq (bK x.p q),x.r 0]).length:Int).toNat) (flat [aq (bK x.p q),x.r 0]))))/\(cY x.p=q->(0:Nat)<(1152921504606846976:Nat)/\C (SB.cells x.sv.cells 19 238)=C (SB.cells x.sv.cells 19 238)/\(((2:Nat)=(2:Nat)/\(2:Nat)<=(2:Nat))/\(2:Nat)<=(140737488355328:Nat)/\(flat [aq [],x.r 0]).length<=140737488355328)/\(((0:Int)<=(192:Int)/\(192:Int)<=(192:Int)) /\0<=(↑(flat [aq [],x.r 0]).length:Int)/\(↑(flat [aq [],x.r 0]).length:Int)<1152921504606846976)/\(↑(aN 192 (↑(flat [aq [],x.r 0]).length:Int).toNat).length:Int)+(↑(flat [aq [],x.r 0]).length:Int)<=9223372036854775807/\R (SV.str q (cat (aN 192 (↑(flat [aq [],x.r 0]).length:Int).toNat) (flat [aq [],x.r 0])))))):=by kernel_rfl
theorem M6 (x:Nd)(R:SV->Prop):VC.holds (cA yF 189 Tryz.f189 [x.sv] R)=(((0:Nat)<(1152921504606846976:Nat)/\R (SV.str A (aq [])))):=by kernel_rfl
theorem GO (x:Nd)(R:SV->Prop):VC.holds (cA (SD x) 192 Tryz.f192 [x.sv] R)=((λg:Nat->(Nat)->SV=>((λh:Nat->SV=>((λj:Nat->(Nat)->SV=>((λl:Nat->(Nat)->SV=>((λm:Nat->(Nat)->SV=>((λn:Nat->(Nat)->SV=>((λa:SB=>((λc:SB=>(((0:Nat)<(1152921504606846976:Nat)/\C a=C a/\(0:Nat)<(1152921504606846976:Nat)/\C a=C a/\(0:Nat)<(1152921504606846976:Nat)/\C a=C a/\(0:Nat)<(1152921504606846976:Nat)/\C a=C a/\(0:Nat)<(1152921504606846976:Nat)/\C a=C a/\(0:Nat)<(1152921504606846976:Nat)/\C a=C a/\(0:Nat)<(1152921504606846976:Nat)/\C a=C a/\(0:Nat)<(1152921504606846976:Nat)/\C a=C a/\(0:Nat)<(1152921504606846976:Nat)/\C a=C a/\(0:Nat)<(1152921504606846976:Nat)/\C a=C a/\(0:Nat)<(1152921504606846976:Nat)/\C a=C a/\(0:Nat)<(1152921504606846976:Nat)/\C a=C a/\(0:Nat)<(1152921504606846976:Nat)/\C a=C a/\(0:Nat)<(1152921504606846976:Nat)/\C a=C a/\(0:Nat)<(1152921504606846976:Nat)/\C a=C a/\(0:Nat)<(1152921504606846976:Nat)/\C a=C a/\(0:Nat)<(1152921504606846976:Nat)/\C a=C a/\∀(b:Loop),(∃(f:Nat),f<=16/\0=(f:Int) /\ah (SB.cells (Zp (λ_=>SV.str A (aq [])) []) 17 9) (SB.cells (Zp (λi=>g i f) []) 17 9)/\ah (SB.loop I G b) (SB.loop I G b)/\ah c c/\ah a a/\ah (SB.cells x.sv.cells 19 238) (SB.cells x.sv.cells 19 238)/\True)/\∀(u2:Nat),u2<=16->Fk ((u2:Int)<16) ((0<=(u2:Int)/\(u2:Int)<16/\(u2:Int)<(↑(16:Nat):Int))/\Bk (!decide (bZ (bG x.r []) (u2:Int).toNat=[])) (b=b/\(0<=(u2:Int)/\(u2:Int)<17)/\(u2:Int).toNat<17 /\I6 ((u2:Int)+1)/\∃(d:Nat),(d<=16/\16 - d<16 - u2)/\(u2:Int)+1=(d:Int)/\ah (SB.cells (Zp (λi=>j i u2) []) 17 9) (SB.cells (Zp (λi=>l i d) []) 17 9)/\ah (SB.loop I G b) (SB.loop I G b)/\ah c c/\ah a a/\ah (SB.cells x.sv.cells 19 238) (SB.cells x.sv.cells 19 238)/\True) (I6 ((u2:Int)+1)/\∃(e:Nat),(e<=16/\16 - e<16 - u2)/\(u2:Int)+1=(e:Int) /\ah (SB.cells (Zp (λi=>m i u2) []) 17 9) (SB.cells (Zp (λi=>n i e) []) 17 9)/\ah (SB.loop I G b) (SB.loop I G b)/\ah c c/\ah a a/\ah (SB.cells x.sv.cells 19 238) (SB.cells x.sv.cells 19 238)/\True)) (x.v.length<1152921504606846976/\C a=C a/\(((17:Nat)=(17:Nat)/\(17:Nat)<=(17:Nat))/\(17:Nat)<=(140737488355328:Nat)/\(flat (bG (bX x.r u2) [aq x.v])).length<=140737488355328)/\(((0:Int)<=(192:Int)/\(192:Int)<=(192:Int)) /\0<=(↑(flat (bG (bX x.r u2) [aq x.v])).length:Int)/\(↑(flat (bG (bX x.r u2) [aq x.v])).length:Int)<1152921504606846976)/\(↑(aN 192 (↑(flat (bG (bX x.r u2) [aq x.v])).length:Int).toNat).length:Int)+(↑(flat (bG (bX x.r u2) [aq x.v])).length:Int)<=9223372036854775807 /\R (SV.str q (cat (aN 192 (↑(flat (bG (bX x.r u2) [aq x.v])).length:Int).toNat) (flat (bG (bX x.r u2) [aq x.v])))))))) (SB.cells (SV.agg (SV.int .i64 q x.k::SV.str q x.p::SV.str q x.v::bG h [])).cells 19 238))) (SB.cells (bf SV.aK.cells 0 (SV.slc ((1:Nat)) 0 17 A 17).cells) 1 29))) (fun(n0:Nat) (e:Nat)=>SV.str q (bX x.r e n0)))) (fun(n0:Nat) (u2:Nat)=>SV.str q (bX x.r u2 n0)))) (fun(n0:Nat) (d:Nat)=>SV.str q (bX x.r d n0)))) (fun(n0:Nat) (u2:Nat)=>SV.str q (if(u2:Int).toNat=n0 then bZ (bG x.r []) (u2:Int).toNat else bX x.r u2 n0)))) (fun(n0:Nat)=>SV.str q (x.r n0)))) (fun(n0:Nat) (f:Nat)=>SV.str q (bX x.r f n0))):=by kernel_rfl
end
end Go.Proofs.YtoibaecagklkaaaGreatDoor
