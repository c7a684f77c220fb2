/-
  Node: texts of nodes: the contracts.
-/
import Derived.Test.YtoibaecagklkaaaGreatDoorMl
open Bool renaming and_eq_true->P,and_false->ay,and_true->T,false->o,false_and->aP,or_eq_true->W,or_true->a_,true->q,true_or->a!
open Decidable renaming decide->z
open Go.LoopState renaming ready->M
open Go.Proofs.Tryz renaming f127->bf,f152->S,f153->Y,f155->Z,f167->an,f186->bx,f190->bH,f191->bW,f192->b7,func155->b_,prog->G
open Int renaming le_refl->b!,toNat_natCast->O
open List renaming getD_eq_getElem?_getD->cl,getElem?_eq_none->ct,length->cx,length_append->ax,length_cons->ag
open Nat renaming le_trans->J,not_lt_zero->Q
open Option renaming map_eq_some_iff->cy,none->K,some->I
namespace Go.Proofs.YtoibaecagklkaaaGreatDoor
open Go Sx
variable {k:Int}{s t:List UInt8}{inl:List UInt8->Bool}{i:Nat}{x:Nd}{A B C D E:Prop}
section
open Go Sx
set_option maxRecDepth 20000
theorem qT (b:Int)(n:Nat):(b8 b n).length<=9:=by
 unfold b8;split
 ·simp
 ·have:=FA 8 n;show(UInt8.ofNat _::digits n).length<=9;rw[ag];have:(digits n).length<=8:=FA 8 n;omega
theorem jC (b:List UInt8):(aA b).length<=b.length+9:=by
 unfold aA;split
 ·omega
 ·have:=qT 128 b.length;rw[ax];omega
theorem fF {r r':Nat->List UInt8}: ∀ {n:Nat},(∀ j,j<n->r j=r' j)->cD r n=cD r' n
 | 0,_=>rfl
 | n+1,h=>by unfold cD;rw[h n (by omega),fF (λj hj=>h j (by omega))]
theorem fy (r:Nat->List UInt8)(j:Nat)(h:j<16):[r 0,r 1,r 2,r 3,r 4,r 5,r 6,r 7,r 8,r 9,r 10,r 11,r 12,r 13,r 14,r 15].getD j []=r j:=tH r h
theorem Lw (x:Nd):az (eO yV 186 bx [x.sv] (λv=>af v (.bool o (kL x)))):=by
 refine az.of_eq (abI x _) ?_;have e:gW {k:=x.k,p:=x.p,v:=x.v,r:=fun(i:Nat)=>[x.r 0,x.r 1,x.r 2,x.r 3,x.r 4,x.r 5,x.r 6,x.r 7,x.r 8,x.r 9,x.r 10,x.r 11,x.r 12,x.r 13,x.r 14,x.r 15].getD i []:Nd} 0=gW x 0:=rfl;rw[e,fF (fy x.r)];unfold kL;refine⟨trivial,λa=>⟨λb=>⟨λc=>⟨trivial,cX ?_⟩,λc=>cX ?_⟩,λb=>cX ?_⟩,λa=>cX ?_⟩
 ·rw[a,b,c];rfl
 ·rw[a,b,c];rfl
 ·rw[a,b];rfl
 ·rw[a];rfl
def fz (g:Nd->Option (Prop×SV)):List SV->Option (Prop×SV)
 | [.agg l]=>(match Gp l with
   | some x=>g x
   | none=>K)
 | _=>K
theorem lU {g:Nd->Option (Prop×SV)}{args:List SV}{p:Prop}{v:SV}(h:fz g args=I (p,v)): ∃ x,args=[x.sv]/\g x=I (p,v):=by
 unfold fz at h;split at h
 ·split at h
  ·rename_i x hx;exact⟨x,by rw[pI hx],h⟩
  ·cases h
 ·cases h
theorem I3 (x:Nd):SV.fO 0 [x.sv]=true:=rfl
theorem Xu:av G 186 (bh (fz λx=>I (True,.bool o (kL x)))):=by refine iO FU (n:=20) (fn:=bx) Tryz.func186 (by kernel_rfl) (by kernel_rfl) ?_;intro args p r h hp;obtain⟨x,hx,hg⟩:=lU h;subst hx;injection hg with hg;injection hg with h1 h2;subst h1;subst h2;exact⟨I3 x,rfl,Lw x⟩
theorem n4 {a b:List UInt8}:(flat [a,b]).length=a.length+b.length:=by simp[flat]
theorem oy {leaf:Bool}:(c7 x leaf).length<=x.p.length+2:=by
 unfold c7;cases ij x.p with
 | false=>simp
 | true =>simp only[cond_true,dI,BU,ag];cases z ((x.p.length:Int)% 2=1)<;>simp only[cond_true,cond_false,ag]<;>omega
theorem Br (hx:x.oN):az (eO yV 190 bH [x.sv] (λv=>af v (.str o (jI x)))):=by
 refine az.of_eq (MS x _) ?_;have h1:=hx.p;have h2:=hx.v;have h3:=oy (x:=x) (leaf:=q);have h4:=jC (c7 x q);have h5:=jC x.v;have h6:=n4 (a:=aA (c7 x q)) (b:=aA x.v);have h7:=qT 192 (((flat [aA (c7 x q),aA x.v]).length:Nat):Int).toNat;refine⟨by omega,λa=> ?_,λa=> ?_⟩
 ·have e:dI x.p q=c7 x true:=by rw[c7,a];rfl
  rw[e];exact⟨by omega,rfl,by omega,by omega,by omega,by omega,λE=>by rw[jI,ff,O];rfl⟩
 ·have e:[]=c7 x true:=by rw[c7,a];rfl
  rw[e];exact⟨by omega,rfl,by omega,by omega,by omega,by omega,λE=>by rw[jI,ff,O];rfl⟩
theorem C0 (hx:x.oN):az (eO yV 191 bW [x.sv] (λv=>af v (.str o (qp x)))):=by
 refine az.of_eq (Q9 x _) ?_;have h1:=hx.p;have h2:=hx.r 0 (by decide);have h3:=oy (x:=x) (leaf:=o);have h4:=jC (c7 x o);have h6:=n4 (a:=aA (c7 x o)) (b:=x.r 0);have h7:=qT 192 (((flat [aA (c7 x o),x.r 0]).length:Nat):Int).toNat;refine⟨by omega,λa=> ?_,λa=> ?_⟩
 ·have e:dI x.p o=c7 x false:=by rw[c7,a];rfl
  rw[e];exact⟨by omega,rfl,by omega,by omega,by omega,λE=>by rw[qp,ff,O];rfl⟩
 ·have e:[]=c7 x false:=by rw[c7,a];rfl
  rw[e];exact⟨by omega,rfl,by omega,by omega,by omega,λE=>by rw[qp,ff,O];rfl⟩
theorem EP {f g:Nat->List UInt8}{tot:Nat}{ty:TypeId}(h: ∀ j,j<17->f j=g j):aa (.cells (yj f) tot ty) (.cells (yj g) tot ty):=by
 have e:yj f=yj g:=by unfold yj;rw[h 0 (by decide),h 1 (by decide),h 2 (by decide),h 3 (by decide),h 4 (by decide),h 5 (by decide),h 6 (by decide),h 7 (by decide),h 8 (by decide),h 9 (by decide),h 10 (by decide),h 11 (by decide),h 12 (by decide),h 13 (by decide),h 14 (by decide),h 15 (by decide),h 16 (by decide)]
 rw[e];exact aa.refl _
theorem RU {r:Nat->List UInt8}(_hi:i<16)(h:r i≠[])(j:Nat):(if i=j then r i else b5 r i j)=b5 r (i+1) j:=by
 unfold b5;by_cases e:i=j
 ·subst e;rw[if_pos rfl,if_pos (by omega),if_neg h]
 ·rw[if_neg e];by_cases e1:j<i
  ·rw[if_pos e1,if_pos (show j<i+1 by omega)]
  ·rw[if_neg e1,if_neg (show ¬ j<i+1 by omega)]
theorem RT {r:Nat->List UInt8}(h:r i=[])(j:Nat):b5 r i j=b5 r (i+1) j:=by
 unfold b5;by_cases e:i=j
 ·subst e;rw[if_neg (by omega),if_pos (by omega),if_pos h]
 ·by_cases e1:j<i
  ·rw[if_pos e1,if_pos (show j<i+1 by omega)]
  ·rw[if_neg e1,if_neg (show ¬ j<i+1 by omega)]
theorem NG {l:List (List UInt8)}{m:Nat}(h: ∀ x∈ l,x.length<=m):(flat l).length<=l.length*m:=by
 induction l with
 | nil=>simp[flat]
 | cons a r ih =>
   have h1:=h a (List.mem_cons_self ..);have h2:=ih λx hx=>h x (List.mem_cons_of_mem _ hx);have e:(flat (a::r)).length=a.length+(flat r).length:=by simp[flat]
   rw[e,ag,Nat.succ_mul];omega
theorem ZV (hx:x.oN)(i j:Nat)(h:j<16):(b5 x.r i j).length<=1000:=by
 have:=hx.r j h;unfold b5;split
 ·split
  ·simp
  ·exact this
 ·simp
theorem wZ (hx:x.oN):az (eO (Sa x) 192 b7 [x.sv] (λv=>af v (.str o (fS x)))):=by
 refine az.of_eq (G3 x _) ?_;dsimp only;refine⟨by omega,rfl,by omega,rfl,by omega,rfl,by omega,rfl,by omega,rfl,by omega,rfl,by omega,rfl,by omega,rfl,by omega,rfl,by omega,rfl,by omega,rfl,by omega,rfl,by omega,rfl,by omega,rfl,by omega,rfl,by omega,rfl,by omega,rfl,λR=>⟨⟨0,by omega,rfl,Sx.aa.cells (λE=>rfl) rfl,aa.refl _,aa.refl _,aa.refl _,aa.refl _,trivial⟩,λi hi=>⟨λa=> ?_,λa=> ?_⟩⟩⟩
 ·have a:=of_decide_eq_true a;have ei:i<16:=by omega
  have es:=tH x.r ei;rw[O,es];refine⟨by omega,λb=>⟨rfl,by omega,by omega,by omega,i+1,by omega,by omega,?_,aa.refl _,aa.refl _,aa.refl _,aa.refl _,trivial⟩,λb=>⟨by omega,i+1,by omega,by omega,?_,aa.refl _,aa.refl _,aa.refl _,aa.refl _,trivial⟩⟩
  ·have b: ¬ x.r i=[]:=by simpa using b
   exact EP (f:=λj=>if i=j then x.r i else b5 x.r i j) (g:=b5 x.r (i+1)) λj hj=>RU ei b j
  ·have b:x.r i=[]:=by simpa using b
   exact EP λj hj=>RT b j
 ·have a:=of_decide_eq_false a;have e:i=16:=by omega
  subst e;have h1:=hx.v;have h2:=jC x.v;have hb:=ZV hx 16;have h6:(flat [b5 x.r 16 0,b5 x.r 16 1,b5 x.r 16 2,b5 x.r 16 3,b5 x.r 16 4,b5 x.r 16 5,b5 x.r 16 6,b5 x.r 16 7,b5 x.r 16 8,b5 x.r 16 9,b5 x.r 16 10,b5 x.r 16 11,b5 x.r 16 12,b5 x.r 16 13,b5 x.r 16 14,b5 x.r 16 15,aA x.v]).length<=17*2000:=by
   refine NG (m:=2000) λy hy=> ?_;simp only[List.mem_cons,List.not_mem_nil,or_false] at hy;rcases hy with rfl | rfl | rfl | rfl | rfl | rfl | rfl | rfl | rfl | rfl | rfl | rfl | rfl | rfl | rfl | rfl | rfl
   ·exact J (hb 0 (by decide)) (by decide)
   ·exact J (hb 1 (by decide)) (by decide)
   ·exact J (hb 2 (by decide)) (by decide)
   ·exact J (hb 3 (by decide)) (by decide)
   ·exact J (hb 4 (by decide)) (by decide)
   ·exact J (hb 5 (by decide)) (by decide)
   ·exact J (hb 6 (by decide)) (by decide)
   ·exact J (hb 7 (by decide)) (by decide)
   ·exact J (hb 8 (by decide)) (by decide)
   ·exact J (hb 9 (by decide)) (by decide)
   ·exact J (hb 10 (by decide)) (by decide)
   ·exact J (hb 11 (by decide)) (by decide)
   ·exact J (hb 12 (by decide)) (by decide)
   ·exact J (hb 13 (by decide)) (by decide)
   ·exact J (hb 14 (by decide)) (by decide)
   ·exact J (hb 15 (by decide)) (by decide)
   ·omega
  have h7:=qT 192 (((flat [b5 x.r 16 0,b5 x.r 16 1,b5 x.r 16 2,b5 x.r 16 3,b5 x.r 16 4,b5 x.r 16 5,b5 x.r 16 6,b5 x.r 16 7,b5 x.r 16 8,b5 x.r 16 9,b5 x.r 16 10,b5 x.r 16 11,b5 x.r 16 12,b5 x.r 16 13,b5 x.r 16 14,b5 x.r 16 15,aA x.v]).length:Nat):Int).toNat;have e:fS x=cat (b8 192 (((flat [b5 x.r 16 0,b5 x.r 16 1,b5 x.r 16 2,b5 x.r 16 3,b5 x.r 16 4,b5 x.r 16 5,b5 x.r 16 6,b5 x.r 16 7,b5 x.r 16 8,b5 x.r 16 9,b5 x.r 16 10,b5 x.r 16 11,b5 x.r 16 12,b5 x.r 16 13,b5 x.r 16 14,b5 x.r 16 15,aA x.v]).length:Nat):Int).toNat) (flat [b5 x.r 16 0,b5 x.r 16 1,b5 x.r 16 2,b5 x.r 16 3,b5 x.r 16 4,b5 x.r 16 5,b5 x.r 16 6,b5 x.r 16 7,b5 x.r 16 8,b5 x.r 16 9,b5 x.r 16 10,b5 x.r 16 11,b5 x.r 16 12,b5 x.r 16 13,b5 x.r 16 14,b5 x.r 16 15,aA x.v]):=by rw[fS,ff,O];rfl
  generalize flat [b5 x.r 16 0,b5 x.r 16 1,b5 x.r 16 2,b5 x.r 16 3,b5 x.r 16 4,b5 x.r 16 5,b5 x.r 16 6,b5 x.r 16 7,b5 x.r 16 8,b5 x.r 16 9,b5 x.r 16 10,b5 x.r 16 11,b5 x.r 16 12,b5 x.r 16 13,b5 x.r 16 14,b5 x.r 16 15,aA x.v]=F at *;exact⟨by omega,rfl,by omega,by omega,by omega,λE=>by rw[e]⟩
theorem I9:av G 189 (bh (fz λ_=>I (True,.str o [128]))):=by refine iO FU (n:=20) (fn:=Tryz.f189) Tryz.func189 (by kernel_rfl) (by kernel_rfl) ?_;intro args p r h hp;obtain⟨x,hx,hg⟩:=lU h;subst hx;injection hg with hg;injection hg with h1 h2;subst h1;subst h2;exact⟨I3 x,rfl,az.of_eq (MT x _) ⟨by omega,λE=>rfl⟩⟩
theorem Iv:av G 190 (bh (fz λx=>I (x.oN,.str o (jI x)))):=by refine iO FU (n:=20) (fn:=bH) Tryz.func190 (by kernel_rfl) (by kernel_rfl) ?_;intro args p r h hp;obtain⟨x,hx,hg⟩:=lU h;subst hx;injection hg with hg;injection hg with h1 h2;subst h1;subst h2;exact⟨I3 x,rfl,Br hp⟩
theorem K3:av G 191 (bh (fz λx=>I (x.oN,.str o (qp x)))):=by refine iO FU (n:=20) (fn:=bW) Tryz.func191 (by kernel_rfl) (by kernel_rfl) ?_;intro args p r h hp;obtain⟨x,hx,hg⟩:=lU h;subst hx;injection hg with hg;injection hg with h1 h2;subst h1;subst h2;exact⟨I3 x,rfl,C0 hp⟩
theorem CU:av G 192 (bh (fz λx=>I (x.oN,.str o (fS x)))):=by refine eX (dW (n:=20) (fn:=b7) Tryz.func192 (by kernel_rfl) (by kernel_rfl) ?_);intro args p a h hp;obtain⟨⟨p0,v0⟩,hq,hpa⟩:=cy.1 h;obtain⟨x,hx,hg⟩:=lU hq;subst hx;injection hg with hg;injection hg with g1 g2;subst g1;subst g2;injection hpa with h1 h2;subst h1;subst h2;exact⟨_,aac x,I3 x,rfl,wZ hp⟩
noncomputable def Ga:List (FuncId×PT):=(186,bh (fz λx=>I (True,.bool o (kL x))))::(189,bh (fz λ_=>I (True,.str o [128]))) ::
 (190,bh (fz λx=>I (x.oN,.str o (jI x))))::(191,bh (fz λx=>I (x.oN,.str o (qp x))))::(192,bh (fz λx=>I (x.oN,.str o (fS x))))::F9
theorem xL:bt G (λf=>aD f Ga):=.cons Xu (aS _) (.cons I9 (aS _) (.cons Iv (aS _) (.cons K3 (aS _) (.cons CU (aS _) xK))))
noncomputable def vh:fQ:={cv with cQ:=λf=>aD f Ga}
theorem FV:Sx.Good G vh:=.of bX xL bw
def X5 (s:List UInt8)(i:Nat):List SV:=[.int .i64 o 3,.str o [],.str o [],.str o (wR s i 0),.str o (wR s i 1),.str o (wR s i 2),.str o (wR s i 3),.str o (wR s i 4),.str o (wR s i 5),.str o (wR s i 6),.str o (wR s i 7),.str o (wR s i 8),.str o (wR s i 9),.str o (wR s i 10),.str o (wR s i 11),.str o (wR s i 12),.str o (wR s i 13),.str o (wR s i 14),.str o (wR s i 15)]
noncomputable def ace (s:List UInt8):bg :=
 {α:=Nat,pre:=λ_ i=>i<=16,kY:=λ_ i=>16 - i,fresh:=0,slots:=λ_ i=>[(9,.int .i64 o i)],
  mem:=λst i=>match slot st.tmps 4 with
   | some (.ptr k _ _)=>[(k,.cells (X5 (ai s) i) 19 138)]
   | _=>[]}
noncomputable def Sw (s:List UInt8):fQ:={cv with cQ:=λf=>aD f Ga,bD:=λf=>if f=200 then [(3,always (ace s))] else []}
theorem aaA (s:List UInt8):Sx.Good G (Sw s):=.of bX xL bw
theorem abM (s:List UInt8):VC.holds (gG (Sw s) 167 an [.str o s] (U4 s))=((λR0:Nat->(Nat)->SV=>((λR1:Nat->(Nat)->SV=>((λR2:Nat->(Nat)->SV=>((λR3:Nat->(Nat)->SV=>((λR4:Nat->(Nat)->SV=>((λP0:SV=>((λP1:SB=>((λP2:SV=>((λP3:SV=>((λP4:SV=>((λP5:SV=>((λP6:Nat->SV=>((λP7:Nat->SV=>((λP8:SV=>((λP9:SV=>((λP10:SV=>((λP11:Nat->SB=>((λP12:SV=>(((0:Nat)<(1152921504606846976:Nat)/\(z (s=aA [])=q->(z (aq s=0)=q->af P5 P12)/\(z (aq s=0)=o->(z (aq s=1)=q->af P5 P9)/\(z (aq s=1)=o->(z (aq s=2)=q->af P5 P10)/\(z (aq s=2)=o->(z (aq s=3)=q->af P5 P8)/\(z (aq s=3)=o->∃(u17:Nd),af P5 (SV.aO [u17.sv,SV.bool q o]))))))/\(z (s=aA [])=o->s.length<9223372036854775808/\(bR s=q->((!dx s)=q->(z (aq s=0)=q->af P0 P12)/\(z (aq s=0)=o->(z (aq s=1)=q->af P0 P9)/\(z (aq s=1)=o->(z (aq s=2)=q->af P0 P10)/\(z (aq s=2)=o->(z (aq s=3)=q->af P0 P8)/\(z (aq s=3)=o->∃(u16:Nd),af P0 (SV.aO [u16.sv,SV.bool q o]))))))/\((!dx s)=o->((!decide (aF s=[]))=q->(z (aq s=0)=q->af P0 P12)/\(z (aq s=0)=o->(z (aq s=1)=q->af P0 P9) /\(z (aq s=1)=o->(z (aq s=2)=q->af P0 P10)/\(z (aq s=2)=o->(z (aq s=3)=q->af P0 P8)/\(z (aq s=3)=o->∃(u15:Nd),af P0 (SV.aO [u15.sv,SV.bool q o]))))))/\((!decide (aF s=[]))=o->(ai s).length<1099511627776/\(dX (ai s)=q->∀(u14:Nat),bQ (ai s)<=u14->(z ((↑(bQ (ai s)):Int)=2)=q->((0:Int)<=(0:Int)/\0<(↑(bQ (ai s)):Int))/\0<bQ (ai s)/\((0:Int)<=(1:Int)/\1<(↑(bQ (ai s)):Int))/\1<bQ (ai s)/\(au (ai s) 0).length<9223372036854775808/\(c6 (au (ai s) 0)=q->(ai (au (ai s) 0)).length<1099511627776/\(fM (ai (au (ai s) 0))=q->((!dS (ai (au (ai s) 0)))=q->(z (aq s=0)=q->af P3 P12)/\(z (aq s=0)=o->(z (aq s=1)=q->af P3 P9)/\(z (aq s=1)=o->(z (aq s=2)=q->af P3 P10)/\(z (aq s=2)=o->(z (aq s=3)=q->af P3 P8)/\(z (aq s=3)=o ->∃(u13:Nd),af P3 (SV.aO [u13.sv,SV.bool q o]))))))/\((!dS (ai (au (ai s) 0)))=o->(au (ai s) 1).length<9223372036854775808/\(c6 (au (ai s) 1)=q->(z (aq s=0)=q->af P2 P12)/\(z (aq s=0)=o->(z (aq s=1)=q->af P2 P9)/\(z (aq s=1)=o->(z (aq s=2)=q->af P2 P10)/\(z (aq s=2)=o->(z (aq s=3)=q->af P2 P8)/\(z (aq s=3)=o->∃(u12:Nd),af P2 (SV.aO [u12.sv,SV.bool q o]))))))/\(c6 (au (ai s) 1)=o->(z (aq s=0)=q->af P4 P12)/\(z (aq s=0)=o->(z (aq s=1)=q->af P4 P9)/\(z (aq s=1)=o->(z (aq s=2)=q->af P4 P10)/\(z (aq s=2)=o->(z (aq s=3)=q->af P4 P8)/\(z (aq s=3)=o->∃(u11:Nd),af P4 (SV.aO [u11.sv,SV.bool q o]))))))))/\(fM (ai (au (ai s) 0))=o->(z (aq s=0)=q->af P0 P12)/\(z (aq s=0)=o ->(z (aq s=1)=q->af P0 P9)/\(z (aq s=1)=o->(z (aq s=2)=q->af P0 P10)/\(z (aq s=2)=o->(z (aq s=3)=q->af P0 P8)/\(z (aq s=3)=o->∃(u10:Nd),af P0 (SV.aO [u10.sv,SV.bool q o])))))))/\(c6 (au (ai s) 0)=o->(z (aq s=0)=q->af P0 P12)/\(z (aq s=0)=o->(z (aq s=1)=q->af P0 P9)/\(z (aq s=1)=o->(z (aq s=2)=q->af P0 P10)/\(z (aq s=2)=o->(z (aq s=3)=q->af P0 P8)/\(z (aq s=3)=o->∃(u9:Nd),af P0 (SV.aO [u9.sv,SV.bool q o])))))))/\(z ((↑(bQ (ai s)):Int)=2)=o->(z ((↑(bQ (ai s)):Int)=17)=q->(∃(u8:Nat),u8<=16/\0=(u8:Int) /\aa (SB.cells (SV.int .i64 q 3::SV.str q []::SV.str q []::E6) 19 138) (SB.cells (SV.int .i64 o 3::SV.str o []::SV.str o []::cK (λi=>R0 i u8) []) 19 138)/\aa P1 P1/\aa (P11 u14) (P11 u14)/\aa P1 P1/\True)/\∀(u7:Nat),u7<=16->(z ((u7:Int)<16)=q->(0<=(u7:Int)/\(u7:Int)<(↑(bQ (ai s)):Int))/\0+(u7:Int).toNat<bQ (ai s)/\(0:Nat)<(1152921504606846976:Nat)/\I (P11 u14)=I (P11 u14)/\((!decide (au (ai s) (0+(u7:Int).toNat)=aA []))=q->(0<=(u7:Int)/\(u7:Int)<(↑(bQ (ai s)):Int))/\0+(u7:Int).toNat<bQ (ai s)/\(0<=(u7:Int)/\(u7:Int)<16)/\(u7:Int).toNat<16/\I6 ((u7:Int)+1) /\∃(u6:Nat),(u6<=16/\16 - u6<16 - u7)/\(u7:Int)+1=(u6:Int)/\aa (SB.cells (SV.int .i64 o 3::SV.str o []::SV.str o []::cK (λi=>R1 i u7) []) 19 138) (SB.cells (SV.int .i64 o 3::SV.str o []::SV.str o []::cK (λi=>R2 i u6) []) 19 138)/\aa P1 P1/\aa (P11 u14) (P11 u14)/\aa P1 P1/\True)/\((!decide (au (ai s) (0+(u7:Int).toNat)=aA []))=o->I6 ((u7:Int)+1)/\∃(u5:Nat),(u5<=16/\16 - u5<16 - u7)/\(u7:Int)+1=(u5:Int) /\aa (SB.cells (SV.int .i64 o 3::SV.str o []::SV.str o []::cK (λi=>R3 i u7) []) 19 138) (SB.cells (SV.int .i64 o 3::SV.str o []::SV.str o []::cK (λi=>R4 i u5) []) 19 138)/\aa P1 P1/\aa (P11 u14) (P11 u14)/\aa P1 P1/\True))/\(z ((u7:Int)<16)=o->((0:Int)<=(16:Int)/\16<(↑(bQ (ai s)):Int))/\16<bQ (ai s)/\(au (ai s) 16).length<9223372036854775808/\(c6 (au (ai s) 16)=q->(z (aq s=0)=q->af (P6 u7) P12)/\(z (aq s=0)=o->(z (aq s=1)=q->af (P6 u7) P9)/\(z (aq s=1)=o->(z (aq s=2)=q->af (P6 u7) P10)/\(z (aq s=2)=o->(z (aq s=3)=q->af (P6 u7) P8)/\(z (aq s=3)=o->∃(u4:Nd),af (P6 u7) (SV.aO [u4.sv,SV.bool q o]))))))/\(c6 (au (ai s) 16)=o ->(z (aq s=0)=q->af (P7 u7) P12)/\(z (aq s=0)=o->(z (aq s=1)=q->af (P7 u7) P9)/\(z (aq s=1)=o->(z (aq s=2)=q->af (P7 u7) P10)/\(z (aq s=2)=o->(z (aq s=3)=q->af (P7 u7) P8)/\(z (aq s=3)=o->∃(u3:Nd),af (P7 u7) (SV.aO [u3.sv,SV.bool q o]))))))))/\(z ((↑(bQ (ai s)):Int)=17)=o->(z (aq s=0)=q->af P0 P12)/\(z (aq s=0)=o->(z (aq s=1)=q->af P0 P9)/\(z (aq s=1)=o->(z (aq s=2)=q->af P0 P10)/\(z (aq s=2)=o->(z (aq s=3)=q->af P0 P8)/\(z (aq s=3)=o->∃(u2:Nd),af P0 (SV.aO [u2.sv,SV.bool q o]))))))))/\(dX (ai s)=o->(z (aq s=0)=q->af P0 P12)/\(z (aq s=0)=o->(z (aq s=1)=q->af P0 P9)/\(z (aq s=1)=o->(z (aq s=2)=q->af P0 P10)/\(z (aq s=2)=o->(z (aq s=3)=q ->af P0 P8)/\(z (aq s=3)=o->∃(u1:Nd),af P0 (SV.aO [u1.sv,SV.bool q o])))))))))/\(bR s=o->(z (aq s=0)=q->af P0 P12)/\(z (aq s=0)=o->(z (aq s=1)=q->af P0 P9)/\(z (aq s=1)=o->(z (aq s=2)=q->af P0 P10)/\(z (aq s=2)=o->(z (aq s=3)=q->af P0 P8)/\(z (aq s=3)=o->∃(u0:Nd),af P0 (SV.aO [u0.sv,SV.bool q o])))))))))) (SV.aO [cW,SV.bool q q]))) (fun(u14:Nat)=>(SB.rows q (bQ (ai s)) [ak.str (au (ai s))] o u14 9)))) (SV.aO [(tG s).yp q 2,SV.bool q q]))) (SV.aO [(nF s).yp q 1,SV.bool q q]))) (SV.aO [(iE s).yp q 3,SV.bool q q]))) (fun(u7:Nat)=>(SV.aO [SV.agg (SV.int .i64 o 3::SV.str o []::SV.str q []::cK (λi=>R3 i u7) []),SV.bool q o])))) (fun(u7:Nat)=>(SV.aO [SV.agg (SV.int .i64 o 3::SV.str o []::(SV.str o (ai (au (ai s) 16)))::cK (λi=>R3 i u7) []),SV.bool q q])))) (SV.aO [SV.agg (SV.int .i64 q 0::SV.str q []::SV.str q []::E6),SV.bool q q]))) (SV.aO [SV.agg (SV.int .i64 q 1::SV.str o (eH (ai (au (ai s) 0)))::SV.str q []::E6),SV.bool q o]))) (SV.aO [SV.agg (SV.int .i64 q 2::(SV.str o (eH (ai (au (ai s) 0))))::SV.str q []::(ak.at 1 (ak.str (au (ai s))))::K15 (λ_=>SV.str q []) []),SV.bool q q]))) (SV.aO [SV.agg (SV.int .i64 q 1::SV.str o (eH (ai (au (ai s) 0)))::SV.str o (ai (au (ai s) 1))::E6),SV.bool q q]))) (SB.cells (SV.agg (SV.int .i64 q 0::SV.str q []::SV.str q []::E6)).cells 19 138))) (SV.aO [SV.agg (SV.int .i64 q 0::SV.str q []::SV.str q []::E6),SV.bool q o]))) (fun(n0:Nat) (u5:Nat)=>SV.str o (wR (ai s) u5 n0)))) (fun(n0:Nat) (u7:Nat)=>SV.str o (wR (ai s) u7 n0)))) (fun(n0:Nat) (u6:Nat)=>SV.str o (wR (ai s) u6 n0)))) (fun(n0:Nat) (u7:Nat)=>SV.str o (if(u7:Int).toNat=n0 then au (ai s) (0+(u7:Int).toNat)else wR (ai s) u7 n0)))) (fun(n0:Nat) (u8:Nat)=>SV.str o (wR (ai s) u8 n0))):=by kernel_rfl
def Rz (k:Int)(A B C D E:Prop):Prop:=(z (k=0)=q->A)/\(z (k=0)=o->(z (k=1)=q->B)/\(z (k=1)=o->(z (k=2)=q->C)/\(z (k=2)=o->(z (k=3)=q->D)/\(z (k=3)=o->E))))
theorem adi (h:k=0)(a:A):Rz k A B C D E:=by subst h;exact⟨λ_=>a,λh=>absurd h (by decide)⟩
theorem adj (h:k=1)(a:B):Rz k A B C D E:=by subst h;exact⟨λh=>absurd h (by decide),λ_=>⟨λ_=>a,λh=>absurd h (by decide)⟩⟩
theorem adk (h:k=2)(a:C):Rz k A B C D E:=by subst h;exact⟨λh=>absurd h (by decide),λ_=>⟨λh=>absurd h (by decide),λ_=>⟨λ_=>a,λh=>absurd h (by decide)⟩⟩⟩
theorem adl (h:k=3)(a:D):Rz k A B C D E:=by subst h;exact⟨λh=>absurd h (by decide),λ_=>⟨λh=>absurd h (by decide),λ_=>⟨λh=>absurd h (by decide),λ_=>⟨λ_=>a,λh=>absurd h (by decide)⟩⟩⟩⟩
theorem FK (h:k= -1)(a:E):Rz k A B C D E:=by subst h;exact⟨λh=>absurd h (by decide),λ_=>⟨λh=>absurd h (by decide),λ_=>⟨λh=>absurd h (by decide),λ_=>⟨λh=>absurd h (by decide),λ_=>a⟩⟩⟩⟩
theorem U1 {f g:Nat->List UInt8}{tot:Nat}{ty:TypeId}(h: ∀ j,j<16->f j=g j):aa (.cells [.int .i64 o 3,.str o [],.str o [],.str o (f 0),.str o (f 1),.str o (f 2),.str o (f 3),.str o (f 4),.str o (f 5),.str o (f 6),.str o (f 7),.str o (f 8),.str o (f 9),.str o (f 10),.str o (f 11),.str o (f 12),.str o (f 13),.str o (f 14),.str o (f 15)] tot ty) (.cells [.int .i64 o 3,.str o [],.str o [],.str o (g 0),.str o (g 1),.str o (g 2),.str o (g 3),.str o (g 4),.str o (g 5),.str o (g 6),.str o (g 7),.str o (g 8),.str o (g 9),.str o (g 10),.str o (g 11),.str o (g 12),.str o (g 13),.str o (g 14),.str o (g 15)] tot ty):=by rw[h 0 (by decide),h 1 (by decide),h 2 (by decide),h 3 (by decide),h 4 (by decide),h 5 (by decide),h 6 (by decide),h 7 (by decide),h 8 (by decide),h 9 (by decide),h 10 (by decide),h 11 (by decide),h 12 (by decide),h 13 (by decide),h 14 (by decide),h 15 (by decide)];exact aa.refl _
theorem U3 (h:au t i≠[128])(j:Nat):(if i=j then au t i else wR t i j)=wR t (i+1) j:=by
 unfold wR;by_cases e:i=j
 ·subst e;rw[if_pos rfl,if_pos (show i<i+1 by omega),cL,if_neg h]
 ·rw[if_neg e];by_cases e1:j<i
  ·rw[if_pos e1,if_pos (show j<i+1 by omega)]
  ·rw[if_neg e1,if_neg (show ¬ j<i+1 by omega)]
theorem U2 (h:au t i=[128])(j:Nat):wR t i j=wR t (i+1) j:=by
 unfold wR;by_cases e:i=j
 ·subst e;rw[if_neg (show ¬ i<i by omega),if_pos (show i<i+1 by omega),cL,if_pos h]
 ·by_cases e1:j<i
  ·rw[if_pos e1,if_pos (show j<i+1 by omega)]
  ·rw[if_neg e1,if_neg (show ¬ j<i+1 by omega)]
attribute [local irreducible] au bQ dX ai bR aF dx c6 fM dS eH
theorem Mk (hs:s.length<1099511627776):az (gG (Sw s) 167 an [.str o s] (U4 s)):=by
 refine az.of_eq (abM s) ?_
 try dsimp only
 have hin:=HE s;have hit:=DR (ai s);have hin2:=λk=>HE (au (ai s) k);refine⟨by omega,λa=>adi ?_ (λ_=>rfl),λa=>⟨by omega,λb=>⟨λc=>FK ?_ ⟨dO,λ_=>rfl⟩,λc=>⟨λd=>FK ?_ ⟨dO,λ_=>rfl⟩,λd=>⟨by omega,λe=>λcap hcap=>⟨λf=> ?_,λf=>⟨λg=> ?_,λg=>FK ?_ ⟨dO,λ_=>rfl⟩⟩⟩,λe=>FK ?_ ⟨dO,λ_=>rfl⟩⟩⟩⟩,λb=>FK ?_ ⟨dO,λ_=>rfl⟩⟩⟩
 ·have a:s=[128]:=of_decide_eq_true a;rw[aq,if_pos a]
 ·have a: ¬ s=[128]:=of_decide_eq_false a;have c:dx s=false:=by simpa using c
  rw[aq,if_neg a,b,c];rfl
 ·have a: ¬ s=[128]:=of_decide_eq_false a;have c:dx s=true:=by simpa using c
  have d:z (aF s=[])=false:=by simpa using d
  rw[aq,if_neg a,b,c,d];rfl
 ·have a: ¬ s=[128]:=of_decide_eq_false a;have c:dx s=true:=by simpa using c
  have d:z (aF s=[])=true:=by simpa using d
  have f:=of_decide_eq_true f;have f:bQ (ai s)=2:=by omega
  have hk:aq s=ov (ai s):=by rw[aq,if_neg a,b,c,d,qi,e,if_pos f];rfl
  have i0:=hit 0;have i1:=hit 1;have i2:=hin2 0;refine⟨by omega,by omega,by omega,by omega,by omega,λg=>⟨by omega,λh=>⟨λk=>adk ?_ (λ_=>rfl),λk=>⟨by omega,λl=>adj ?_ (λ_=>rfl),λl=>FK ?_ ⟨⟨1,eH (ai (au (ai s) 0)),[],bE⟩,λ_=>rfl⟩⟩⟩,λh=>FK ?_ ⟨dO,λ_=>rfl⟩⟩,λg=>FK ?_ ⟨dO,λ_=>rfl⟩⟩
  ·have k:dS (ai (au (ai s) 0))=false:=by simpa using k
   rw[hk,ov,g,h,k];rfl
  ·have k:dS (ai (au (ai s) 0))=true:=by simpa using k
   rw[hk,ov,g,h,k,l];rfl
  ·have k:dS (ai (au (ai s) 0))=true:=by simpa using k
   rw[hk,ov,g,h,k,l];rfl
  ·rw[hk,ov,g,h];rfl
  ·rw[hk,ov,g];rfl
 ·have a: ¬ s=[128]:=of_decide_eq_false a;have c:dx s=true:=by simpa using c
  have d:z (aF s=[])=true:=by simpa using d
  have f:=of_decide_eq_false f;have f: ¬ bQ (ai s)=2:=by omega
  have g:=of_decide_eq_true g;have g:bQ (ai s)=17:=by omega
  have hk:aq s=bif c6 (au (ai s) 16)then 3 else -1:=by rw[aq,if_neg a,b,c,d,qi,e,if_neg f,if_pos g];rfl
  have i16:=hit 16;refine⟨⟨0,by omega,rfl,Sx.aa.cells (λE=>rfl) rfl,aa.refl _,aa.refl _,aa.refl _,trivial⟩,λi hi=>⟨λh=> ?_,λh=> ?_⟩⟩
  ·have h:=of_decide_eq_true h;rw[O,Nat.zero_add];refine⟨by omega,by omega,by omega,rfl,λk=>⟨by omega,by omega,by omega,by omega,by omega,i+1,by omega,by omega,?_,aa.refl _,aa.refl _,aa.refl _,trivial⟩,λk=>⟨by omega,i+1,by omega,by omega,?_,aa.refl _,aa.refl _,aa.refl _,trivial⟩⟩
   ·have k: ¬ au (ai s) i=[128]:=by
     have:z (au (ai s) i=aA [])=false:=by simpa using k
     exact of_decide_eq_false this
    exact U1 (f:=λj=>if i=j then au (ai s) i else wR (ai s) i j) λj _=>U3 k j
   ·have k:au (ai s) i=[128]:=by
     have:z (au (ai s) i=aA [])=true:=by simpa using k
     exact of_decide_eq_true this
    exact U1 λj _=>U2 k j
  ·have h:=of_decide_eq_false h;have ei:i=16:=by omega
   subst ei;refine⟨by omega,by omega,by omega,λk=>adl ?_ (λ_=>rfl),λk=>FK ?_ ⟨⟨3,[],[],dB (cL (ai s))⟩,λ_=>rfl⟩⟩
   ·rw[hk,k];rfl
   ·rw[hk,k];rfl
 ·have a: ¬ s=[128]:=of_decide_eq_false a;have c:dx s=true:=by simpa using c
  have d:z (aF s=[])=true:=by simpa using d
  have f:=of_decide_eq_false f;have f: ¬ bQ (ai s)=2:=by omega
  have g:=of_decide_eq_false g;have g: ¬ bQ (ai s)=17:=by omega
  rw[aq,if_neg a,b,c,d,qi,e,if_neg f,if_neg g];rfl
 ·have a: ¬ s=[128]:=of_decide_eq_false a;have c:dx s=true:=by simpa using c
  have d:z (aF s=[])=true:=by simpa using d
  rw[aq,if_neg a,b,c,d,qi,e];rfl
 ·have a: ¬ s=[128]:=of_decide_eq_false a;rw[aq,if_neg a,b];rfl
def B9:List SV->Option (Prop×cO)
 | [.str o s]=>I (s.length<1099511627776,U4 s)
 | _=>K
theorem X6:av G 167 (cw B9):=by
 refine dW (n:=20) (fn:=an) Tryz.func167 (by kernel_rfl) (by kernel_rfl) ?_;intro args p a h hp;unfold B9 at h;split at h
 ·rename_i s;injection h with h;injection h with h1 h2;subst h1;subst h2;refine⟨_,aaA s,rfl,λb=> ?_,Mk hp⟩;cases b with
  | true=>exact rfl
  | false =>
    intro b;cases b with
    | true=>exact rfl
    | false =>
      intro b;cases b with
      | true=>exact rfl
      | false =>
        intro b;cases b with
        | true=>exact rfl
        | false=>exact λx=>rfl
 ·cases h
end
section
open Go Sx
set_option maxRecDepth 20000
noncomputable def xM:List (FuncId×PT):=(167,cw B9)::Ga
theorem og:bt G (λf=>aD f xM):=.cons X6 (b6 _) xL
def Rel (L:Nat)(t:List UInt8):Prop:=(t.length<L∨32<=t.length)/\t.length<9223372036854775808
def aaO (t:List UInt8):cO:=.fork (bp t) λb=>match b with
 | true=>.ret (.aO [(getD t).sv,.bool q q])
 | false=>.ret (.aO [cW,.bool q o])
def lG (L:Nat):List SV->Option (Prop×cO)
 | [.str o t]=>I (Rel L t,aaO t)
 | _=>K
noncomputable def LF (L:Nat):List (FuncId×PT):=(155,cw (lG L))::xM
noncomputable def Sj (L:Nat):fQ:={cv with cQ:=λf=>aD f (LF L)}
noncomputable def ab7 (x:Nd):bg :=
 {α:=Nat,pre:=λ_ i=>i<=16/\jE bp x.r i=q,kY:=λ_ i=>16 - i,fresh:=0,slots:=λ_ i=>[(7,.int .i64 o i)],
  mem:=λ_ i=>[(2,.cells [.int .i64 o (min (x.v.length:Int) 1+dz x.r i)] 1 3)]}
noncomputable def Sc (L:Nat)(x:Nd):fQ:={cv with cQ:=λf=>aD f (LF L),bD:=λf=>if f=201 then [(1,always (ab7 x))] else []}
def oO (L:Nat)(r:Nat->List UInt8):Prop:=∀ j,j<16->Rel L (r j)
noncomputable def T4 (L:Nat):List (FuncId×PT):=(187,bh (fz λx=>I (Rel L (x.r 0),.bool o (ny bp x))))::(188,bh (fz λx=>I (oO L x.r,.bool o (dQ bp x))))::xM
noncomputable def qF (L:Nat):fQ:={cv with cQ:=λf=>aD f (T4 L)}
noncomputable def LG (L:Nat):List (FuncId×PT):=(152,bh (fz λx=>I (oO L x.r,.bool o (aX x))))::(153,bh (fz λx=>I ((0<=x.k/\x.k<=3)/\x.oN,.str o (cS x))))::xM
noncomputable def Sk (L:Nat):fQ:={cv with cQ:=λf=>aD f (LG L)}
def Te (s:List UInt8):cO:=.fork (aY s) λb=>match b with
 | true=>.ret (.aO [(getD s).sv,.int .i64 q 0])
 | false=>.ret (.aO [cW,.int .i64 q 2])
def vq (L:Nat):List SV->Option (Prop×cO)
 | [.str o s]=>I (s.length<=L/\s.length<1099511627776,Te s)
 | _=>K
noncomputable def YT (L:Nat):fQ:={cv with cQ:=λf=>aD f ((127,cw (vq L))::xM)}
noncomputable def Sq:fQ:={cv with cQ:=λf=>aD f ((127,λ_ _ _ _=>.fail "not to be called")::xM)}
theorem aau:Sx.Good G Sq:=.of bX (bt.cons (λ_ _ _ _ h=>h.elim) (λ_ _ _ _ _ _ h=>h) og) bw
theorem YE (x:Nd)(R:SV->Prop):VC.holds (eO vh 153 Y [x.yp q 0] R)=((True/\R (SV.str o [(128:UInt8)]))):=by kernel_rfl
theorem YF (x:Nd)(R:SV->Prop):VC.holds (eO vh 153 Y [x.yp q 1] R)=(({k:=(1:Int),p:=x.p,v:=x.v,r:=fun(u1:Nat)=>(cK x.r []).getD u1 []:Nd}.oN/\R (SV.str o (jI {k:=(1:Int),p:=x.p,v:=x.v,r:=fun(u0:Nat)=>(cK x.r []).getD u0 []:Nd})))):=by kernel_rfl
theorem YG (x:Nd)(R:SV->Prop):VC.holds (eO vh 153 Y [x.yp q 2] R)=(({k:=(2:Int),p:=x.p,v:=x.v,r:=fun(u1:Nat)=>(cK x.r []).getD u1 []:Nd}.oN/\R (SV.str o (qp {k:=(2:Int),p:=x.p,v:=x.v,r:=fun(u0:Nat)=>(cK x.r []).getD u0 []:Nd})))):=by kernel_rfl
theorem YH (x:Nd)(R:SV->Prop):VC.holds (eO vh 153 Y [x.yp q 3] R)=(({k:=(3:Int),p:=x.p,v:=x.v,r:=fun(u1:Nat)=>(cK x.r []).getD u1 []:Nd}.oN/\R (SV.str o (fS {k:=(3:Int),p:=x.p,v:=x.v,r:=fun(u0:Nat)=>(cK x.r []).getD u0 []:Nd})))):=by kernel_rfl
theorem acT (L:Nat)(x:Nd)(R:SV->Prop):VC.holds (eO (Sj L) 187 Tryz.f187 [x.sv] R)=((True/\((!gW {k:=x.k,p:=x.p,v:=x.v,r:=fun(u3:Nat)=>(cK x.r []).getD u3 []:Nd} (1:Int))=q->R (SV.bool q o))/\((!gW {k:=x.k,p:=x.p,v:=x.v,r:=fun(u2:Nat)=>(cK x.r []).getD u2 []:Nd} (1:Int))=o->((!decide (x.v=[]))=q->R (SV.bool q o))/\((!decide (x.v=[]))=o->True/\((!decide (cD (fun(u1:Nat)=>(cK x.r []).getD u1 []) 16=(1:Int)))=q->R (SV.bool q o))/\((!decide (cD (fun(u0:Nat)=>(cK x.r []).getD u0 []) 16=(1:Int)))=o->(x.r 0).length<9223372036854775808/\(aQ (x.r 0)=q->R (SV.bool q q))/\(aQ (x.r 0)=o->Rel L (x.r 0)/\(bp (x.r 0)=q ->R (SV.bool (o&&q) (z ((getD (x.r 0)).k=3))))/\(bp (x.r 0)=o->R (SV.bool q o)))))))):=by kernel_rfl
theorem VH (L:Nat)(x:Nd)(R:SV->Prop):VC.holds (eO (Sc L x) 188 Tryz.f188 [x.sv] R)=((λR0:Nat->SV=>((λP0:SB=>((λP1:SB=>((((!decide (x.p=[]))=q->R (SV.bool q o))/\((!decide (x.p=[]))=o->(z (80<(x.v.length:Int))=q->R (SV.bool q o))/\(z (80<(x.v.length:Int))=o->∀(u5:Loop),(∃(u4:Nat),(u4<=16/\jE bp x.r u4=q)/\0=(u4:Int)/\aa (SB.cells [SV.int .i64 (o&&q) (min (x.v.length:Int) 1)] 1 3) (SB.cells [SV.int .i64 o (min (x.v.length:Int) 1+dz x.r u4)] 1 3)/\aa (SB.loop M K u5) (SB.loop M K u5)/\aa P0 P0/\aa P1 P1/\aa (SB.cells x.sv.cells 19 238) (SB.cells x.sv.cells 19 238)/\True)/\∀(u3:Nat),u3<=16/\jE bp x.r u3=q->(z ((u3:Int)<16)=q->(0<=(u3:Int)/\(u3:Int)<16/\(u3:Int)<(↑(16:Nat):Int))/\((!decide (bT (cK x.r []) (u3:Int).toNat=[]))=q->u5=u5/\(bT (cK x.r []) (u3:Int).toNat).length<9223372036854775808 /\(aQ (bT (cK x.r []) (u3:Int).toNat)=q->I6 (min (x.v.length:Int) 1+dz x.r u3+1)/\I6 ((u3:Int)+1)/\∃(u2:Nat),((u2<=16/\jE bp x.r u2=q)/\16 - u2<16 - u3)/\(u3:Int)+1=(u2:Int)/\aa (SB.cells [SV.int .i64 o (min (x.v.length:Int) 1+dz x.r u3+1)] 1 3) (SB.cells [SV.int .i64 o (min (x.v.length:Int) 1+dz x.r u2)] 1 3)/\aa (SB.loop M K u5) (SB.loop M K u5)/\aa P0 P0/\aa P1 P1/\aa (SB.cells x.sv.cells 19 238) (SB.cells x.sv.cells 19 238)/\True)/\(aQ (bT (cK x.r []) (u3:Int).toNat)=o->Rel L (bT (cK x.r []) (u3:Int).toNat) /\(bp (bT (cK x.r []) (u3:Int).toNat)=q->I6 (min (x.v.length:Int) 1+dz x.r u3+1)/\I6 ((u3:Int)+1)/\∃(u1:Nat),((u1<=16/\jE bp x.r u1=q)/\16 - u1<16 - u3)/\(u3:Int)+1=(u1:Int)/\aa (SB.cells [SV.int .i64 o (min (x.v.length:Int) 1+dz x.r u3+1)] 1 3) (SB.cells [SV.int .i64 o (min (x.v.length:Int) 1+dz x.r u1)] 1 3)/\aa (SB.loop M K u5) (SB.loop M K u5)/\aa P0 P0/\aa P1 P1/\aa (SB.cells x.sv.cells 19 238) (SB.cells x.sv.cells 19 238)/\True)/\(bp (bT (cK x.r []) (u3:Int).toNat)=o->R (SV.bool q o)))) /\((!decide (bT (cK x.r []) (u3:Int).toNat=[]))=o->I6 ((u3:Int)+1)/\∃(u0:Nat),((u0<=16/\jE bp x.r u0=q)/\16 - u0<16 - u3)/\(u3:Int)+1=(u0:Int)/\aa (SB.cells [SV.int .i64 o (min (x.v.length:Int) 1+dz x.r u3)] 1 3) (SB.cells [SV.int .i64 o (min (x.v.length:Int) 1+dz x.r u0)] 1 3)/\aa (SB.loop M K u5) (SB.loop M K u5)/\aa P0 P0/\aa P1 P1/\aa (SB.cells x.sv.cells 19 238) (SB.cells x.sv.cells 19 238)/\True))/\(z ((u3:Int)<16)=o->R (SV.bool (o&&q) (z (2<=min (x.v.length:Int) 1+dz x.r u3))))))))) (SB.cells (SV.bool q o).cells 1 4))) (SB.cells (SV.agg (SV.int .i64 o x.k::SV.str o x.p::SV.str o x.v::cK R0 [])).cells 19 238))) (fun(n0:Nat)=>SV.str o (x.r n0))):=by kernel_rfl
theorem V1 (L:Nat)(x:Nd)(R:SV->Prop):VC.holds (eO (qF L) 152 S [x.yp q 0] R)=((True/\R (SV.bool o (qj {k:=(0:Int),p:=x.p,v:=x.v,r:=fun(u0:Nat)=>(cK x.r []).getD u0 []:Nd})))):=by kernel_rfl
theorem V2 (L:Nat)(x:Nd)(R:SV->Prop):VC.holds (eO (qF L) 152 S [x.yp q 1] R)=((True/\R (SV.bool o (kL {k:=(1:Int),p:=x.p,v:=x.v,r:=fun(u0:Nat)=>(cK x.r []).getD u0 []:Nd})))):=by kernel_rfl
theorem V3 (L:Nat)(x:Nd)(R:SV->Prop):VC.holds (eO (qF L) 152 S [x.yp q 2] R)=((Rel L ((cK x.r []).getD 0 [])/\R (SV.bool o (ny bp {k:=(2:Int),p:=x.p,v:=x.v,r:=fun(u0:Nat)=>(cK x.r []).getD u0 []:Nd})))):=by kernel_rfl
theorem V4 (L:Nat)(x:Nd)(R:SV->Prop):VC.holds (eO (qF L) 152 S [x.yp q 3] R)=(((oO L fun(u1:Nat)=>(cK x.r []).getD u1 [])/\R (SV.bool o (dQ bp {k:=(3:Int),p:=x.p,v:=x.v,r:=fun(u0:Nat)=>(cK x.r []).getD u0 []:Nd})))):=by kernel_rfl
theorem V5 (L:Nat)(x:Nd)(R:SV->Prop):VC.holds (eO (qF L) 152 S [x.sv] R)=(((z (x.k<0)=q->R (SV.bool q o))/\(z (x.k<0)=o->(z (3<x.k)=q->R (SV.bool q o))/\(z (3<x.k)=o->(0<=x.k/\x.k<4)/\False)))):=by kernel_rfl
theorem Rb (L:Nat)(s:List UInt8):VC.holds (gG (Sk L) 127 bf [.str o s] (Te s))=((λR0:Nat->SV=>((λR1:Nat->SV=>((λR2:Nat->SV=>((λP0:SV=>((λP1:SV=>((λP2:SV=>((λP3:SV=>((λP4:List UInt8=>((s.length<1099511627776/\(z (aq s=0)=q->(oO L fun(u24:Nat)=>(cK (λ_=>[]) []).getD u24 [])/\((!aX {k:=(0:Int),p:=[],v:=[],r:=fun(u23:Nat)=>(cK (λ_=>[]) []).getD u23 []:Nd})=q->(aY s=q->af P0 P1)/\(aY s=o->af P0 P2))/\((!aX {k:=(0:Int),p:=[],v:=[],r:=fun(u22:Nat)=>(cK (λ_=>[]) []).getD u22 []:Nd})=o->(((0:Int)<=(0:Int)/\(0:Int)<=(3:Int))/\{k:=(0:Int),p:=[],v:=[],r:=fun(u21:Nat)=>(cK (λ_=>[]) []).getD u21 []:Nd}.oN)/\((!decide (cS {k:=(0:Int),p:=[],v:=[],r:=fun(u20:Nat)=>(cK (λ_=>[]) []).getD u20 []:Nd}=s))=q->(aY s=q->af P0 P1)/\(aY s=o->af P0 P2))/\((!decide (cS {k:=(0:Int),p:=[],v:=[],r:=fun(u19:Nat)=>(cK (λ_=>[]) []).getD u19 []:Nd}=s))=o ->(aY s=q->af P3 P1)/\(aY s=o->af P3 P2))))/\(z (aq s=0)=o->(z (aq s=1)=q->(oO L fun(u18:Nat)=>(cK bE []).getD u18 [])/\((!aX {k:=(1:Int),p:=eH P4,v:=ai (au (ai s) 1),r:=fun(u17:Nat)=>(cK bE []).getD u17 []:Nd})=q->(aY s=q->af P0 P1)/\(aY s=o->af P0 P2))/\((!aX {k:=(1:Int),p:=eH P4,v:=ai (au (ai s) 1),r:=fun(u16:Nat)=>(cK bE []).getD u16 []:Nd})=o->(((0:Int)<=(1:Int)/\(1:Int)<=(3:Int)) /\{k:=(1:Int),p:=eH P4,v:=ai (au (ai s) 1),r:=fun(u15:Nat)=>(cK bE []).getD u15 []:Nd}.oN)/\((!decide (cS {k:=(1:Int),p:=eH P4,v:=ai (au (ai s) 1),r:=fun(u14:Nat)=>(cK bE []).getD u14 []:Nd}=s))=q->(aY s=q->af P0 P1)/\(aY s=o->af P0 P2))/\((!decide (cS {k:=(1:Int),p:=eH P4,v:=ai (au (ai s) 1),r:=fun(u13:Nat)=>(cK bE []).getD u13 []:Nd}=s))=o->(aY s=q ->af (SV.aO [SV.agg (SV.int .i64 q 1::(SV.str o (eH P4))::(SV.str o (ai (au (ai s) 1)))::cK R0 []),SV.int .i64 q 0]) P1)/\(aY s=o->af (SV.aO [SV.agg (SV.int .i64 q 1::(SV.str o (eH P4))::(SV.str o (ai (au (ai s) 1)))::cK R0 []),SV.int .i64 q 0]) P2))))/\(z (aq s=1)=o->(z (aq s=2)=q->(oO L fun(u12:Nat)=>(cK (λi=>bL (au (ai s) 1) i) []).getD u12 []) /\((!aX {k:=(2:Int),p:=eH P4,v:=[],r:=fun(u11:Nat)=>(cK (λi=>bL (au (ai s) 1) i) []).getD u11 []:Nd})=q->(aY s=q->af P0 P1)/\(aY s=o->af P0 P2)) /\((!aX {k:=(2:Int),p:=eH P4,v:=[],r:=fun(u10:Nat)=>(cK (λi=>bL (au (ai s) 1) i) []).getD u10 []:Nd})=o->(((0:Int)<=(2:Int)/\(2:Int)<=(3:Int)) /\{k:=(2:Int),p:=eH P4,v:=[],r:=fun(u9:Nat)=>(cK (λi=>bL (au (ai s) 1) i) []).getD u9 []:Nd}.oN) /\((!decide (cS {k:=(2:Int),p:=eH P4,v:=[],r:=fun(u8:Nat)=>(cK (λi=>bL (au (ai s) 1) i) []).getD u8 []:Nd}=s))=q->(aY s=q->af P0 P1)/\(aY s=o->af P0 P2)) /\((!decide (cS {k:=(2:Int),p:=eH P4,v:=[],r:=fun(u7:Nat)=>(cK (λi=>bL (au (ai s) 1) i) []).getD u7 []:Nd}=s))=o->(aY s=q->af (SV.aO [SV.agg (SV.int .i64 q 2::(SV.str o (eH P4))::SV.str o []::cK R1 []),SV.int .i64 q 0]) P1)/\(aY s=o->af (SV.aO [SV.agg (SV.int .i64 q 2::(SV.str o (eH P4))::SV.str o []::cK R1 []),SV.int .i64 q 0]) P2))))/\(z (aq s=2)=o->(z (aq s=3)=q ->(oO L fun(u6:Nat)=>(cK (λi=>dB (cL (ai s)) i) []).getD u6 [])/\((!aX {k:=(3:Int),p:=[],v:=ai (au (ai s) 16),r:=fun(u5:Nat)=>(cK (λi=>dB (cL (ai s)) i) []).getD u5 []:Nd})=q->(aY s=q->af P0 P1)/\(aY s=o->af P0 P2)) /\((!aX {k:=(3:Int),p:=[],v:=ai (au (ai s) 16),r:=fun(u4:Nat)=>(cK (λi=>dB (cL (ai s)) i) []).getD u4 []:Nd})=o->(((0:Int)<=(3:Int)/\(3:Int)<=(3:Int))/\{k:=(3:Int),p:=[],v:=ai (au (ai s) 16),r:=fun(u3:Nat)=>(cK (λi=>dB (cL (ai s)) i) []).getD u3 []:Nd}.oN) /\((!decide (cS {k:=(3:Int),p:=[],v:=ai (au (ai s) 16),r:=fun(u2:Nat)=>(cK (λi=>dB (cL (ai s)) i) []).getD u2 []:Nd}=s))=q->(aY s=q->af P0 P1)/\(aY s=o->af P0 P2))/\((!decide (cS {k:=(3:Int),p:=[],v:=ai (au (ai s) 16),r:=fun(u1:Nat)=>(cK (λi=>dB (cL (ai s)) i) []).getD u1 []:Nd}=s))=o ->(aY s=q->af (SV.aO [SV.agg (SV.int .i64 q 3::SV.str o []::(SV.str o (ai (au (ai s) 16)))::cK R2 []),SV.int .i64 q 0]) P1)/\(aY s=o->af (SV.aO [SV.agg (SV.int .i64 q 3::SV.str o []::(SV.str o (ai (au (ai s) 16)))::cK R2 []),SV.int .i64 q 0]) P2))))/\(z (aq s=3)=o->∀(_:Nd),(aY s=q->af P0 P1)/\(aY s=o->af P0 P2)))))))) (ai (au (ai s) 0)))) (SV.aO [SV.agg (SV.int .i64 q 0::SV.str q []::SV.str q []::E6),SV.int .i64 q 0]))) (SV.aO [cW,SV.int .i64 q 2]))) (SV.aO [(getD s).sv,SV.int .i64 q 0]))) (SV.aO [SV.agg (SV.int .i64 q 0::SV.str q []::SV.str q []::E6),SV.int .i64 q 2]))) (fun(n0:Nat)=>SV.str o (dB (cL (ai s)) n0)))) (fun(n0:Nat)=>SV.str o (bL (au (ai s) 1) n0)))) (fun(n0:Nat)=>SV.str o (bE n0))):=by kernel_rfl
theorem VM (L:Nat)(t:List UInt8):VC.holds (gG (YT L) 155 Z [.str o t] (aaO t))=((λR0:Nat->SV=>((λP0:SV=>(((z (32<=(t.length:Int))=q->(bp t=q->af P0 (SV.aO [(getD t).sv,SV.bool q q]))/\(bp t=o->af P0 (SV.aO [cW,SV.bool q o])))/\(z (32<=(t.length:Int))=o->(t.length<=L/\t.length<1099511627776)/\(aY t=q->(z ((getD t).k=0)=q->(bp t=q->af P0 (SV.aO [(getD t).sv,SV.bool q q]))/\(bp t=o->af P0 (SV.aO [cW,SV.bool q o])))/\(z ((getD t).k=0)=o->(bp t=q->af (SV.aO [SV.agg ((SV.int .i64 o (getD t).k)::(SV.str o (getD t).p)::(SV.str o (getD t).v)::cK R0 []),SV.bool q q]) (SV.aO [(getD t).sv,SV.bool q q]))/\(bp t=o->af (SV.aO [SV.agg ((SV.int .i64 o (getD t).k)::(SV.str o (getD t).p)::(SV.str o (getD t).v)::cK R0 []),SV.bool q q]) (SV.aO [cW,SV.bool q o]))))/\(aY t=o->(bp t=q->af P0 (SV.aO [(getD t).sv,SV.bool q q]))/\(bp t=o ->af P0 (SV.aO [cW,SV.bool q o]))))))) (SV.aO [SV.agg (SV.int .i64 q 0::SV.str q []::SV.str q []::E6),SV.bool q o]))) (fun(n0:Nat)=>SV.str o ((getD t).r n0))):=by kernel_rfl
theorem Ra (t:List UInt8):VC.holds (gG Sq 155 Z [.str o t] (aaO t))=((λP0:SV=>(((z (32<=(t.length:Int))=q->(bp t=q->af P0 (SV.aO [(getD t).sv,SV.bool q q]))/\(bp t=o->af P0 (SV.aO [cW,SV.bool q o])))/\(z (32<=(t.length:Int))=o->False)))) (SV.aO [SV.agg (SV.int .i64 q 0::SV.str q []::SV.str q []::E6),SV.bool q o])):=by kernel_rfl
theorem A6 (b:Int)(n:Nat):1<=(b8 b n).length:=by unfold b8;split<;>simp
theorem Xv (h:bR s=q)(hl:dx s=q):(ai s).length<s.length:=by have:=congrArg cx (HF h);rw[hl] at this;unfold mS at this;have hp:=A6 192 (ai s).length;simp only[cond_true,ax] at this;omega
theorem kH (h:aQ t=q):t.length=33:=by
 obtain⟨⟨h1,h2,h3⟩,h4⟩:=qR.1 h;have:=congrArg cx (HF h1);rw[h2,h3] at this;unfold mS aA b8 at this;simp only[cond_false,List.append_nil,h4] at this;simp only[show ¬ ((32:Nat)=1/\ah (ai t) 0<128)from by omega,if_false,ax,h4] at this
 simpa using this.symm
theorem TF {n:Nat}(h:Bd n t=q):t.length<32:=by
 cases n with
 | zero=>simp[Bd] at h
 | succ n =>simp only[Bd,P,decide_eq_true_eq] at h;exact h.1
theorem m6 (h:bp t=q):t.length<32:=TF h
theorem jg {r:Nat->List UInt8}: ∀ {n j:Nat},cD r n<=(j:Int)->j<n->r j=[]
 | 0,_,_,h=>absurd h (Q _)
 | n+1,j,h,hj=>by
   unfold cD at h;by_cases e:r n=[]
   ·rw[if_pos e] at h;by_cases ej:j=n
    ·subst ej;exact e
    ·exact jg h (by omega)
   ·rw[if_neg e] at h;omega
theorem qZ {inl:List UInt8->Bool}{r:Nat->List UInt8}: ∀ {n j:Nat},jE inl r n=q->j<n->r j=[]∨iV inl (r j)=q
 | 0,_,_,h=>absurd h (Q _)
 | n+1,j,h,hj=>by
   simp only[jE,P,W,decide_eq_true_eq] at h;by_cases ej:j=n
   ·subst ej;exact h.2
   ·exact qZ h.1 (by omega)
theorem IP {inl:List UInt8->Bool}{r:Nat->List UInt8}: ∀ {n j:Nat},j<n->r j≠[]->iV inl (r j)=o->jE inl r n=o
 | 0,_,h,_,_=>absurd h (Q _)
 | n+1,j,hj,h0,h1=>by
   simp only[jE];by_cases ej:j=n
   ·subst ej;rw[h1,show z (r j=[])=o from decide_eq_false h0];simp
   ·rw[IP (n:=n) (by omega) h0 h1];rfl
theorem pH (h:iV bp t=q):t.length<=33:=by
 simp only[iV,W] at h;rcases h with h | h
 ·have:=kH h;omega
 ·have:=m6 h;omega
theorem Jj {l:Int}(h:gW x l=q):x.p.length<=12:=by simp only[gW,P,decide_eq_true_eq] at h;omega
theorem ur (h:kL x=q):x.p.length<=12/\x.v≠[]/\x.v.length<=80/\∀ j,j<16->x.r j=[]:=by simp only[kL,P,Bool.not_eq_true',decide_eq_true_eq,decide_eq_false_iff_not] at h;obtain⟨h1,h2,h3,h4⟩:=h;exact⟨Jj h1,h2,by omega,λj hj=>jg (n:=16) (by omega) hj⟩
theorem xo (h:ny inl x=q):x.p.length<=12/\x.v=[]/\(∀ j,1<=j->j<16->x.r j=[])/\cD x.r 16=1/\(aQ (x.r 0)=q∨(inl (x.r 0)=q/\(getD (x.r 0)).k=3)):=by simp only[ny,P,W,decide_eq_true_eq] at h;obtain⟨h1,h2,h3,h4⟩:=h;exact⟨Jj h1,h2,λj h1 hj=>jg (n:=16) (by omega) hj,h3,h4⟩
theorem oT (h:dQ inl x=q):x.p=[]/\x.v.length<=80/\jE inl x.r 16=q/\2<=min (x.v.length:Int) 1+dz x.r 16:=by simp only[dQ,P,decide_eq_true_eq] at h;obtain⟨h1,h2,h3,h4⟩:=h;exact⟨h1,by omega,h3,h4⟩
theorem BN (h:qj x=q):x.k=0/\x.p=[]/\x.v=[]/\∀ j,j<16->x.r j=[]:=by simp only[qj,P,decide_eq_true_eq,List.all_eq_true] at h;exact⟨h.1,h.2.1,h.2.2.1,λj hj=>h.2.2.2 j (List.mem_range.2 hj)⟩
theorem nr (h:iX inl x=q):(x.k=0/\qj x=q)∨(x.k=1/\kL x=q)∨(x.k=2/\ny inl x=q)∨(x.k=3/\dQ inl x=q):=by
 unfold iX at h;split at h
 ·exact .inl ⟨by assumption,h⟩
 ·split at h
  ·exact .inr (.inl ⟨by assumption,h⟩)
  ·split at h
   ·exact .inr (.inr (.inl ⟨by assumption,h⟩))
   ·split at h
    ·exact .inr (.inr (.inr ⟨by assumption,h⟩))
    ·cases h
structure Nd.lu (x:Nd):Prop where
 k:0<=x.k/\x.k<=3
 p:x.p.length<=12
 v:x.v.length<=80
 r: ∀ j,j<16->x.r j=[]∨iV bp (x.r j)=q
theorem gi (h:aX x=q):x.lu:=by
 rcases nr h with ⟨hk,h⟩ | ⟨hk,h⟩ | ⟨hk,h⟩ | ⟨hk,h⟩
 ·obtain⟨_,h1,h2,h3⟩:=BN h;exact⟨by omega,by rw[h1];simp,by rw[h2];simp,λj hj=>.inl (h3 j hj)⟩
 ·obtain⟨h1,_,h2,h3⟩:=ur h;exact⟨by omega,h1,h2,λj hj=>.inl (h3 j hj)⟩
 ·obtain⟨h1,h2,h3,_,h4⟩:=xo h;refine⟨by omega,h1,by rw[h2];simp,λj hj=> ?_⟩;by_cases e:j=0
  ·subst e;refine .inr ?_;simp only[iV,W];exact h4.imp id λh=>h.1
  ·exact .inl (h3 j (by omega) hj)
 ·obtain⟨h1,h2,h3,_⟩:=oT h;exact⟨by omega,by rw[h1];simp,h2,λj hj=>qZ h3 hj⟩
theorem Nd.lu.ref (h:x.lu)(j:Nat)(hj:j<16):(x.r j).length<=33:=by
 rcases h.r j hj with h | h
 ·rw[h];simp
 ·exact pH h
theorem Nd.lu.few (h:x.lu):x.oN:=⟨by have:=h.p;omega,by have:=h.v;omega,λj hj=>by have:=h.ref j hj;omega⟩
theorem BE {f g:List UInt8->Bool}{r:Nat->List UInt8}: ∀ {n:Nat},(∀ j,j<n->r j≠[]->f (r j)=g (r j))->jE f r n=jE g r n
 | 0,_=>rfl
 | n+1,h=>by
   simp only[jE];rw[BE λj hj=>h j (by omega)];by_cases e:r n=[]
   ·simp[e]
   ·simp only[iV,h n (by omega) e]
theorem Ki {f g:List UInt8->Bool}(h: ∀ j,j<16->x.r j≠[]->f (x.r j)=g (x.r j)):iX f x=iX g x:=by
 have e3:dQ f x=dQ g x:=by simp only[dQ,BE h]
 have e2:ny f x=ny g x:=by
  by_cases e:x.r 0=[]
  ·have hb:z (cD x.r 16=1)=o∨∃ j,1<=j/\j<16/\x.r j≠[]:=by
    by_cases hb:cD x.r 16=1
    ·exfalso;have hz: ∀ n,n<=16->(∀ j,j<n->x.r j=[])->cD x.r n=0:=by
      intro n;induction n with
      | zero=>intro _ _;rfl
      | succ n ih=>intro hn hj;rw[cD,if_pos (hj n (by omega)),ih (by omega) λj hj'=>hj j (by omega)]
     have:=hz 16 (by omega) λj hj=>by
      by_cases e0:j=0
      ·subst e0;exact e
      ·exact jg (n:=16) (by omega) hj
     omega
    ·exact .inl (decide_eq_false hb)
   by_cases hb:cD x.r 16=1
   ·rcases ‹_∨_› with h1 | ⟨j,h1,h2,h3⟩
    ·exact absurd hb (of_decide_eq_false h1)
    ·exact absurd (jg (n:=16) (by omega) h2) h3
   ·simp only[ny,hb,decide_false,aP,ay]
  ·simp only[ny,h 0 (by decide) e]
 simp only[iX,e2,e3]
theorem Cq (h:1<=aq s):bR s=q/\dx s=q/\aF s=[]/\aq s=qi (ai s):=by
 unfold aq at h ⊢;split at h
 ·omega
 ·rename_i hs
  cases h1:bR s<;>cases h2:dx s<;>cases h3:z (aF s=[])<;>simp only[h1,h2,h3,T,ay,cond_false] at h<;>first
   | omega
   | exact⟨rfl,rfl,of_decide_eq_true h3,by rw[if_neg hs];rfl⟩
theorem GJ (h:0<=aq s)(j:Nat)(hj:(getD s).r j≠[]):((getD s).r j).length<s.length:=by
 by_cases h1:1<=aq s
 ·obtain⟨g1,g2,_,_⟩:=Cq h1;have hl:=Xv g1 g2;have hit:=DR (ai s);have key: ∀(r:Nat->List UInt8),(∀ i,i<16->(r i).length<=(ai s).length)->(dB r j).length<=(ai s).length:=by
   intro r hr;by_cases h16:j<16
   ·have:dB r j=r j:=fy r j h16;rw[this];exact hr j h16
   ·have:dB r j=[]:=by unfold dB Cb;rw[cl,ct (by simp;omega)];rfl
    rw[this];simp
  have e:((getD s).r j).length<=(ai s).length:=by
   unfold getD;split
   ·exact key bE λi hi=>by rw[show bE i=(λ_=>[]) i from fy (λ_=>[]) i hi];simp
   ·split
    ·refine key (bL (au (ai s) 1)) λi hi=> ?_;have:bL (au (ai s) 1) i=(λi=>if i=0 then au (ai s) 1 else []) i:=fy (λi=>if i=0 then au (ai s) 1 else []) i hi
     rw[this];show(if i=0 then au (ai s) 1 else []).length<=_
     split
     ·exact hit 1
     ·simp
    ·split
     ·refine key (cL (ai s)) λi _=> ?_;unfold cL;split
      ·simp
      ·exact hit i
     ·exact key bE λi hi=>by rw[show bE i=(λ_=>[]) i from fy (λ_=>[]) i hi];simp
  omega
 ·exfalso;apply hj;have h0:aq s=0:=by omega
  unfold getD;rw[if_neg (by omega),if_neg (by omega),if_neg (by omega)];show bE j=[]
  by_cases h16:j<16
  ·exact fy (λ_=>[]) j h16
  ·unfold bE Cb;rw[cl,ct (by simp;omega)];rfl
theorem AY {f g:List UInt8->Bool}(h: ∀ r:List UInt8,r.length<t.length->f r=g r):C1 f t=C1 g t:=by
 unfold C1;by_cases h0:0<=aq t
 ·rw[Ki (f:=f) (g:=g) λj _ hr=>h _ (GJ h0 j hr)]
 ·rw[decide_eq_false h0];rfl
theorem DP: ∀(n m:Nat) (t:List UInt8),t.length<n->t.length<m->Bd n t=Bd m t
 | 0,_,_,h,_=>absurd h (Q _)
 | _,0,_,_,h=>absurd h (Q _)
 | n+1,m+1,t,hn,hm=>by simp only[Bd];rw[AY (t:=t) λr hr=>DP n m r (by omega) (by omega)]
theorem xx (t:List UInt8):bp t=(z (t.length<32)&&(aY t&& !decide ((getD t).k=0))):=by
 by_cases h:t.length<32
 ·unfold bp aY;rw[show Bd 32 t=(z (t.length<32)&&(C1 (Bd 31) t&& !decide ((getD t).k=0)))from rfl]
  rw[AY (t:=t) (f:=Bd 31) (g:=bp) λr hr=>DP 31 32 r (by omega) (by omega)]
 ·rw[decide_eq_false h,aP];exact Bool.eq_false_iff.2 λh'=>h (m6 h')
theorem Ek {f:FuncId}{fn:Func}(hf:G.funcs[f]?=I fn) (hn:(fn.name== "runtime.NumGoroutine")=o) (hb:fn.body.isSome=q) {g:Nd->Option (Prop×SV)}
  (H: ∀ x p v,g x=I (p,v)->p->∃ cfg args',Sx.Good G cfg/\(∀ E,SV.vals E args'=SV.vals E [x.sv])/\SV.fO 0 args'=q/\v.wf 0=q/\az (eO cfg f fn args' (λu=>af u v))):av G f (bh (fz g)):=by
 refine eX (Nb (n:=20) hf hn hb ?_);intro args p a h hp;obtain⟨⟨p0,v0⟩,hq,hpa⟩:=cy.1 h;obtain⟨x,hx,hg⟩:=lU hq;subst hx;injection hpa with h1 h2;subst h1;subst h2;obtain⟨cfg,args',c1,c2,c3,c4,c5⟩:=H x _ _ hg hp;exact⟨cfg,args',c1,c2,c3,c4,c5⟩
theorem Nd.oN.kind (h:x.oN)(k:Int):Nd.oN {k:=k,p:=x.p,v:=x.v,r:=fun(i:Nat)=>[x.r 0,x.r 1,x.r 2,x.r 3,x.r 4,x.r 5,x.r 6,x.r 7,x.r 8,x.r 9,x.r 10,x.r 11,x.r 12,x.r 13,x.r 14,x.r 15].getD i []} :=⟨h.p,h.v,λj hj=>by show([x.r 0,x.r 1,x.r 2,x.r 3,x.r 4,x.r 5,x.r 6,x.r 7,x.r 8,x.r 9,x.r 10,x.r 11,x.r 12,x.r 13,x.r 14,x.r 15].getD j []).length<=1000;rw[fy x.r j hj];exact h.r j hj⟩
theorem kV (x:Nd)(h:x.k=k)(E:Nat->Nat):SV.vals E [x.yp q k]=SV.vals E [x.sv]:=by subst h;rfl
theorem TO (h:0<=k/\k<=3):k=0∨k=1∨k=2∨k=3:=by omega
theorem Qf:av G 153 (bh (fz λx=>I ((0<=x.k/\x.k<=3)/\x.oN,.str o (cS x)))):=by
 refine Ek Tryz.func153 (by kernel_rfl) (by kernel_rfl) λx p v h hp=> ?_;injection h with h;injection h with h1 h2;subst h1;subst h2;obtain⟨hk,hf⟩:=hp;rcases TO hk with e | e | e | e
 ·exact⟨vh,[x.yp q 0],FV,kV x e,rfl,rfl,az.of_eq (YE x _) ⟨trivial,λE=>by rw[cS,if_pos e]⟩⟩
 ·exact⟨vh,[x.yp q 1],FV,kV x e,rfl,rfl,az.of_eq (YF x _) ⟨hf.kind 1,λE=>by rw[cS,if_neg (by omega),if_pos e];rfl⟩⟩
 ·exact⟨vh,[x.yp q 2],FV,kV x e,rfl,rfl,az.of_eq (YG x _) ⟨hf.kind 2,λE=>by rw[cS,if_neg (by omega),if_neg (by omega),if_pos e];rfl⟩⟩
 ·exact⟨vh,[x.yp q 3],FV,kV x e,rfl,rfl,az.of_eq (YH x _) ⟨hf.kind 3,λE=>by rw[cS,if_neg (by omega),if_neg (by omega),if_neg (by omega)];rfl⟩⟩
section
variable {L : Nat} (hI : av G 155 (cw (lG L)))
include hI
theorem D0:bt G (λf=>aD f (LF L)):=.cons hI (b6 _) og
theorem aao:Sx.Good G (Sj L):=.of bX (D0 hI) bw
theorem aaf (x:Nd):Sx.Good G (Sc L x):=.of bX (D0 hI) bw
theorem Z4:av G 187 (bh (fz λx=>I (Rel L (x.r 0),.bool o (ny bp x)))):=by
 refine Ek Tryz.func187 (by kernel_rfl) (by kernel_rfl) λx p v h hp=> ?_;injection h with h;injection h with h1 h2;subst h1;subst h2;refine⟨Sj L,[x.sv],aao hI,λE=>rfl,rfl,rfl,az.of_eq (acT L x _) ?_⟩;have e:gW {k:=x.k,p:=x.p,v:=x.v,r:=fun(i:Nat)=>[x.r 0,x.r 1,x.r 2,x.r 3,x.r 4,x.r 5,x.r 6,x.r 7,x.r 8,x.r 9,x.r 10,x.r 11,x.r 12,x.r 13,x.r 14,x.r 15].getD i []:Nd} 1=gW x 1:=rfl;rw[e,fF (fy x.r)];unfold ny;have nn: ∀ {b:Bool},(!b)=q->b=false:=λh=>by simpa using h
 have nf: ∀ {b:Bool},(!b)=o->b=true:=λh=>by simpa using h
 refine⟨trivial,λa=>cX ?_,λa=>⟨λb=>cX ?_,λb=>⟨trivial,λc=>cX ?_,λc=>⟨hp.2,λd=>cX ?_,λd=>⟨hp,λf=>cX ?_,λf=>cX ?_⟩⟩⟩⟩⟩
 ·rw[nn a];rfl
 ·rw[nf a,nn b];rfl
 ·rw[nf a,nf b,nn c];rfl
 ·rw[nf a,nf b,nf c,d];rfl
 ·rw[nf a,nf b,nf c,d,f];rfl
 ·rw[nf a,nf b,nf c,d,f];rfl
theorem O1:av G 188 (bh (fz λx=>I (oO L x.r,.bool o (dQ bp x)))):=by
 refine Ek Tryz.func188 (by kernel_rfl) (by kernel_rfl) λx p v h hp=> ?_;injection h with h;injection h with h1 h2;subst h1;subst h2;have hp:oO L x.r:=hp;refine⟨Sc L x,[x.sv],aaf hI x,λE=>rfl,rfl,rfl,az.of_eq (VH L x _) ?_⟩;have nn: ∀ {b:Bool},(!b)=q->b=false:=λh=>by simpa using h
 have nf: ∀ {b:Bool},(!b)=o->b=true:=λh=>by simpa using h
 refine⟨λa=>cX ?_,λa=>⟨λb=>cX ?_,λb R=>⟨⟨0,⟨by omega,rfl⟩,rfl,AB (by simp[dz]),aa.refl _,aa.refl _,aa.refl _,aa.refl _,trivial⟩,λi hi=>⟨λc=> ?_,λc=> ?_⟩⟩⟩⟩
 ·unfold dQ;rw[nn a];rfl
 ·have b:=of_decide_eq_true b;unfold dQ;rw[nf a,decide_eq_false (show ¬ (x.v.length:Int)<=80 by omega)];rfl
 ·have c:=of_decide_eq_true c;have ei:i<16:=by omega
  rw[O,tH x.r ei];have hr:=hp i ei;have hfn:0<=dz x.r i/\dz x.r i<=i:=by
   have: ∀ n,0<=dz x.r n/\dz x.r n<=n:=by
    intro n;induction n with
    | zero=>exact⟨b! _,b! _⟩
    | succ n ih=>unfold dz;split<;>omega
   exact this i
  refine⟨by omega,λd=> ?_,λd=> ?_⟩
  ·have d: ¬ x.r i=[]:=of_decide_eq_false (nn d);have step:dz x.r (i+1)=dz x.r i+1:=by rw[dz,if_neg d]
   refine⟨rfl,hr.2,λf=>⟨by omega,by omega,i+1,⟨⟨by omega,?_⟩,by omega⟩,by omega,AB (by omega),aa.refl _,aa.refl _,aa.refl _,aa.refl _,trivial⟩,λf=>⟨hr,λg=>⟨by omega,by omega,i+1,⟨⟨by omega,?_⟩,by omega⟩,by omega,AB (by omega),aa.refl _,aa.refl _,aa.refl _,aa.refl _,trivial⟩,λg=>cX ?_⟩⟩
   ·simp only[jE,hi.2,iV,f,a!,a_,T]
   ·simp only[jE,hi.2,iV,g,a_,T]
   ·have hm:jE bp x.r 16=false:=IP ei d (by rw[iV,f,g];rfl);unfold dQ;rw[hm];simp
  ·have d:x.r i=[]:=of_decide_eq_true (nf d);have step:dz x.r (i+1)=dz x.r i:=by rw[dz,if_pos d]
   refine⟨by omega,i+1,⟨⟨by omega,?_⟩,by omega⟩,by omega,AB (by omega),aa.refl _,aa.refl _,aa.refl _,aa.refl _,trivial⟩;simp only[jE,hi.2,d,decide_true,a!,T]
 ·have c:=of_decide_eq_false c;have hi1:=hi.1;have e:i=16:=by omega
  subst e;have b:=of_decide_eq_false b;refine cX ?_;unfold dQ;rw[nf a,hi.2,decide_eq_true (show(x.v.length:Int)<=80 by omega)];rfl
theorem PJ:bt G (λf=>aD f (T4 L)):=.cons (Z4 hI) (aS _) (.cons (O1 hI) (aS _) og)
theorem A3:Sx.Good G (qF L):=.of bX (PJ hI) bw
theorem LW:av G 152 (bh (fz λx=>I (oO L x.r,.bool o (aX x)))):=by
 refine Ek Tryz.func152 (by kernel_rfl) (by kernel_rfl) λx p v h hp=> ?_;injection h with h;injection h with h1 h2;subst h1;subst h2;have hp:oO L x.r:=hp;by_cases hk:0<=x.k/\x.k<=3
 ·have hm:oO L (fun(i:Nat)=>[x.r 0,x.r 1,x.r 2,x.r 3,x.r 4,x.r 5,x.r 6,x.r 7,x.r 8,x.r 9,x.r 10,x.r 11,x.r 12,x.r 13,x.r 14,x.r 15].getD i []):=λj hj=>by show Rel L ([x.r 0,x.r 1,x.r 2,x.r 3,x.r 4,x.r 5,x.r 6,x.r 7,x.r 8,x.r 9,x.r 10,x.r 11,x.r 12,x.r 13,x.r 14,x.r 15].getD j []);rw[fy x.r j hj];exact hp j hj
  rcases TO hk with e | e | e | e
  ·refine⟨qF L,[x.yp q 0],A3 hI,kV x e,rfl,rfl,az.of_eq (V1 L x _) ⟨trivial,cX ?_⟩⟩;rw[aX,iX,if_pos e];unfold qj;rw[e];congr 3
  ·refine⟨qF L,[x.yp q 1],A3 hI,kV x e,rfl,rfl,az.of_eq (V2 L x _) ⟨trivial,cX ?_⟩⟩;rw[aX,iX,if_neg (by omega),if_pos e];unfold kL;rw[fF (fy x.r)];rfl
  ·refine⟨qF L,[x.yp q 2],A3 hI,kV x e,rfl,rfl,az.of_eq (V3 L x _) ⟨hp 0 (by decide),cX ?_⟩⟩;rw[aX,iX,if_neg (by omega),if_neg (by omega),if_pos e];unfold ny;rw[fF (fy x.r)];rfl
  ·refine⟨qF L,[x.yp q 3],A3 hI,kV x e,rfl,rfl,az.of_eq (V4 L x _) ⟨hm,cX ?_⟩⟩;rw[aX,iX,if_neg (by omega),if_neg (by omega),if_neg (by omega),if_pos e];unfold dQ;have e1: ∀ n,n<=16->jE bp (fun(i:Nat)=>[x.r 0,x.r 1,x.r 2,x.r 3,x.r 4,x.r 5,x.r 6,x.r 7,x.r 8,x.r 9,x.r 10,x.r 11,x.r 12,x.r 13,x.r 14,x.r 15].getD i []) n=jE bp x.r n/\dz (fun(i:Nat)=>[x.r 0,x.r 1,x.r 2,x.r 3,x.r 4,x.r 5,x.r 6,x.r 7,x.r 8,x.r 9,x.r 10,x.r 11,x.r 12,x.r 13,x.r 14,x.r 15].getD i []) n=dz x.r n:=by
    intro n;induction n with
    | zero=>intro _;exact⟨rfl,rfl⟩
    | succ n ih =>intro hn;obtain⟨i1,i2⟩:=ih (by omega);have g:=fy x.r n (by omega);simp only[jE,dz,i1,i2,g,and_self]
   obtain⟨i1,i2⟩:=e1 16 (by omega);rw[i1,i2]
 ·refine⟨qF L,[x.sv],A3 hI,λE=>rfl,rfl,rfl,az.of_eq (V5 L x _) ?_⟩;have hv:aX x=false:=by rw[aX,iX,if_neg (by omega),if_neg (by omega),if_neg (by omega),if_neg (by omega)]
  rw[hv];exact⟨λ_ _=>rfl,λa=>⟨λ_ _=>rfl,λb=>absurd ⟨by have:=of_decide_eq_false a;omega,by have:=of_decide_eq_false b;omega⟩ hk⟩⟩
theorem D1:bt G (λf=>aD f (LG L)):=.cons (LW hI) (aS _) (.cons Qf (aS _) og)
theorem aap:Sx.Good G (Sk L):=.of bX (D1 hI) bw
end
end
section
open Go Sx
set_option maxRecDepth 20000
theorem QK: ¬ 0<=aq []:=by decide
theorem zQ {L:Nat}{X:Nd}(hX:getD s=X)(hk:0<=aq s)(hr:oO L X.r){V N:SV}(hV:af V (.aO [X.sv,.int .i64 q 0]))(hN:af N (.aO [cW,.int .i64 q 2])) :
  oO L X.r/\((!aX X)=q->(aY s=q->af N (.aO [(getD s).sv,.int .i64 q 0]))/\(aY s=o->af N (.aO [cW,.int .i64 q 2]))) /\
   ((!aX X)=o->((0<=X.k/\X.k<=3)/\X.oN)/\((!decide (cS X=s))=q->(aY s=q->af N (.aO [(getD s).sv,.int .i64 q 0]))/\(aY s=o->af N (.aO [cW,.int .i64 q 2]))) /\
    ((!decide (cS X=s))=o->(aY s=q->af V (.aO [(getD s).sv,.int .i64 q 0]))/\(aY s=o->af V (.aO [cW,.int .i64 q 2])))):=by
 have hB:aY s=(aX X&&z (cS X=s)):=by unfold aY C1;rw[hX,decide_eq_true hk];rfl
 refine⟨hr,λa=> ?_,λa=> ?_⟩
 ·have a:aX X=false:=by simpa using a
  rw[hB,a];exact⟨(λh=>by cases h),λ_=>hN⟩
 ·have a:aX X=true:=by simpa using a
  have hs:=gi a;refine⟨⟨hs.k,hs.few⟩,λb=> ?_,λb=> ?_⟩
  ·have b:z (cS X=s)=false:=by simpa using b
   rw[hB,a,b];exact⟨(λh=>by cases h),λ_=>hN⟩
  ·have b:z (cS X=s)=true:=by simpa using b
   rw[hB,a,b,hX];exact⟨λ_=>hV,λh=>by cases h⟩
attribute [local irreducible] au ai eH bR aF cL
theorem acA:({k:=0,p:=[],v:=[],r:=fun(i:Nat)=>[[],[],[],[],[],[],[],[],[],[],[],[],[],[],[],[]].getD i []}:Nd)=dO:=rfl
theorem aa0:(fun(i:Nat)=>[[],[],[],[],[],[],[],[],[],[],[],[],[],[],[],[]].getD i [])=(dO).r:=rfl
theorem acB (s:List UInt8):({k:=1,p:=eH (ai (au (ai s) 0)),v:=ai (au (ai s) 1),r:=fun(i:Nat)=>[bE 0,bE 1,bE 2,bE 3,bE 4,bE 5,bE 6,bE 7,bE 8,bE 9,bE 10,bE 11,bE 12,bE 13,bE 14,bE 15].getD i []}:Nd)=nF s:=rfl
theorem aa1 (s:List UInt8):(fun(i:Nat)=>[bE 0,bE 1,bE 2,bE 3,bE 4,bE 5,bE 6,bE 7,bE 8,bE 9,bE 10,bE 11,bE 12,bE 13,bE 14,bE 15].getD i [])=(nF s).r:=rfl
theorem acC (s:List UInt8):({k:=2,p:=eH (ai (au (ai s) 0)),v:=[],r:=fun(i:Nat)=>[bL (au (ai s) 1) 0,bL (au (ai s) 1) 1,bL (au (ai s) 1) 2,bL (au (ai s) 1) 3,bL (au (ai s) 1) 4,bL (au (ai s) 1) 5,bL (au (ai s) 1) 6,bL (au (ai s) 1) 7,bL (au (ai s) 1) 8,bL (au (ai s) 1) 9,bL (au (ai s) 1) 10,bL (au (ai s) 1) 11,bL (au (ai s) 1) 12,bL (au (ai s) 1) 13,bL (au (ai s) 1) 14,bL (au (ai s) 1) 15].getD i []}:Nd)=tG s:=rfl
theorem aa2 (s:List UInt8):(fun(i:Nat)=>[bL (au (ai s) 1) 0,bL (au (ai s) 1) 1,bL (au (ai s) 1) 2,bL (au (ai s) 1) 3,bL (au (ai s) 1) 4,bL (au (ai s) 1) 5,bL (au (ai s) 1) 6,bL (au (ai s) 1) 7,bL (au (ai s) 1) 8,bL (au (ai s) 1) 9,bL (au (ai s) 1) 10,bL (au (ai s) 1) 11,bL (au (ai s) 1) 12,bL (au (ai s) 1) 13,bL (au (ai s) 1) 14,bL (au (ai s) 1) 15].getD i [])=(tG s).r:=rfl
theorem lit_3 (s:List UInt8):({k:=3,p:=[],v:=ai (au (ai s) 16),r:=fun(i:Nat)=>[dB (cL (ai s)) 0,dB (cL (ai s)) 1,dB (cL (ai s)) 2,dB (cL (ai s)) 3,dB (cL (ai s)) 4,dB (cL (ai s)) 5,dB (cL (ai s)) 6,dB (cL (ai s)) 7,dB (cL (ai s)) 8,dB (cL (ai s)) 9,dB (cL (ai s)) 10,dB (cL (ai s)) 11,dB (cL (ai s)) 12,dB (cL (ai s)) 13,dB (cL (ai s)) 14,dB (cL (ai s)) 15].getD i []}:Nd)=iE s:=rfl
theorem aa3 (s:List UInt8):(fun(i:Nat)=>[dB (cL (ai s)) 0,dB (cL (ai s)) 1,dB (cL (ai s)) 2,dB (cL (ai s)) 3,dB (cL (ai s)) 4,dB (cL (ai s)) 5,dB (cL (ai s)) 6,dB (cL (ai s)) 7,dB (cL (ai s)) 8,dB (cL (ai s)) 9,dB (cL (ai s)) 10,dB (cL (ai s)) 11,dB (cL (ai s)) 12,dB (cL (ai s)) 13,dB (cL (ai s)) 14,dB (cL (ai s)) 15].getD i [])=(iE s).r:=rfl
theorem Vm (s:List UInt8):aq s<=3:=by
 have hp:ov (ai s)<=3:=by unfold ov;cases (c6 (au (ai s) 0)&&fM (ai (au (ai s) 0)))<;>cases dS (ai (au (ai s) 0))<;>cases c6 (au (ai s) 1)<;>decide
 have hl:qi (ai s)<=3:=by
  unfold qi;cases dX (ai s)with
  | false=>show(-1:Int)<=3;decide
  | true =>
    simp only[cond_true];split
    ·exact hp
    ·split
     ·cases c6 (au (ai s) 16)<;>decide
     ·decide
 unfold aq;split
 ·decide
 ·cases (bR s&&(dx s&&z (aF s=[])))with
  | false=>show(-1:Int)<=3;decide
  | true=>exact hl
theorem Ti (hk: ¬ 0<=aq s):aY s=false:=by unfold aY C1;rw[decide_eq_false hk];rfl
theorem GL {L:Nat}(hs:s.length<=L/\s.length<1099511627776)(hk:0<=aq s):oO L (getD s).r:=by
 intro j _;by_cases e:(getD s).r j=[]
 ·rw[e];have hp:0<s.length:=by
   cases s with
   | nil=>exact absurd hk QK
   | cons a r=>simp
  exact⟨.inl (by simp;omega),by simp⟩
 ·have:=GJ hk j e;exact⟨.inl (by omega),by omega⟩
section
variable {L : Nat} (hI : av G 155 (cw (lG L)))
include hI
theorem uA:av G 127 (cw (vq L)):=by
 refine dW (n:=20) (fn:=bf) Tryz.func127 (by kernel_rfl) (by kernel_rfl) ?_;intro args p a h hp;unfold vq at h;split at h
 ·rename_i s;injection h with h;injection h with h1 h2;subst h1;subst h2;refine⟨Sk L,aap hI,rfl,λb=>by cases b<;>exact rfl,az.of_eq (Rb L s) ?_⟩
  have hp:s.length<=L/\s.length<1099511627776:=hp;have hN:af (SV.aO [cW,.int .i64 q 2]) (.aO [cW,.int .i64 q 2]):=λ_=>rfl;refine⟨hp.2,λa=> ?_,λa=>⟨λb=> ?_,λb=>⟨λc=> ?_,λc=>⟨λd=> ?_,λd=> ?_⟩⟩⟩⟩
  ·have a:aq s=0:=of_decide_eq_true a;have hX:getD s=dO:=by unfold getD;rw[if_neg (by omega),if_neg (by omega),if_neg (by omega)]
   have hr:=GL hp (by omega:0<=aq s);rw[hX] at hr;rw[acA,aa0];exact zQ (L:=L) (X:=dO) hX (by omega) hr (V:=.aO [cW,.int .i64 q 0]) (λ_=>rfl) hN
  ·have b:aq s=1:=of_decide_eq_true b;have hX:getD s=nF s:=by unfold getD;rw[if_pos b]
   have hr:=GL hp (by omega:0<=aq s);rw[hX] at hr;rw[acB s,aa1 s];exact zQ (L:=L) (X:=nF s) hX (by omega) hr (V:=.aO [(nF s).yp q 1,.int .i64 q 0]) (λ_=>rfl) hN
  ·have c:aq s=2:=of_decide_eq_true c;have hX:getD s=tG s:=by unfold getD;rw[if_neg (by omega),if_pos c]
   have hr:=GL hp (by omega:0<=aq s);rw[hX] at hr;rw[acC s,aa2 s];exact zQ (L:=L) (X:=tG s) hX (by omega) hr (V:=.aO [(tG s).yp q 2,.int .i64 q 0]) (λ_=>rfl) hN
  ·have d:aq s=3:=of_decide_eq_true d;have hX:getD s=iE s:=by unfold getD;rw[if_neg (by omega),if_neg (by omega),if_pos d]
   have hr:=GL hp (by omega:0<=aq s);rw[hX] at hr;rw[lit_3 s,aa3 s];exact zQ (L:=L) (X:=iE s) hX (by omega) hr (V:=.aO [(iE s).yp q 3,.int .i64 q 0]) (λ_=>rfl) hN
  ·have a:=of_decide_eq_false a;have b:=of_decide_eq_false b;have c:=of_decide_eq_false c;have d:=of_decide_eq_false d;have hk: ¬ 0<=aq s:=λh0=>by have:=Vm s;omega
   exact λx=>⟨(λh=>by rw[Ti hk] at h;cases h),λ_=>hN⟩
 ·cases h
theorem Pz:av G 155 (cw (lG (L+1))):=by
 refine dW (n:=20) (fn:=Z) b_ (by kernel_rfl) (by kernel_rfl) ?_;intro args p a h hp;unfold lG at h;split at h
 ·rename_i t;injection h with h;injection h with h1 h2;subst h1;subst h2;refine⟨YT L,.of bX (bt.cons (uA hI) (b6 _) og) bw,rfl,λb=>by cases b<;>exact rfl,az.of_eq (VM L t) ?_⟩
  have hp:Rel (L+1) t:=hp;have hN:af (SV.aO [cW,.bool q o]) (.aO [cW,.bool q o]):=λ_=>rfl;refine⟨λa=>⟨λb=> ?_,λ_=>hN⟩,λa=>⟨?_,λb=>⟨λc=>⟨λd=> ?_,λ_=>hN⟩,λc=>⟨λd=>λ_=>rfl,λd=> ?_⟩⟩,λb=>⟨λd=> ?_,λ_=>hN⟩⟩⟩
  ·have a:=of_decide_eq_true a;have:=m6 b;omega
  ·have a:=of_decide_eq_false a;rcases hp.1 with h | h<;>omega
  ·rw[xx,c] at d;simp at d
  ·have a:=of_decide_eq_false a;rw[xx,b,c,decide_eq_true (show t.length<32 by omega)] at d;simp at d
  ·rw[xx,b] at d;simp at d
 ·cases h
end
theorem TG:av G 155 (cw (lG 0)):=by
 refine dW (n:=20) (fn:=Z) b_ (by kernel_rfl) (by kernel_rfl) ?_;intro args p a h hp;unfold lG at h;split at h
 ·rename_i t;injection h with h;injection h with h1 h2;subst h1;subst h2;have hp:Rel 0 t:=hp;have h32:32<=t.length:=by rcases hp.1 with h | h;exact absurd h (Q _);exact h
  refine⟨Sq,aau,rfl,λb=>by cases b<;>exact rfl,az.of_eq (Ra t) ?_⟩
  have hN:af (SV.aO [cW,.bool q o]) (.aO [cW,.bool q o]):=λ_=>rfl;refine⟨λa=>⟨λb=> ?_,λ_=>hN⟩,λa=> ?_⟩
  ·have:=m6 b;omega
  ·have a:=of_decide_eq_false a;omega
 ·cases h
theorem mj: ∀ L,av G 155 (cw (lG L))
 | 0=>TG
 | L+1=>Pz (mj L)
end
end Go.Proofs.YtoibaecagklkaaaGreatDoor
