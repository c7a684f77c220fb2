/-
  Node: texts of nodes: the contracts.
-/
import Derived.Test.YtoibaecagklkaaaGreatDoorMl
open Bool renaming and_eq_true->O,and_false->ay,and_true->S,false->q,false_and->aK,or_eq_true->T,or_true->aM,true->o,true_or->aZ
open Decidable renaming decide->w
open Go.LoopState renaming ready->K
open Go.Proofs.Tryz renaming f127->a_,f152->Q,f153->W,f155->Y,f167->ag,f186->a!,f190->bf,f191->bO,f192->bS,func155->bU,prog->z
open Int renaming le_refl->b_,toNat_natCast->M
open List renaming getD_eq_getElem?_getD->b!,getElem?_eq_none->cl,length->ct,length_append->an,length_cons->Z
open Nat renaming le_trans->I,not_lt_zero->P
open Option renaming map_eq_some_iff->cx,none->J,some->G
namespace Go.Proofs.YtoibaecagklkaaaGreatDoor
open Go Sx
set_option maxRecDepth 20000
theorem qP (b:Int)(n:Nat):(bV b n).length<=9:=by
 unfold bV;split
 ·simp
 ·have:=Fk 8 n;show(UInt8.ofNat _::digits n).length<=9;rw[Z];have:(digits n).length<=8:=Fk 8 n;omega
theorem jy (b:List UInt8):(aA b).length<=b.length+9:=by
 unfold aA;split
 ·omega
 ·have:=qP 128 b.length;rw[an];omega
theorem fu {r r':Nat->List UInt8}: ∀ {n:Nat},(∀ j,j<n->r j=r' j)->cr r n=cr r' n
 | 0,_=>rfl
 | n+1,h=>by unfold cr;rw[h n (by omega),fu (λj hj=>h j (by omega))]
theorem fy (r:Nat->List UInt8)(j:Nat)(h:j<16):[r 0,r 1,r 2,r 3,r 4,r 5,r 6,r 7,r 8,r 9,r 10,r 11,r 12,r 13,r 14,r 15].getD j []=r j:=zn r h
theorem Li (x:Nd):aB (eD yX 186 a! [x.sv] (λv=>af v (.bool q (kH x)))):=by
 refine aB.of_eq (aaB x _) ?_;have e:iq {k:=x.k,p:=x.p,v:=x.v,r:=fun(i:Nat)=>[x.r 0,x.r 1,x.r 2,x.r 3,x.r 4,x.r 5,x.r 6,x.r 7,x.r 8,x.r 9,x.r 10,x.r 11,x.r 12,x.r 13,x.r 14,x.r 15].getD i []:Nd} 0=iq x 0:=rfl;rw[e,fu (fy x.r)];unfold kH;refine⟨trivial,λa=>⟨λb=>⟨λc=>⟨trivial,cM ?_⟩,λc=>cM ?_⟩,λb=>cM ?_⟩,λa=>cM ?_⟩
 ·rw[a,b,c];rfl
 ·rw[a,b,c];rfl
 ·rw[a,b];rfl
 ·rw[a];rfl
def ff (g:Nd->Option (Prop×SV)):List SV->Option (Prop×SV)
 | [.agg l]=>(match LK l with
   | some x=>g x
   | none=>J)
 | _=>J
theorem lH {g:Nd->Option (Prop×SV)}{args:List SV}{p:Prop}{v:SV}(h:ff g args=G (p,v)): ∃ x,args=[x.sv]/\g x=G (p,v):=by
 unfold ff at h;split at h
 ·split at h
  ·rename_i x hx;exact⟨x,by rw[vH hx],h⟩
  ·cases h
 ·cases h
theorem IL (x:Nd):SV.fH 0 [x.sv]=true:=rfl
theorem WA:az z 186 (aY (ff λx=>G (True,.bool q (kH x)))):=by refine iJ FD (n:=20) (fn:=a!) Tryz.func186 (by kernel_rfl) (by kernel_rfl) ?_;intro args p r h hp;obtain⟨x,hx,hg⟩:=lH h;subst hx;injection hg with hg;injection hg with h1 h2;subst h1;subst h2;exact⟨IL x,rfl,Li x⟩
theorem nM {a b:List UInt8}:(flat [a,b]).length=a.length+b.length:=by simp[flat]
theorem n5 {x:Nd}{leaf:Bool}:(cQ x leaf).length<=x.p.length+2:=by
 unfold cQ;cases gY x.p with
 | false=>simp
 | true =>simp only[cond_true,dG,BW,Z];cases w ((x.p.length:Int)% 2=1)<;>simp only[cond_true,cond_false,Z]<;>omega
theorem Bq {x:Nd}(hx:x.oB):aB (eD yX 190 bf [x.sv] (λv=>af v (.str q (jE x)))):=by
 refine aB.of_eq (MI x _) ?_;have h1:=hx.p;have h2:=hx.v;have h3:=n5 (x:=x) (leaf:=o);have h4:=jy (cQ x o);have h5:=jy x.v;have h6:=nM (a:=aA (cQ x o)) (b:=aA x.v);have h7:=qP 192 (((flat [aA (cQ x o),aA x.v]).length:Nat):Int).toNat;refine⟨by omega,λa=> ?_,λa=> ?_⟩
 ·have e:dG x.p o=cQ x true:=by rw[cQ,a];rfl
  rw[e];exact⟨by omega,rfl,by omega,by omega,by omega,by omega,λE=>by rw[jE,eY,M];rfl⟩
 ·have e:[]=cQ x true:=by rw[cQ,a];rfl
  rw[e];exact⟨by omega,rfl,by omega,by omega,by omega,by omega,λE=>by rw[jE,eY,M];rfl⟩
theorem CY {x:Nd}(hx:x.oB):aB (eD yX 191 bO [x.sv] (λv=>af v (.str q (qh x)))):=by
 refine aB.of_eq (QH x _) ?_;have h1:=hx.p;have h2:=hx.r 0 (by decide);have h3:=n5 (x:=x) (leaf:=q);have h4:=jy (cQ x q);have h6:=nM (a:=aA (cQ x q)) (b:=x.r 0);have h7:=qP 192 (((flat [aA (cQ x q),x.r 0]).length:Nat):Int).toNat;refine⟨by omega,λa=> ?_,λa=> ?_⟩
 ·have e:dG x.p q=cQ x false:=by rw[cQ,a];rfl
  rw[e];exact⟨by omega,rfl,by omega,by omega,by omega,λE=>by rw[qh,eY,M];rfl⟩
 ·have e:[]=cQ x false:=by rw[cQ,a];rfl
  rw[e];exact⟨by omega,rfl,by omega,by omega,by omega,λE=>by rw[qh,eY,M];rfl⟩
theorem EM {f g:Nat->List UInt8}{tot:Nat}{ty:TypeId}(h: ∀ j,j<17->f j=g j):aa (.cells (yq f) tot ty) (.cells (yq g) tot ty):=by
 have e:yq f=yq g:=by unfold yq;rw[h 0 (by decide),h 1 (by decide),h 2 (by decide),h 3 (by decide),h 4 (by decide),h 5 (by decide),h 6 (by decide),h 7 (by decide),h 8 (by decide),h 9 (by decide),h 10 (by decide),h 11 (by decide),h 12 (by decide),h 13 (by decide),h 14 (by decide),h 15 (by decide),h 16 (by decide)]
 rw[e];exact aa.refl _
theorem Rq {r:Nat->List UInt8}{i:Nat}(_hi:i<16)(h:r i≠[])(j:Nat):(if i=j then r i else bT r i j)=bT r (i+1) j:=by
 unfold bT;by_cases e:i=j
 ·subst e;rw[if_pos rfl,if_pos (by omega),if_neg h]
 ·rw[if_neg e];by_cases e1:j<i
  ·rw[if_pos e1,if_pos (show j<i+1 by omega)]
  ·rw[if_neg e1,if_neg (show ¬ j<i+1 by omega)]
theorem Rp {r:Nat->List UInt8}{i:Nat}(h:r i=[])(j:Nat):bT r i j=bT r (i+1) j:=by
 unfold bT;by_cases e:i=j
 ·subst e;rw[if_neg (by omega),if_pos (by omega),if_pos h]
 ·by_cases e1:j<i
  ·rw[if_pos e1,if_pos (show j<i+1 by omega)]
  ·rw[if_neg e1,if_neg (show ¬ j<i+1 by omega)]
theorem Ns {l:List (List UInt8)}{m:Nat}(h: ∀ x∈ l,x.length<=m):(flat l).length<=l.length*m:=by
 induction l with
 | nil=>simp[flat]
 | cons a r ih =>
   have h1:=h a (List.mem_cons_self ..);have h2:=ih λx hx=>h x (List.mem_cons_of_mem _ hx);have e:(flat (a::r)).length=a.length+(flat r).length:=by simp[flat]
   rw[e,Z,Nat.succ_mul];omega
theorem YT {x:Nd}(hx:x.oB)(i j:Nat)(h:j<16):(bT x.r i j).length<=1000:=by
 have:=hx.r j h;unfold bT;split
 ·split
  ·simp
  ·exact this
 ·simp
theorem xe {x:Nd}(hx:x.oB):aB (eD (Rx x) 192 bS [x.sv] (λv=>af v (.str q (fL x)))):=by
 refine aB.of_eq (GL x _) ?_;dsimp only;refine⟨by omega,rfl,by omega,rfl,by omega,rfl,by omega,rfl,by omega,rfl,by omega,rfl,by omega,rfl,by omega,rfl,by omega,rfl,by omega,rfl,by omega,rfl,by omega,rfl,by omega,rfl,by omega,rfl,by omega,rfl,by omega,rfl,by omega,rfl,λR=>⟨⟨0,by omega,rfl,Sx.aa.cells (λE=>rfl) rfl,aa.refl _,aa.refl _,aa.refl _,aa.refl _,trivial⟩,λi hi=>⟨λa=> ?_,λa=> ?_⟩⟩⟩
 ·have a:=of_decide_eq_true a;have ei:i<16:=by omega
  have es:=zn x.r ei;rw[M,es];refine⟨by omega,λb=>⟨rfl,by omega,by omega,by omega,i+1,by omega,by omega,?_,aa.refl _,aa.refl _,aa.refl _,aa.refl _,trivial⟩,λb=>⟨by omega,i+1,by omega,by omega,?_,aa.refl _,aa.refl _,aa.refl _,aa.refl _,trivial⟩⟩
  ·have b: ¬ x.r i=[]:=by simpa using b
   exact EM (f:=λj=>if i=j then x.r i else bT x.r i j) (g:=bT x.r (i+1)) λj hj=>Rq ei b j
  ·have b:x.r i=[]:=by simpa using b
   exact EM λj hj=>Rp b j
 ·have a:=of_decide_eq_false a;have e:i=16:=by omega
  subst e;have h1:=hx.v;have h2:=jy x.v;have hb:=YT hx 16;have h6:(flat [bT x.r 16 0,bT x.r 16 1,bT x.r 16 2,bT x.r 16 3,bT x.r 16 4,bT x.r 16 5,bT x.r 16 6,bT x.r 16 7,bT x.r 16 8,bT x.r 16 9,bT x.r 16 10,bT x.r 16 11,bT x.r 16 12,bT x.r 16 13,bT x.r 16 14,bT x.r 16 15,aA x.v]).length<=17*2000:=by
   refine Ns (m:=2000) λy hy=> ?_;simp only[List.mem_cons,List.not_mem_nil,or_false] at hy;rcases hy with rfl | rfl | rfl | rfl | rfl | rfl | rfl | rfl | rfl | rfl | rfl | rfl | rfl | rfl | rfl | rfl | rfl
   ·exact I (hb 0 (by decide)) (by decide)
   ·exact I (hb 1 (by decide)) (by decide)
   ·exact I (hb 2 (by decide)) (by decide)
   ·exact I (hb 3 (by decide)) (by decide)
   ·exact I (hb 4 (by decide)) (by decide)
   ·exact I (hb 5 (by decide)) (by decide)
   ·exact I (hb 6 (by decide)) (by decide)
   ·exact I (hb 7 (by decide)) (by decide)
   ·exact I (hb 8 (by decide)) (by decide)
   ·exact I (hb 9 (by decide)) (by decide)
   ·exact I (hb 10 (by decide)) (by decide)
   ·exact I (hb 11 (by decide)) (by decide)
   ·exact I (hb 12 (by decide)) (by decide)
   ·exact I (hb 13 (by decide)) (by decide)
   ·exact I (hb 14 (by decide)) (by decide)
   ·exact I (hb 15 (by decide)) (by decide)
   ·omega
  have h7:=qP 192 (((flat [bT x.r 16 0,bT x.r 16 1,bT x.r 16 2,bT x.r 16 3,bT x.r 16 4,bT x.r 16 5,bT x.r 16 6,bT x.r 16 7,bT x.r 16 8,bT x.r 16 9,bT x.r 16 10,bT x.r 16 11,bT x.r 16 12,bT x.r 16 13,bT x.r 16 14,bT x.r 16 15,aA x.v]).length:Nat):Int).toNat;have e:fL x=cat (bV 192 (((flat [bT x.r 16 0,bT x.r 16 1,bT x.r 16 2,bT x.r 16 3,bT x.r 16 4,bT x.r 16 5,bT x.r 16 6,bT x.r 16 7,bT x.r 16 8,bT x.r 16 9,bT x.r 16 10,bT x.r 16 11,bT x.r 16 12,bT x.r 16 13,bT x.r 16 14,bT x.r 16 15,aA x.v]).length:Nat):Int).toNat) (flat [bT x.r 16 0,bT x.r 16 1,bT x.r 16 2,bT x.r 16 3,bT x.r 16 4,bT x.r 16 5,bT x.r 16 6,bT x.r 16 7,bT x.r 16 8,bT x.r 16 9,bT x.r 16 10,bT x.r 16 11,bT x.r 16 12,bT x.r 16 13,bT x.r 16 14,bT x.r 16 15,aA x.v]):=by rw[fL,eY,M];rfl
  generalize flat [bT x.r 16 0,bT x.r 16 1,bT x.r 16 2,bT x.r 16 3,bT x.r 16 4,bT x.r 16 5,bT x.r 16 6,bT x.r 16 7,bT x.r 16 8,bT x.r 16 9,bT x.r 16 10,bT x.r 16 11,bT x.r 16 12,bT x.r 16 13,bT x.r 16 14,bT x.r 16 15,aA x.v]=F at *;exact⟨by omega,rfl,by omega,by omega,by omega,λE=>by rw[e]⟩
theorem IT:az z 189 (aY (ff λ_=>G (True,.str q [128]))):=by refine iJ FD (n:=20) (fn:=Tryz.f189) Tryz.func189 (by kernel_rfl) (by kernel_rfl) ?_;intro args p r h hp;obtain⟨x,hx,hg⟩:=lH h;subst hx;injection hg with hg;injection hg with h1 h2;subst h1;subst h2;exact⟨IL x,rfl,aB.of_eq (MJ x _) ⟨by omega,λE=>rfl⟩⟩
theorem H8:az z 190 (aY (ff λx=>G (x.oB,.str q (jE x)))):=by refine iJ FD (n:=20) (fn:=bf) Tryz.func190 (by kernel_rfl) (by kernel_rfl) ?_;intro args p r h hp;obtain⟨x,hx,hg⟩:=lH h;subst hx;injection hg with hg;injection hg with h1 h2;subst h1;subst h2;exact⟨IL x,rfl,Bq hp⟩
theorem KM:az z 191 (aY (ff λx=>G (x.oB,.str q (qh x)))):=by refine iJ FD (n:=20) (fn:=bO) Tryz.func191 (by kernel_rfl) (by kernel_rfl) ?_;intro args p r h hp;obtain⟨x,hx,hg⟩:=lH h;subst hx;injection hg with hg;injection hg with h1 h2;subst h1;subst h2;exact⟨IL x,rfl,CY hp⟩
theorem CT:az z 192 (aY (ff λx=>G (x.oB,.str q (fL x)))):=by refine eJ (ew (n:=20) (fn:=bS) Tryz.func192 (by kernel_rfl) (by kernel_rfl) ?_);intro args p a h hp;obtain⟨⟨p0,v0⟩,hq,hpa⟩:=cx.1 h;obtain⟨x,hx,hg⟩:=lH hq;subst hx;injection hg with hg;injection hg with g1 g2;subst g1;subst g2;injection hpa with h1 h2;subst h1;subst h2;exact⟨_,Za x,IL x,rfl,xe hp⟩
noncomputable def FV:List (FuncId×PT):=(186,aY (ff λx=>G (True,.bool q (kH x))))::(189,aY (ff λ_=>G (True,.str q [128]))) ::
 (190,aY (ff λx=>G (x.oB,.str q (jE x))))::(191,aY (ff λx=>G (x.oB,.str q (qh x))))::(192,aY (ff λx=>G (x.oB,.str q (fL x))))::FU
theorem xO:bn z (λf=>aE f FV):=.cons WA (aR _) (.cons IT (aR _) (.cons H8 (aR _) (.cons KM (aR _) (.cons CT (aR _) xN))))
noncomputable def va:fJ:={cm with cG:=λf=>aE f FV}
theorem FE:Sx.Good z va:=.of bR xO bl
def W7 (s:List UInt8)(i:Nat):List SV:=[.int .i64 q 3,.str q [],.str q [],.str q (wR s i 0),.str q (wR s i 1),.str q (wR s i 2),.str q (wR s i 3),.str q (wR s i 4),.str q (wR s i 5),.str q (wR s i 6),.str q (wR s i 7),.str q (wR s i 8),.str q (wR s i 9),.str q (wR s i 10),.str q (wR s i 11),.str q (wR s i 12),.str q (wR s i 13),.str q (wR s i 14),.str q (wR s i 15)]
noncomputable def aa3 (s:List UInt8):aV :=
 {α:=Nat,pre:=λ_ i=>i<=16,kT:=λ_ i=>16 - i,fresh:=0,slots:=λ_ i=>[(9,.int .i64 q i)],
  mem:=λst i=>match slot st.tmps 4 with
   | some (.ptr k _ _)=>[(k,.cells (W7 (ah s) i) 19 138)]
   | _=>[]}
noncomputable def RQ (s:List UInt8):fJ:={cm with cG:=λf=>aE f FV,bx:=λf=>if f=200 then [(3,always (aa3 s))] else []}
theorem Zx (s:List UInt8):Sx.Good z (RQ s):=.of bR xO bl
theorem aaF (s:List UInt8):VC.holds (hJ (RQ s) 167 ag [.str q s] (Us s))=((λR0:Nat->(Nat)->SV=>((λR1:Nat->(Nat)->SV=>((λR2:Nat->(Nat)->SV=>((λR3:Nat->(Nat)->SV=>((λR4:Nat->(Nat)->SV=>((λP0:SV=>((λP1:SB=>((λP2:SV=>((λP3:SV=>((λP4:SV=>((λP5:SV=>((λP6:Nat->SV=>((λP7:Nat->SV=>((λP8:SV=>((λP9:SV=>((λP10:SV=>((λP11:Nat->SB=>((λP12:SV=>(((0:Nat)<(1152921504606846976:Nat)/\(w (s=aA [])=o->(w (au s=0)=o->af P5 P12)/\(w (au s=0)=q->(w (au s=1)=o->af P5 P9)/\(w (au s=1)=q->(w (au s=2)=o->af P5 P10)/\(w (au s=2)=q->(w (au s=3)=o->af P5 P8)/\(w (au s=3)=q->∃(u17:Nd),af P5 (SV.aN [u17.sv,SV.bool o q]))))))/\(w (s=aA [])=q->s.length<9223372036854775808/\(bM s=o->((!dj s)=o->(w (au s=0)=o->af P0 P12)/\(w (au s=0)=q->(w (au s=1)=o->af P0 P9)/\(w (au s=1)=q->(w (au s=2)=o->af P0 P10)/\(w (au s=2)=q->(w (au s=3)=o->af P0 P8)/\(w (au s=3)=q->∃(u16:Nd),af P0 (SV.aN [u16.sv,SV.bool o q]))))))/\((!dj s)=q->((!decide (aH s=[]))=o->(w (au s=0)=o->af P0 P12)/\(w (au s=0)=q->(w (au s=1)=o->af P0 P9) /\(w (au s=1)=q->(w (au s=2)=o->af P0 P10)/\(w (au s=2)=q->(w (au s=3)=o->af P0 P8)/\(w (au s=3)=q->∃(u15:Nd),af P0 (SV.aN [u15.sv,SV.bool o q]))))))/\((!decide (aH s=[]))=q->(ah s).length<1099511627776/\(dN (ah s)=o->∀(u14:Nat),bI (ah s)<=u14->(w ((↑(bI (ah s)):Int)=2)=o->((0:Int)<=(0:Int)/\0<(↑(bI (ah s)):Int))/\0<bI (ah s)/\((0:Int)<=(1:Int)/\1<(↑(bI (ah s)):Int))/\1<bI (ah s)/\(ax (ah s) 0).length<9223372036854775808/\(cP (ax (ah s) 0)=o->(ah (ax (ah s) 0)).length<1099511627776/\(fF (ah (ax (ah s) 0))=o->((!dK (ah (ax (ah s) 0)))=o->(w (au s=0)=o->af P3 P12)/\(w (au s=0)=q->(w (au s=1)=o->af P3 P9)/\(w (au s=1)=q->(w (au s=2)=o->af P3 P10)/\(w (au s=2)=q->(w (au s=3)=o->af P3 P8)/\(w (au s=3)=q ->∃(u13:Nd),af P3 (SV.aN [u13.sv,SV.bool o q]))))))/\((!dK (ah (ax (ah s) 0)))=q->(ax (ah s) 1).length<9223372036854775808/\(cP (ax (ah s) 1)=o->(w (au s=0)=o->af P2 P12)/\(w (au s=0)=q->(w (au s=1)=o->af P2 P9)/\(w (au s=1)=q->(w (au s=2)=o->af P2 P10)/\(w (au s=2)=q->(w (au s=3)=o->af P2 P8)/\(w (au s=3)=q->∃(u12:Nd),af P2 (SV.aN [u12.sv,SV.bool o q]))))))/\(cP (ax (ah s) 1)=q->(w (au s=0)=o->af P4 P12)/\(w (au s=0)=q->(w (au s=1)=o->af P4 P9)/\(w (au s=1)=q->(w (au s=2)=o->af P4 P10)/\(w (au s=2)=q->(w (au s=3)=o->af P4 P8)/\(w (au s=3)=q->∃(u11:Nd),af P4 (SV.aN [u11.sv,SV.bool o q]))))))))/\(fF (ah (ax (ah s) 0))=q->(w (au s=0)=o->af P0 P12)/\(w (au s=0)=q ->(w (au s=1)=o->af P0 P9)/\(w (au s=1)=q->(w (au s=2)=o->af P0 P10)/\(w (au s=2)=q->(w (au s=3)=o->af P0 P8)/\(w (au s=3)=q->∃(u10:Nd),af P0 (SV.aN [u10.sv,SV.bool o q])))))))/\(cP (ax (ah s) 0)=q->(w (au s=0)=o->af P0 P12)/\(w (au s=0)=q->(w (au s=1)=o->af P0 P9)/\(w (au s=1)=q->(w (au s=2)=o->af P0 P10)/\(w (au s=2)=q->(w (au s=3)=o->af P0 P8)/\(w (au s=3)=q->∃(u9:Nd),af P0 (SV.aN [u9.sv,SV.bool o q])))))))/\(w ((↑(bI (ah s)):Int)=2)=q->(w ((↑(bI (ah s)):Int)=17)=o->(∃(u8:Nat),u8<=16/\0=(u8:Int) /\aa (SB.cells (SV.int .i64 o 3::SV.str o []::SV.str o []::Kf) 19 138) (SB.cells (SV.int .i64 q 3::SV.str q []::SV.str q []::cV (λi=>R0 i u8) []) 19 138)/\aa P1 P1/\aa (P11 u14) (P11 u14)/\aa P1 P1/\True)/\∀(u7:Nat),u7<=16->(w ((u7:Int)<16)=o->(0<=(u7:Int)/\(u7:Int)<(↑(bI (ah s)):Int))/\0+(u7:Int).toNat<bI (ah s)/\(0:Nat)<(1152921504606846976:Nat)/\G (P11 u14)=G (P11 u14)/\((!decide (ax (ah s) (0+(u7:Int).toNat)=aA []))=o->(0<=(u7:Int)/\(u7:Int)<(↑(bI (ah s)):Int))/\0+(u7:Int).toNat<bI (ah s)/\(0<=(u7:Int)/\(u7:Int)<16)/\(u7:Int).toNat<16/\I6 ((u7:Int)+1) /\∃(u6:Nat),(u6<=16/\16 - u6<16 - u7)/\(u7:Int)+1=(u6:Int)/\aa (SB.cells (SV.int .i64 q 3::SV.str q []::SV.str q []::cV (λi=>R1 i u7) []) 19 138) (SB.cells (SV.int .i64 q 3::SV.str q []::SV.str q []::cV (λi=>R2 i u6) []) 19 138)/\aa P1 P1/\aa (P11 u14) (P11 u14)/\aa P1 P1/\True)/\((!decide (ax (ah s) (0+(u7:Int).toNat)=aA []))=q->I6 ((u7:Int)+1)/\∃(u5:Nat),(u5<=16/\16 - u5<16 - u7)/\(u7:Int)+1=(u5:Int) /\aa (SB.cells (SV.int .i64 q 3::SV.str q []::SV.str q []::cV (λi=>R3 i u7) []) 19 138) (SB.cells (SV.int .i64 q 3::SV.str q []::SV.str q []::cV (λi=>R4 i u5) []) 19 138)/\aa P1 P1/\aa (P11 u14) (P11 u14)/\aa P1 P1/\True))/\(w ((u7:Int)<16)=q->((0:Int)<=(16:Int)/\16<(↑(bI (ah s)):Int))/\16<bI (ah s)/\(ax (ah s) 16).length<9223372036854775808/\(cP (ax (ah s) 16)=o->(w (au s=0)=o->af (P6 u7) P12)/\(w (au s=0)=q->(w (au s=1)=o->af (P6 u7) P9)/\(w (au s=1)=q->(w (au s=2)=o->af (P6 u7) P10)/\(w (au s=2)=q->(w (au s=3)=o->af (P6 u7) P8)/\(w (au s=3)=q->∃(u4:Nd),af (P6 u7) (SV.aN [u4.sv,SV.bool o q]))))))/\(cP (ax (ah s) 16)=q ->(w (au s=0)=o->af (P7 u7) P12)/\(w (au s=0)=q->(w (au s=1)=o->af (P7 u7) P9)/\(w (au s=1)=q->(w (au s=2)=o->af (P7 u7) P10)/\(w (au s=2)=q->(w (au s=3)=o->af (P7 u7) P8)/\(w (au s=3)=q->∃(u3:Nd),af (P7 u7) (SV.aN [u3.sv,SV.bool o q]))))))))/\(w ((↑(bI (ah s)):Int)=17)=q->(w (au s=0)=o->af P0 P12)/\(w (au s=0)=q->(w (au s=1)=o->af P0 P9)/\(w (au s=1)=q->(w (au s=2)=o->af P0 P10)/\(w (au s=2)=q->(w (au s=3)=o->af P0 P8)/\(w (au s=3)=q->∃(u2:Nd),af P0 (SV.aN [u2.sv,SV.bool o q]))))))))/\(dN (ah s)=q->(w (au s=0)=o->af P0 P12)/\(w (au s=0)=q->(w (au s=1)=o->af P0 P9)/\(w (au s=1)=q->(w (au s=2)=o->af P0 P10)/\(w (au s=2)=q->(w (au s=3)=o ->af P0 P8)/\(w (au s=3)=q->∃(u1:Nd),af P0 (SV.aN [u1.sv,SV.bool o q])))))))))/\(bM s=q->(w (au s=0)=o->af P0 P12)/\(w (au s=0)=q->(w (au s=1)=o->af P0 P9)/\(w (au s=1)=q->(w (au s=2)=o->af P0 P10)/\(w (au s=2)=q->(w (au s=3)=o->af P0 P8)/\(w (au s=3)=q->∃(u0:Nd),af P0 (SV.aN [u0.sv,SV.bool o q])))))))))) (SV.aN [dw,SV.bool o o]))) (fun(u14:Nat)=>(SB.rows o (bI (ah s)) [aq.str (ax (ah s))] q u14 9)))) (SV.aN [(tE s).yx o 2,SV.bool o o]))) (SV.aN [(ni s).yx o 1,SV.bool o o]))) (SV.aN [(iB s).yx o 3,SV.bool o o]))) (fun(u7:Nat)=>(SV.aN [SV.agg (SV.int .i64 q 3::SV.str q []::SV.str o []::cV (λi=>R3 i u7) []),SV.bool o q])))) (fun(u7:Nat)=>(SV.aN [SV.agg (SV.int .i64 q 3::SV.str q []::(SV.str q (ah (ax (ah s) 16)))::cV (λi=>R3 i u7) []),SV.bool o o])))) (SV.aN [SV.agg (SV.int .i64 o 0::SV.str o []::SV.str o []::Kf),SV.bool o o]))) (SV.aN [SV.agg (SV.int .i64 o 1::SV.str q (eo (ah (ax (ah s) 0)))::SV.str o []::Kf),SV.bool o q]))) (SV.aN [SV.agg [SV.int .i64 o 2,SV.str q (eo (ah (ax (ah s) 0))),SV.str o [],aq.at 1 (aq.str (ax (ah s))),SV.str o [],SV.str o [],SV.str o [],SV.str o [],SV.str o [],SV.str o [],SV.str o [],SV.str o [],SV.str o [],SV.str o [],SV.str o [],SV.str o [],SV.str o [],SV.str o [],SV.str o []],SV.bool o o]))) (SV.aN [SV.agg (SV.int .i64 o 1::SV.str q (eo (ah (ax (ah s) 0)))::SV.str q (ah (ax (ah s) 1))::Kf),SV.bool o o]))) (SB.cells (SV.agg (SV.int .i64 o 0::SV.str o []::SV.str o []::Kf)).cells 19 138))) (SV.aN [SV.agg (SV.int .i64 o 0::SV.str o []::SV.str o []::Kf),SV.bool o q]))) (fun(n0:Nat) (u5:Nat)=>SV.str q (wR (ah s) u5 n0)))) (fun(n0:Nat) (u7:Nat)=>SV.str q (wR (ah s) u7 n0)))) (fun(n0:Nat) (u6:Nat)=>SV.str q (wR (ah s) u6 n0)))) (fun(n0:Nat) (u7:Nat)=>SV.str q (if(u7:Int).toNat=n0 then ax (ah s) (0+(u7:Int).toNat)else wR (ah s) u7 n0)))) (fun(n0:Nat) (u8:Nat)=>SV.str q (wR (ah s) u8 n0))):=by kernel_rfl
def Ra (k:Int)(A B C D E:Prop):Prop:=(w (k=0)=o->A)/\(w (k=0)=q->(w (k=1)=o->B)/\(w (k=1)=q->(w (k=2)=o->C)/\(w (k=2)=q->(w (k=3)=o->D)/\(w (k=3)=q->E))))
theorem ab2 {k:Int}{A B C D E:Prop}(h:k=0)(a:A):Ra k A B C D E:=by subst h;exact⟨λ_=>a,λh=>absurd h (by decide)⟩
theorem ab3 {k:Int}{A B C D E:Prop}(h:k=1)(a:B):Ra k A B C D E:=by subst h;exact⟨λh=>absurd h (by decide),λ_=>⟨λ_=>a,λh=>absurd h (by decide)⟩⟩
theorem ab4 {k:Int}{A B C D E:Prop}(h:k=2)(a:C):Ra k A B C D E:=by subst h;exact⟨λh=>absurd h (by decide),λ_=>⟨λh=>absurd h (by decide),λ_=>⟨λ_=>a,λh=>absurd h (by decide)⟩⟩⟩
theorem ab5 {k:Int}{A B C D E:Prop}(h:k=3)(a:D):Ra k A B C D E:=by subst h;exact⟨λh=>absurd h (by decide),λ_=>⟨λh=>absurd h (by decide),λ_=>⟨λh=>absurd h (by decide),λ_=>⟨λ_=>a,λh=>absurd h (by decide)⟩⟩⟩⟩
theorem Fw {k:Int}{A B C D E:Prop}(h:k= -1)(a:E):Ra k A B C D E:=by subst h;exact⟨λh=>absurd h (by decide),λ_=>⟨λh=>absurd h (by decide),λ_=>⟨λh=>absurd h (by decide),λ_=>⟨λh=>absurd h (by decide),λ_=>a⟩⟩⟩⟩
theorem Up {f g:Nat->List UInt8}{tot:Nat}{ty:TypeId}(h: ∀ j,j<16->f j=g j):aa (.cells [.int .i64 q 3,.str q [],.str q [],.str q (f 0),.str q (f 1),.str q (f 2),.str q (f 3),.str q (f 4),.str q (f 5),.str q (f 6),.str q (f 7),.str q (f 8),.str q (f 9),.str q (f 10),.str q (f 11),.str q (f 12),.str q (f 13),.str q (f 14),.str q (f 15)] tot ty) (.cells [.int .i64 q 3,.str q [],.str q [],.str q (g 0),.str q (g 1),.str q (g 2),.str q (g 3),.str q (g 4),.str q (g 5),.str q (g 6),.str q (g 7),.str q (g 8),.str q (g 9),.str q (g 10),.str q (g 11),.str q (g 12),.str q (g 13),.str q (g 14),.str q (g 15)] tot ty):=by rw[h 0 (by decide),h 1 (by decide),h 2 (by decide),h 3 (by decide),h 4 (by decide),h 5 (by decide),h 6 (by decide),h 7 (by decide),h 8 (by decide),h 9 (by decide),h 10 (by decide),h 11 (by decide),h 12 (by decide),h 13 (by decide),h 14 (by decide),h 15 (by decide)];exact aa.refl _
theorem Ur {t:List UInt8}{i:Nat}(h:ax t i≠[128])(j:Nat):(if i=j then ax t i else wR t i j)=wR t (i+1) j:=by
 unfold wR;by_cases e:i=j
 ·subst e;rw[if_pos rfl,if_pos (show i<i+1 by omega),cC,if_neg h]
 ·rw[if_neg e];by_cases e1:j<i
  ·rw[if_pos e1,if_pos (show j<i+1 by omega)]
  ·rw[if_neg e1,if_neg (show ¬ j<i+1 by omega)]
theorem Uq {t:List UInt8}{i:Nat}(h:ax t i=[128])(j:Nat):wR t i j=wR t (i+1) j:=by
 unfold wR;by_cases e:i=j
 ·subst e;rw[if_neg (show ¬ i<i by omega),if_pos (show i<i+1 by omega),cC,if_pos h]
 ·by_cases e1:j<i
  ·rw[if_pos e1,if_pos (show j<i+1 by omega)]
  ·rw[if_neg e1,if_neg (show ¬ j<i+1 by omega)]
attribute [local irreducible] ax bI dN ah bM aH dj cP fF dK eo
theorem Ma {s:List UInt8}(hs:s.length<1099511627776):aB (hJ (RQ s) 167 ag [.str q s] (Us s)):=by
 refine aB.of_eq (aaF s) ?_
 try dsimp only
 have hin:=Hp s;have hit:=DN (ah s);have hin2:=λk=>Hp (ax (ah s) k);refine⟨by omega,λa=>ab2 ?_ (λ_=>rfl),λa=>⟨by omega,λb=>⟨λc=>Fw ?_ ⟨e8,λ_=>rfl⟩,λc=>⟨λd=>Fw ?_ ⟨e8,λ_=>rfl⟩,λd=>⟨by omega,λe=>λcap hcap=>⟨λf=> ?_,λf=>⟨λg=> ?_,λg=>Fw ?_ ⟨e8,λ_=>rfl⟩⟩⟩,λe=>Fw ?_ ⟨e8,λ_=>rfl⟩⟩⟩⟩,λb=>Fw ?_ ⟨e8,λ_=>rfl⟩⟩⟩
 ·have a:s=[128]:=of_decide_eq_true a;rw[au,if_pos a]
 ·have a: ¬ s=[128]:=of_decide_eq_false a;have c:dj s=false:=by simpa using c
  rw[au,if_neg a,b,c];rfl
 ·have a: ¬ s=[128]:=of_decide_eq_false a;have c:dj s=true:=by simpa using c
  have d:w (aH s=[])=false:=by simpa using d
  rw[au,if_neg a,b,c,d];rfl
 ·have a: ¬ s=[128]:=of_decide_eq_false a;have c:dj s=true:=by simpa using c
  have d:w (aH s=[])=true:=by simpa using d
  have f:=of_decide_eq_true f;have f:bI (ah s)=2:=by omega
  have hk:au s=nZ (ah s):=by rw[au,if_neg a,b,c,d,qd,e,if_pos f];rfl
  have i0:=hit 0;have i1:=hit 1;have i2:=hin2 0;refine⟨by omega,by omega,by omega,by omega,by omega,λg=>⟨by omega,λh=>⟨λk=>ab4 ?_ (λ_=>rfl),λk=>⟨by omega,λl=>ab3 ?_ (λ_=>rfl),λl=>Fw ?_ ⟨⟨1,eo (ah (ax (ah s) 0)),[],bF⟩,λ_=>rfl⟩⟩⟩,λh=>Fw ?_ ⟨e8,λ_=>rfl⟩⟩,λg=>Fw ?_ ⟨e8,λ_=>rfl⟩⟩
  ·have k:dK (ah (ax (ah s) 0))=false:=by simpa using k
   rw[hk,nZ,g,h,k];rfl
  ·have k:dK (ah (ax (ah s) 0))=true:=by simpa using k
   rw[hk,nZ,g,h,k,l];rfl
  ·have k:dK (ah (ax (ah s) 0))=true:=by simpa using k
   rw[hk,nZ,g,h,k,l];rfl
  ·rw[hk,nZ,g,h];rfl
  ·rw[hk,nZ,g];rfl
 ·have a: ¬ s=[128]:=of_decide_eq_false a;have c:dj s=true:=by simpa using c
  have d:w (aH s=[])=true:=by simpa using d
  have f:=of_decide_eq_false f;have f: ¬ bI (ah s)=2:=by omega
  have g:=of_decide_eq_true g;have g:bI (ah s)=17:=by omega
  have hk:au s=bif cP (ax (ah s) 16)then 3 else -1:=by rw[au,if_neg a,b,c,d,qd,e,if_neg f,if_pos g];rfl
  have i16:=hit 16;refine⟨⟨0,by omega,rfl,Sx.aa.cells (λE=>rfl) rfl,aa.refl _,aa.refl _,aa.refl _,trivial⟩,λi hi=>⟨λh=> ?_,λh=> ?_⟩⟩
  ·have h:=of_decide_eq_true h;rw[M,Nat.zero_add];refine⟨by omega,by omega,by omega,rfl,λk=>⟨by omega,by omega,by omega,by omega,by omega,i+1,by omega,by omega,?_,aa.refl _,aa.refl _,aa.refl _,trivial⟩,λk=>⟨by omega,i+1,by omega,by omega,?_,aa.refl _,aa.refl _,aa.refl _,trivial⟩⟩
   ·have k: ¬ ax (ah s) i=[128]:=by
     have:w (ax (ah s) i=aA [])=false:=by simpa using k
     exact of_decide_eq_false this
    exact Up (f:=λj=>if i=j then ax (ah s) i else wR (ah s) i j) λj _=>Ur k j
   ·have k:ax (ah s) i=[128]:=by
     have:w (ax (ah s) i=aA [])=true:=by simpa using k
     exact of_decide_eq_true this
    exact Up λj _=>Uq k j
  ·have h:=of_decide_eq_false h;have ei:i=16:=by omega
   subst ei;refine⟨by omega,by omega,by omega,λk=>ab5 ?_ (λ_=>rfl),λk=>Fw ?_ ⟨⟨3,[],[],dx (cC (ah s))⟩,λ_=>rfl⟩⟩
   ·rw[hk,k];rfl
   ·rw[hk,k];rfl
 ·have a: ¬ s=[128]:=of_decide_eq_false a;have c:dj s=true:=by simpa using c
  have d:w (aH s=[])=true:=by simpa using d
  have f:=of_decide_eq_false f;have f: ¬ bI (ah s)=2:=by omega
  have g:=of_decide_eq_false g;have g: ¬ bI (ah s)=17:=by omega
  rw[au,if_neg a,b,c,d,qd,e,if_neg f,if_neg g];rfl
 ·have a: ¬ s=[128]:=of_decide_eq_false a;have c:dj s=true:=by simpa using c
  have d:w (aH s=[])=true:=by simpa using d
  rw[au,if_neg a,b,c,d,qd,e];rfl
 ·have a: ¬ s=[128]:=of_decide_eq_false a;rw[au,if_neg a,b];rfl
def Ca:List SV->Option (Prop×cL)
 | [.str q s]=>G (s.length<1099511627776,Us s)
 | _=>J
theorem W8:az z 167 (cH Ca):=by
 refine ew (n:=20) (fn:=ag) Tryz.func167 (by kernel_rfl) (by kernel_rfl) ?_;intro args p a h hp;unfold Ca at h;split at h
 ·rename_i s;injection h with h;injection h with h1 h2;subst h1;subst h2;refine⟨_,Zx s,rfl,λb=> ?_,Ma hp⟩;cases b with
  | true=>exact rfl
  | false =>
    intro b;cases b with
    | true=>exact rfl
    | false =>
      intro b;cases b with
      | true=>exact rfl
      | false =>
        intro b;cases b with
        | true=>exact rfl
        | false=>exact λx=>rfl
 ·cases h
end Go.Proofs.YtoibaecagklkaaaGreatDoor
namespace Go.Proofs.YtoibaecagklkaaaGreatDoor
open Go Sx
set_option maxRecDepth 20000
noncomputable def xP:List (FuncId×PT):=(167,cH Ca)::FV
theorem nU:bn z (λf=>aE f xP):=.cons W8 (b9 _) xO
def Rel (L:Nat)(t:List UInt8):Prop:=(t.length<L∨32<=t.length)/\t.length<9223372036854775808
def ZM (t:List UInt8):cL:=.fork (bJ t) λb=>match b with
 | true=>.ret (.aN [(getD t).sv,.bool o o])
 | false=>.ret (.aN [dw,.bool o q])
def k9 (L:Nat):List SV->Option (Prop×cL)
 | [.str q t]=>G (Rel L t,ZM t)
 | _=>J
noncomputable def Lt (L:Nat):List (FuncId×PT):=(155,cH (k9 L))::xP
noncomputable def RG (L:Nat):fJ:={cm with cG:=λf=>aE f (Lt L)}
noncomputable def aa0 (x:Nd):aV :=
 {α:=Nat,pre:=λ_ i=>i<=16/\jB bJ x.r i=o,kT:=λ_ i=>16 - i,fresh:=0,slots:=λ_ i=>[(7,.int .i64 q i)],
  mem:=λ_ i=>[(2,.cells [.int .i64 q (min (x.v.length:Int) 1+dn x.r i)] 1 3)]}
noncomputable def Rz (L:Nat)(x:Nd):fJ:={cm with cG:=λf=>aE f (Lt L),bx:=λf=>if f=201 then [(1,always (aa0 x))] else []}
def oC (L:Nat)(r:Nat->List UInt8):Prop:=∀ j,j<16->Rel L (r j)
noncomputable def Tu (L:Nat):List (FuncId×PT):=(187,aY (ff λx=>G (Rel L (x.r 0),.bool q (nL bJ x))))::(188,aY (ff λx=>G (oC L x.r,.bool q (dJ bJ x))))::xP
noncomputable def qA (L:Nat):fJ:={cm with cG:=λf=>aE f (Tu L)}
noncomputable def Lu (L:Nat):List (FuncId×PT):=(152,aY (ff λx=>G (oC L x.r,.bool q (aU x))))::(153,aY (ff λx=>G ((0<=x.k/\x.k<=3)/\x.oB,.str q (cR x))))::xP
noncomputable def RH (L:Nat):fJ:={cm with cG:=λf=>aE f (Lu L)}
def X1 (s:List UInt8):cL:=.fork (bg s) λb=>match b with
 | true=>.ret (.aN [(getD s).sv,.int .i64 o 0])
 | false=>.ret (.aN [dw,.int .i64 o 2])
def vl (L:Nat):List SV->Option (Prop×cL)
 | [.str q s]=>G (s.length<=L/\s.length<1099511627776,X1 s)
 | _=>J
noncomputable def XU (L:Nat):fJ:={cm with cG:=λf=>aE f ((127,cH (vl L))::xP)}
noncomputable def RM:fJ:={cm with cG:=λf=>aE f ((127,λ_ _ _ _=>.fail "not to be called")::xP)}
theorem Zt:Sx.Good z RM:=.of bR (bn.cons (λ_ _ _ _ h=>h.elim) (λ_ _ _ _ _ _ h=>h) nU) bl
theorem XH (x:Nd)(R:SV->Prop):VC.holds (eD va 153 W [x.yx o 0] R)=((True/\R (SV.str q [(128:UInt8)]))):=by kernel_rfl
theorem XI (x:Nd)(R:SV->Prop):VC.holds (eD va 153 W [x.yx o 1] R)=(({k:=(1:Int),p:=x.p,v:=x.v,r:=fun(u1:Nat)=>(cV x.r []).getD u1 []:Nd}.oB/\R (SV.str q (jE {k:=(1:Int),p:=x.p,v:=x.v,r:=fun(u0:Nat)=>(cV x.r []).getD u0 []:Nd})))):=by kernel_rfl
theorem XJ (x:Nd)(R:SV->Prop):VC.holds (eD va 153 W [x.yx o 2] R)=(({k:=(2:Int),p:=x.p,v:=x.v,r:=fun(u1:Nat)=>(cV x.r []).getD u1 []:Nd}.oB/\R (SV.str q (qh {k:=(2:Int),p:=x.p,v:=x.v,r:=fun(u0:Nat)=>(cV x.r []).getD u0 []:Nd})))):=by kernel_rfl
theorem XL (x:Nd)(R:SV->Prop):VC.holds (eD va 153 W [x.yx o 3] R)=(({k:=(3:Int),p:=x.p,v:=x.v,r:=fun(u1:Nat)=>(cV x.r []).getD u1 []:Nd}.oB/\R (SV.str q (fL {k:=(3:Int),p:=x.p,v:=x.v,r:=fun(u0:Nat)=>(cV x.r []).getD u0 []:Nd})))):=by kernel_rfl
theorem abJ (L:Nat)(x:Nd)(R:SV->Prop):VC.holds (eD (RG L) 187 Tryz.f187 [x.sv] R)=((True/\((!iq {k:=x.k,p:=x.p,v:=x.v,r:=fun(u3:Nat)=>(cV x.r []).getD u3 []:Nd} (1:Int))=o->R (SV.bool o q))/\((!iq {k:=x.k,p:=x.p,v:=x.v,r:=fun(u2:Nat)=>(cV x.r []).getD u2 []:Nd} (1:Int))=q->((!decide (x.v=[]))=o->R (SV.bool o q))/\((!decide (x.v=[]))=q->True/\((!decide (cr (fun(u1:Nat)=>(cV x.r []).getD u1 []) 16=(1:Int)))=o->R (SV.bool o q))/\((!decide (cr (fun(u0:Nat)=>(cV x.r []).getD u0 []) 16=(1:Int)))=q->(x.r 0).length<9223372036854775808/\(bw (x.r 0)=o->R (SV.bool o o))/\(bw (x.r 0)=q->Rel L (x.r 0)/\(bJ (x.r 0)=o ->R (SV.bool (q&&o) (w ((getD (x.r 0)).k=3))))/\(bJ (x.r 0)=q->R (SV.bool o q)))))))):=by kernel_rfl
theorem U6 (L:Nat)(x:Nd)(R:SV->Prop):VC.holds (eD (Rz L x) 188 Tryz.f188 [x.sv] R)=((λR0:Nat->SV=>((λP0:SB=>((λP1:SB=>((((!decide (x.p=[]))=o->R (SV.bool o q))/\((!decide (x.p=[]))=q->(w (80<(x.v.length:Int))=o->R (SV.bool o q))/\(w (80<(x.v.length:Int))=q->∀(u5:Loop),(∃(u4:Nat),(u4<=16/\jB bJ x.r u4=o)/\0=(u4:Int)/\aa (SB.cells [SV.int .i64 (q&&o) (min (x.v.length:Int) 1)] 1 3) (SB.cells [SV.int .i64 q (min (x.v.length:Int) 1+dn x.r u4)] 1 3)/\aa (SB.loop K J u5) (SB.loop K J u5)/\aa P0 P0/\aa P1 P1/\aa (SB.cells x.sv.cells 19 238) (SB.cells x.sv.cells 19 238)/\True)/\∀(u3:Nat),u3<=16/\jB bJ x.r u3=o->(w ((u3:Int)<16)=o->(0<=(u3:Int)/\(u3:Int)<16/\(u3:Int)<(↑(16:Nat):Int))/\((!decide (bP (cV x.r []) (u3:Int).toNat=[]))=o->u5=u5/\(bP (cV x.r []) (u3:Int).toNat).length<9223372036854775808 /\(bw (bP (cV x.r []) (u3:Int).toNat)=o->I6 (min (x.v.length:Int) 1+dn x.r u3+1)/\I6 ((u3:Int)+1)/\∃(u2:Nat),((u2<=16/\jB bJ x.r u2=o)/\16 - u2<16 - u3)/\(u3:Int)+1=(u2:Int)/\aa (SB.cells [SV.int .i64 q (min (x.v.length:Int) 1+dn x.r u3+1)] 1 3) (SB.cells [SV.int .i64 q (min (x.v.length:Int) 1+dn x.r u2)] 1 3)/\aa (SB.loop K J u5) (SB.loop K J u5)/\aa P0 P0/\aa P1 P1/\aa (SB.cells x.sv.cells 19 238) (SB.cells x.sv.cells 19 238)/\True)/\(bw (bP (cV x.r []) (u3:Int).toNat)=q->Rel L (bP (cV x.r []) (u3:Int).toNat) /\(bJ (bP (cV x.r []) (u3:Int).toNat)=o->I6 (min (x.v.length:Int) 1+dn x.r u3+1)/\I6 ((u3:Int)+1)/\∃(u1:Nat),((u1<=16/\jB bJ x.r u1=o)/\16 - u1<16 - u3)/\(u3:Int)+1=(u1:Int)/\aa (SB.cells [SV.int .i64 q (min (x.v.length:Int) 1+dn x.r u3+1)] 1 3) (SB.cells [SV.int .i64 q (min (x.v.length:Int) 1+dn x.r u1)] 1 3)/\aa (SB.loop K J u5) (SB.loop K J u5)/\aa P0 P0/\aa P1 P1/\aa (SB.cells x.sv.cells 19 238) (SB.cells x.sv.cells 19 238)/\True)/\(bJ (bP (cV x.r []) (u3:Int).toNat)=q->R (SV.bool o q)))) /\((!decide (bP (cV x.r []) (u3:Int).toNat=[]))=q->I6 ((u3:Int)+1)/\∃(u0:Nat),((u0<=16/\jB bJ x.r u0=o)/\16 - u0<16 - u3)/\(u3:Int)+1=(u0:Int)/\aa (SB.cells [SV.int .i64 q (min (x.v.length:Int) 1+dn x.r u3)] 1 3) (SB.cells [SV.int .i64 q (min (x.v.length:Int) 1+dn x.r u0)] 1 3)/\aa (SB.loop K J u5) (SB.loop K J u5)/\aa P0 P0/\aa P1 P1/\aa (SB.cells x.sv.cells 19 238) (SB.cells x.sv.cells 19 238)/\True))/\(w ((u3:Int)<16)=q->R (SV.bool (q&&o) (w (2<=min (x.v.length:Int) 1+dn x.r u3))))))))) (SB.cells (SV.bool o q).cells 1 4))) (SB.cells (SV.agg (SV.int .i64 q x.k::SV.str q x.p::SV.str q x.v::cV R0 [])).cells 19 238))) (fun(n0:Nat)=>SV.str q (x.r n0))):=by kernel_rfl
theorem Vp (L:Nat)(x:Nd)(R:SV->Prop):VC.holds (eD (qA L) 152 Q [x.yx o 0] R)=((True/\R (SV.bool q (qe {k:=(0:Int),p:=x.p,v:=x.v,r:=fun(u0:Nat)=>(cV x.r []).getD u0 []:Nd})))):=by kernel_rfl
theorem Vq (L:Nat)(x:Nd)(R:SV->Prop):VC.holds (eD (qA L) 152 Q [x.yx o 1] R)=((True/\R (SV.bool q (kH {k:=(1:Int),p:=x.p,v:=x.v,r:=fun(u0:Nat)=>(cV x.r []).getD u0 []:Nd})))):=by kernel_rfl
theorem Vr (L:Nat)(x:Nd)(R:SV->Prop):VC.holds (eD (qA L) 152 Q [x.yx o 2] R)=((Rel L ((cV x.r []).getD 0 [])/\R (SV.bool q (nL bJ {k:=(2:Int),p:=x.p,v:=x.v,r:=fun(u0:Nat)=>(cV x.r []).getD u0 []:Nd})))):=by kernel_rfl
theorem Vs (L:Nat)(x:Nd)(R:SV->Prop):VC.holds (eD (qA L) 152 Q [x.yx o 3] R)=(((oC L fun(u1:Nat)=>(cV x.r []).getD u1 [])/\R (SV.bool q (dJ bJ {k:=(3:Int),p:=x.p,v:=x.v,r:=fun(u0:Nat)=>(cV x.r []).getD u0 []:Nd})))):=by kernel_rfl
theorem Vt (L:Nat)(x:Nd)(R:SV->Prop):VC.holds (eD (qA L) 152 Q [x.sv] R)=(((w (x.k<0)=o->R (SV.bool o q))/\(w (x.k<0)=q->(w (3<x.k)=o->R (SV.bool o q))/\(w (3<x.k)=q->(0<=x.k/\x.k<4)/\False)))):=by kernel_rfl
theorem QJ (L:Nat)(s:List UInt8):VC.holds (hJ (RH L) 127 a_ [.str q s] (X1 s))=((λR0:Nat->SV=>((λR1:Nat->SV=>((λR2:Nat->SV=>((λP0:SV=>((λP1:SV=>((λP2:SV=>((λP3:SV=>((λP4:List UInt8=>((s.length<1099511627776/\(w (au s=0)=o->(oC L fun(u24:Nat)=>[[],[],[],[],[],[],[],[],[],[],[],[],[],[],[],[]].getD u24 [])/\((!aU {k:=(0:Int),p:=[],v:=[],r:=fun(u23:Nat)=>[[],[],[],[],[],[],[],[],[],[],[],[],[],[],[],[]].getD u23 []:Nd})=o->(bg s=o->af P0 P1)/\(bg s=q->af P0 P2))/\((!aU {k:=(0:Int),p:=[],v:=[],r:=fun(u22:Nat)=>[[],[],[],[],[],[],[],[],[],[],[],[],[],[],[],[]].getD u22 []:Nd})=q->(((0:Int)<=(0:Int)/\(0:Int)<=(3:Int))/\{k:=(0:Int),p:=[],v:=[],r:=fun(u21:Nat)=>[[],[],[],[],[],[],[],[],[],[],[],[],[],[],[],[]].getD u21 []:Nd}.oB)/\((!decide (cR {k:=(0:Int),p:=[],v:=[],r:=fun(u20:Nat)=>[[],[],[],[],[],[],[],[],[],[],[],[],[],[],[],[]].getD u20 []:Nd}=s))=o->(bg s=o->af P0 P1)/\(bg s=q->af P0 P2))/\((!decide (cR {k:=(0:Int),p:=[],v:=[],r:=fun(u19:Nat)=>[[],[],[],[],[],[],[],[],[],[],[],[],[],[],[],[]].getD u19 []:Nd}=s))=q ->(bg s=o->af P3 P1)/\(bg s=q->af P3 P2))))/\(w (au s=0)=q->(w (au s=1)=o->(oC L fun(u18:Nat)=>(cV bF []).getD u18 [])/\((!aU {k:=(1:Int),p:=eo P4,v:=ah (ax (ah s) 1),r:=fun(u17:Nat)=>(cV bF []).getD u17 []:Nd})=o->(bg s=o->af P0 P1)/\(bg s=q->af P0 P2))/\((!aU {k:=(1:Int),p:=eo P4,v:=ah (ax (ah s) 1),r:=fun(u16:Nat)=>(cV bF []).getD u16 []:Nd})=q->(((0:Int)<=(1:Int)/\(1:Int)<=(3:Int)) /\{k:=(1:Int),p:=eo P4,v:=ah (ax (ah s) 1),r:=fun(u15:Nat)=>(cV bF []).getD u15 []:Nd}.oB)/\((!decide (cR {k:=(1:Int),p:=eo P4,v:=ah (ax (ah s) 1),r:=fun(u14:Nat)=>(cV bF []).getD u14 []:Nd}=s))=o->(bg s=o->af P0 P1)/\(bg s=q->af P0 P2))/\((!decide (cR {k:=(1:Int),p:=eo P4,v:=ah (ax (ah s) 1),r:=fun(u13:Nat)=>(cV bF []).getD u13 []:Nd}=s))=q->(bg s=o ->af (SV.aN [SV.agg (SV.int .i64 o 1::(SV.str q (eo P4))::(SV.str q (ah (ax (ah s) 1)))::cV R0 []),SV.int .i64 o 0]) P1)/\(bg s=q->af (SV.aN [SV.agg (SV.int .i64 o 1::(SV.str q (eo P4))::(SV.str q (ah (ax (ah s) 1)))::cV R0 []),SV.int .i64 o 0]) P2))))/\(w (au s=1)=q->(w (au s=2)=o->(oC L fun(u12:Nat)=>(cV (bC (ax (ah s) 1)) []).getD u12 []) /\((!aU {k:=(2:Int),p:=eo P4,v:=[],r:=fun(u11:Nat)=>(cV (bC (ax (ah s) 1)) []).getD u11 []:Nd})=o->(bg s=o->af P0 P1)/\(bg s=q->af P0 P2)) /\((!aU {k:=(2:Int),p:=eo P4,v:=[],r:=fun(u10:Nat)=>(cV (bC (ax (ah s) 1)) []).getD u10 []:Nd})=q->(((0:Int)<=(2:Int)/\(2:Int)<=(3:Int)) /\{k:=(2:Int),p:=eo P4,v:=[],r:=fun(u9:Nat)=>(cV (bC (ax (ah s) 1)) []).getD u9 []:Nd}.oB) /\((!decide (cR {k:=(2:Int),p:=eo P4,v:=[],r:=fun(u8:Nat)=>(cV (bC (ax (ah s) 1)) []).getD u8 []:Nd}=s))=o->(bg s=o->af P0 P1)/\(bg s=q->af P0 P2)) /\((!decide (cR {k:=(2:Int),p:=eo P4,v:=[],r:=fun(u7:Nat)=>(cV (bC (ax (ah s) 1)) []).getD u7 []:Nd}=s))=q->(bg s=o->af (SV.aN [SV.agg (SV.int .i64 o 2::(SV.str q (eo P4))::SV.str q []::cV R1 []),SV.int .i64 o 0]) P1)/\(bg s=q->af (SV.aN [SV.agg (SV.int .i64 o 2::(SV.str q (eo P4))::SV.str q []::cV R1 []),SV.int .i64 o 0]) P2))))/\(w (au s=2)=q->(w (au s=3)=o ->(oC L fun(u6:Nat)=>(cV (dx (cC (ah s))) []).getD u6 [])/\((!aU {k:=(3:Int),p:=[],v:=ah (ax (ah s) 16),r:=fun(u5:Nat)=>(cV (dx (cC (ah s))) []).getD u5 []:Nd})=o->(bg s=o->af P0 P1)/\(bg s=q->af P0 P2)) /\((!aU {k:=(3:Int),p:=[],v:=ah (ax (ah s) 16),r:=fun(u4:Nat)=>(cV (dx (cC (ah s))) []).getD u4 []:Nd})=q->(((0:Int)<=(3:Int)/\(3:Int)<=(3:Int))/\{k:=(3:Int),p:=[],v:=ah (ax (ah s) 16),r:=fun(u3:Nat)=>(cV (dx (cC (ah s))) []).getD u3 []:Nd}.oB) /\((!decide (cR {k:=(3:Int),p:=[],v:=ah (ax (ah s) 16),r:=fun(u2:Nat)=>(cV (dx (cC (ah s))) []).getD u2 []:Nd}=s))=o->(bg s=o->af P0 P1)/\(bg s=q->af P0 P2))/\((!decide (cR {k:=(3:Int),p:=[],v:=ah (ax (ah s) 16),r:=fun(u1:Nat)=>(cV (dx (cC (ah s))) []).getD u1 []:Nd}=s))=q ->(bg s=o->af (SV.aN [SV.agg (SV.int .i64 o 3::SV.str q []::(SV.str q (ah (ax (ah s) 16)))::cV R2 []),SV.int .i64 o 0]) P1)/\(bg s=q->af (SV.aN [SV.agg (SV.int .i64 o 3::SV.str q []::(SV.str q (ah (ax (ah s) 16)))::cV R2 []),SV.int .i64 o 0]) P2))))/\(w (au s=3)=q->∀(_:Nd),(bg s=o->af P0 P1)/\(bg s=q->af P0 P2)))))))) (ah (ax (ah s) 0)))) (SV.aN [SV.agg (SV.int .i64 o 0::SV.str o []::SV.str o []::Kf),SV.int .i64 o 0]))) (SV.aN [dw,SV.int .i64 o 2]))) (SV.aN [(getD s).sv,SV.int .i64 o 0]))) (SV.aN [SV.agg (SV.int .i64 o 0::SV.str o []::SV.str o []::Kf),SV.int .i64 o 2]))) (fun(n0:Nat)=>SV.str q (dx (cC (ah s)) n0)))) (fun(n0:Nat)=>SV.str q (bC (ax (ah s) 1) n0)))) (fun(n0:Nat)=>SV.str q (bF n0))):=by kernel_rfl
theorem Va (L:Nat)(t:List UInt8):VC.holds (hJ (XU L) 155 Y [.str q t] (ZM t))=((λR0:Nat->SV=>((λP0:SV=>(((w (32<=(t.length:Int))=o->(bJ t=o->af P0 (SV.aN [(getD t).sv,SV.bool o o]))/\(bJ t=q->af P0 (SV.aN [dw,SV.bool o q])))/\(w (32<=(t.length:Int))=q->(t.length<=L/\t.length<1099511627776)/\(bg t=o->(w ((getD t).k=0)=o->(bJ t=o->af P0 (SV.aN [(getD t).sv,SV.bool o o]))/\(bJ t=q->af P0 (SV.aN [dw,SV.bool o q])))/\(w ((getD t).k=0)=q->(bJ t=o->af (SV.aN [SV.agg ((SV.int .i64 q (getD t).k)::(SV.str q (getD t).p)::(SV.str q (getD t).v)::cV R0 []),SV.bool o o]) (SV.aN [(getD t).sv,SV.bool o o]))/\(bJ t=q->af (SV.aN [SV.agg ((SV.int .i64 q (getD t).k)::(SV.str q (getD t).p)::(SV.str q (getD t).v)::cV R0 []),SV.bool o o]) (SV.aN [dw,SV.bool o q]))))/\(bg t=q->(bJ t=o->af P0 (SV.aN [(getD t).sv,SV.bool o o]))/\(bJ t=q ->af P0 (SV.aN [dw,SV.bool o q]))))))) (SV.aN [SV.agg (SV.int .i64 o 0::SV.str o []::SV.str o []::Kf),SV.bool o q]))) (fun(n0:Nat)=>SV.str q ((getD t).r n0))):=by kernel_rfl
theorem QI (t:List UInt8):VC.holds (hJ RM 155 Y [.str q t] (ZM t))=((λP0:SV=>(((w (32<=(t.length:Int))=o->(bJ t=o->af P0 (SV.aN [(getD t).sv,SV.bool o o]))/\(bJ t=q->af P0 (SV.aN [dw,SV.bool o q])))/\(w (32<=(t.length:Int))=q->False)))) (SV.aN [SV.agg (SV.int .i64 o 0::SV.str o []::SV.str o []::Kf),SV.bool o q])):=by kernel_rfl
theorem A7 (b:Int)(n:Nat):1<=(bV b n).length:=by unfold bV;split<;>simp
theorem WB {s:List UInt8}(h:bM s=o)(hl:dj s=o):(ah s).length<s.length:=by have:=congrArg ct (Hq h);rw[hl] at this;unfold mF at this;have hp:=A7 192 (ah s).length;simp only[cond_true,an] at this;omega
theorem lT {t:List UInt8}(h:bw t=o):t.length=33:=by
 obtain⟨⟨h1,h2,h3⟩,h4⟩:=qN.1 h;have:=congrArg ct (Hq h1);rw[h2,h3] at this;unfold mF aA bV at this;simp only[cond_false,List.append_nil,h4] at this;simp only[show ¬ ((32:Nat)=1/\ai (ah t) 0<128)from by omega,if_false,an,h4] at this
 simpa using this.symm
theorem S9 {n:Nat}{t:List UInt8}(h:Bd n t=o):t.length<32:=by
 cases n with
 | zero=>simp[Bd] at h
 | succ n =>simp only[Bd,O,decide_eq_true_eq] at h;exact h.1
theorem oX {t:List UInt8}(h:bJ t=o):t.length<32:=S9 h
theorem je {r:Nat->List UInt8}: ∀ {n j:Nat},cr r n<=(j:Int)->j<n->r j=[]
 | 0,_,_,h=>absurd h (P _)
 | n+1,j,h,hj=>by
   unfold cr at h;by_cases e:r n=[]
   ·rw[if_pos e] at h;by_cases ej:j=n
    ·subst ej;exact e
    ·exact je h (by omega)
   ·rw[if_neg e] at h;omega
theorem qW {inl:List UInt8->Bool}{r:Nat->List UInt8}: ∀ {n j:Nat},jB inl r n=o->j<n->r j=[]∨iR inl (r j)=o
 | 0,_,_,h=>absurd h (P _)
 | n+1,j,h,hj=>by
   simp only[jB,O,T,decide_eq_true_eq] at h;by_cases ej:j=n
   ·subst ej;exact h.2
   ·exact qW h.1 (by omega)
theorem Iv {inl:List UInt8->Bool}{r:Nat->List UInt8}: ∀ {n j:Nat},j<n->r j≠[]->iR inl (r j)=q->jB inl r n=q
 | 0,_,h,_,_=>absurd h (P _)
 | n+1,j,hj,h0,h1=>by
   simp only[jB];by_cases ej:j=n
   ·subst ej;rw[h1,show w (r j=[])=q from decide_eq_false h0];simp
   ·rw[Iv (n:=n) (by omega) h0 h1];rfl
theorem sC {t:List UInt8}(h:iR bJ t=o):t.length<=33:=by
 simp only[iR,T] at h;rcases h with h | h
 ·have:=lT h;omega
 ·have:=oX h;omega
theorem I3 {x:Nd}{l:Int}(h:iq x l=o):x.p.length<=12:=by simp only[iq,O,decide_eq_true_eq] at h;omega
theorem uq {x:Nd}(h:kH x=o):x.p.length<=12/\x.v≠[]/\x.v.length<=80/\∀ j,j<16->x.r j=[]:=by simp only[kH,O,Bool.not_eq_true',decide_eq_true_eq,decide_eq_false_iff_not] at h;obtain⟨h1,h2,h3,h4⟩:=h;exact⟨I3 h1,h2,by omega,λj hj=>je (n:=16) (by omega) hj⟩
theorem xq {x:Nd}{inl:List UInt8->Bool}(h:nL inl x=o):x.p.length<=12/\x.v=[]/\(∀ j,1<=j->j<16->x.r j=[])/\cr x.r 16=1/\(bw (x.r 0)=o∨(inl (x.r 0)=o/\(getD (x.r 0)).k=3)):=by simp only[nL,O,T,decide_eq_true_eq] at h;obtain⟨h1,h2,h3,h4⟩:=h;exact⟨I3 h1,h2,λj h1 hj=>je (n:=16) (by omega) hj,h3,h4⟩
theorem oG {x:Nd}{inl:List UInt8->Bool}(h:dJ inl x=o):x.p=[]/\x.v.length<=80/\jB inl x.r 16=o/\2<=min (x.v.length:Int) 1+dn x.r 16:=by simp only[dJ,O,decide_eq_true_eq] at h;obtain⟨h1,h2,h3,h4⟩:=h;exact⟨h1,by omega,h3,h4⟩
theorem BO {x:Nd}(h:qe x=o):x.k=0/\x.p=[]/\x.v=[]/\∀ j,j<16->x.r j=[]:=by simp only[qe,O,decide_eq_true_eq,List.all_eq_true] at h;exact⟨h.1,h.2.1,h.2.2.1,λj hj=>h.2.2.2 j (List.mem_range.2 hj)⟩
theorem rI {x:Nd}{inl:List UInt8->Bool}(h:iT inl x=o):(x.k=0/\qe x=o)∨(x.k=1/\kH x=o)∨(x.k=2/\nL inl x=o)∨(x.k=3/\dJ inl x=o):=by
 unfold iT at h;split at h
 ·exact .inl ⟨by assumption,h⟩
 ·split at h
  ·exact .inr (.inl ⟨by assumption,h⟩)
  ·split at h
   ·exact .inr (.inr (.inl ⟨by assumption,h⟩))
   ·split at h
    ·exact .inr (.inr (.inr ⟨by assumption,h⟩))
    ·cases h
structure Nd.k5 (x:Nd):Prop where
 k:0<=x.k/\x.k<=3
 p:x.p.length<=12
 v:x.v.length<=80
 r: ∀ j,j<16->x.r j=[]∨iR bJ (x.r j)=o
theorem gS {x:Nd}(h:aU x=o):x.k5:=by
 rcases rI h with ⟨hk,h⟩ | ⟨hk,h⟩ | ⟨hk,h⟩ | ⟨hk,h⟩
 ·obtain⟨_,h1,h2,h3⟩:=BO h;exact⟨by omega,by rw[h1];simp,by rw[h2];simp,λj hj=>.inl (h3 j hj)⟩
 ·obtain⟨h1,_,h2,h3⟩:=uq h;exact⟨by omega,h1,h2,λj hj=>.inl (h3 j hj)⟩
 ·obtain⟨h1,h2,h3,_,h4⟩:=xq h;refine⟨by omega,h1,by rw[h2];simp,λj hj=> ?_⟩;by_cases e:j=0
  ·subst e;refine .inr ?_;simp only[iR,T];exact h4.imp id λh=>h.1
  ·exact .inl (h3 j (by omega) hj)
 ·obtain⟨h1,h2,h3,_⟩:=oG h;exact⟨by omega,by rw[h1];simp,h2,λj hj=>qW h3 hj⟩
theorem Nd.k5.ref {x:Nd}(h:x.k5)(j:Nat)(hj:j<16):(x.r j).length<=33:=by
 rcases h.r j hj with h | h
 ·rw[h];simp
 ·exact sC h
theorem Nd.k5.few {x:Nd}(h:x.k5):x.oB:=⟨by have:=h.p;omega,by have:=h.v;omega,λj hj=>by have:=h.ref j hj;omega⟩
theorem BC {f g:List UInt8->Bool}{r:Nat->List UInt8}: ∀ {n:Nat},(∀ j,j<n->r j≠[]->f (r j)=g (r j))->jB f r n=jB g r n
 | 0,_=>rfl
 | n+1,h=>by
   simp only[jB];rw[BC λj hj=>h j (by omega)];by_cases e:r n=[]
   ·simp[e]
   ·simp only[iR,h n (by omega) e]
theorem J3 {f g:List UInt8->Bool}{x:Nd}(h: ∀ j,j<16->x.r j≠[]->f (x.r j)=g (x.r j)):iT f x=iT g x:=by
 have e3:dJ f x=dJ g x:=by simp only[dJ,BC h]
 have e2:nL f x=nL g x:=by
  by_cases e:x.r 0=[]
  ·have hb:w (cr x.r 16=1)=q∨∃ j,1<=j/\j<16/\x.r j≠[]:=by
    by_cases hb:cr x.r 16=1
    ·exfalso;have hz: ∀ n,n<=16->(∀ j,j<n->x.r j=[])->cr x.r n=0:=by
      intro n;induction n with
      | zero=>intro _ _;rfl
      | succ n ih=>intro hn hj;rw[cr,if_pos (hj n (by omega)),ih (by omega) λj hj'=>hj j (by omega)]
     have:=hz 16 (by omega) λj hj=>by
      by_cases e0:j=0
      ·subst e0;exact e
      ·exact je (n:=16) (by omega) hj
     omega
    ·exact .inl (decide_eq_false hb)
   by_cases hb:cr x.r 16=1
   ·rcases ‹_∨_› with h1 | ⟨j,h1,h2,h3⟩
    ·exact absurd hb (of_decide_eq_false h1)
    ·exact absurd (je (n:=16) (by omega) h2) h3
   ·simp only[nL,hb,decide_false,aK,ay]
  ·simp only[nL,h 0 (by decide) e]
 simp only[iT,e2,e3]
theorem Cs {s:List UInt8}(h:1<=au s):bM s=o/\dj s=o/\aH s=[]/\au s=qd (ah s):=by
 unfold au at h ⊢;split at h
 ·omega
 ·rename_i hs
  cases h1:bM s<;>cases h2:dj s<;>cases h3:w (aH s=[])<;>simp only[h1,h2,h3,S,ay,cond_false] at h<;>first
   | omega
   | exact⟨rfl,rfl,of_decide_eq_true h3,by rw[if_neg hs];rfl⟩
theorem Gr {s:List UInt8}(h:0<=au s)(j:Nat)(hj:(getD s).r j≠[]):((getD s).r j).length<s.length:=by
 by_cases h1:1<=au s
 ·obtain⟨g1,g2,_,_⟩:=Cs h1;have hl:=WB g1 g2;have hit:=DN (ah s);have key: ∀(r:Nat->List UInt8),(∀ i,i<16->(r i).length<=(ah s).length)->(dx r j).length<=(ah s).length:=by
   intro r hr;by_cases h16:j<16
   ·have:dx r j=r j:=fy r j h16;rw[this];exact hr j h16
   ·have:dx r j=[]:=by unfold dx Cc;rw[b!,cl (by simp;omega)];rfl
    rw[this];simp
  have e:((getD s).r j).length<=(ah s).length:=by
   unfold getD;split
   ·exact key bF λi hi=>by rw[show bF i=(λ_=>[]) i from fy (λ_=>[]) i hi];simp
   ·split
    ·refine key (bC (ax (ah s) 1)) λi hi=> ?_;have:bC (ax (ah s) 1) i=(λi=>if i=0 then ax (ah s) 1 else []) i:=fy (λi=>if i=0 then ax (ah s) 1 else []) i hi
     rw[this];show(if i=0 then ax (ah s) 1 else []).length<=_
     split
     ·exact hit 1
     ·simp
    ·split
     ·refine key (cC (ah s)) λi _=> ?_;unfold cC;split
      ·simp
      ·exact hit i
     ·exact key bF λi hi=>by rw[show bF i=(λ_=>[]) i from fy (λ_=>[]) i hi];simp
  omega
 ·exfalso;apply hj;have h0:au s=0:=by omega
  unfold getD;rw[if_neg (by omega),if_neg (by omega),if_neg (by omega)];show bF j=[]
  by_cases h16:j<16
  ·exact fy (λ_=>[]) j h16
  ·unfold bF Cc;rw[b!,cl (by simp;omega)];rfl
theorem A2 {f g:List UInt8->Bool}{t:List UInt8}(h: ∀ r:List UInt8,r.length<t.length->f r=g r):CZ f t=CZ g t:=by
 unfold CZ;by_cases h0:0<=au t
 ·rw[J3 (f:=f) (g:=g) λj _ hr=>h _ (Gr h0 j hr)]
 ·rw[decide_eq_false h0];rfl
theorem DM: ∀(n m:Nat) (t:List UInt8),t.length<n->t.length<m->Bd n t=Bd m t
 | 0,_,_,h,_=>absurd h (P _)
 | _,0,_,_,h=>absurd h (P _)
 | n+1,m+1,t,hn,hm=>by simp only[Bd];rw[A2 (t:=t) λr hr=>DM n m r (by omega) (by omega)]
theorem xA (t:List UInt8):bJ t=(w (t.length<32)&&(bg t&& !decide ((getD t).k=0))):=by
 by_cases h:t.length<32
 ·unfold bJ bg;rw[show Bd 32 t=(w (t.length<32)&&(CZ (Bd 31) t&& !decide ((getD t).k=0)))from rfl]
  rw[A2 (t:=t) (f:=Bd 31) (g:=bJ) λr hr=>DM 31 32 r (by omega) (by omega)]
 ·rw[decide_eq_false h,aK];exact Bool.eq_false_iff.2 λh'=>h (oX h')
theorem Ef {f:FuncId}{fn:Func}(hf:z.funcs[f]?=G fn) (hn:(fn.name== "runtime.NumGoroutine")=q) (hb:fn.body.isSome=o) {g:Nd->Option (Prop×SV)}
  (H: ∀ x p v,g x=G (p,v)->p->∃ cfg args',Sx.Good z cfg/\(∀ E,SV.vals E args'=SV.vals E [x.sv])/\SV.fH 0 args'=o/\v.wf 0=o/\aB (eD cfg f fn args' (λu=>af u v))):az z f (aY (ff g)):=by
 refine eJ (MU (n:=20) hf hn hb ?_);intro args p a h hp;obtain⟨⟨p0,v0⟩,hq,hpa⟩:=cx.1 h;obtain⟨x,hx,hg⟩:=lH hq;subst hx;injection hpa with h1 h2;subst h1;subst h2;obtain⟨cfg,args',c1,c2,c3,c4,c5⟩:=H x _ _ hg hp;exact⟨cfg,args',c1,c2,c3,c4,c5⟩
theorem Nd.oB.kind {x:Nd}(h:x.oB)(k:Int):Nd.oB {k:=k,p:=x.p,v:=x.v,r:=fun(i:Nat)=>[x.r 0,x.r 1,x.r 2,x.r 3,x.r 4,x.r 5,x.r 6,x.r 7,x.r 8,x.r 9,x.r 10,x.r 11,x.r 12,x.r 13,x.r 14,x.r 15].getD i []} :=⟨h.p,h.v,λj hj=>by show([x.r 0,x.r 1,x.r 2,x.r 3,x.r 4,x.r 5,x.r 6,x.r 7,x.r 8,x.r 9,x.r 10,x.r 11,x.r 12,x.r 13,x.r 14,x.r 15].getD j []).length<=1000;rw[fy x.r j hj];exact h.r j hj⟩
theorem kP (x:Nd){k:Int}(h:x.k=k)(E:Nat->Nat):SV.vals E [x.yx o k]=SV.vals E [x.sv]:=by subst h;rfl
theorem Th {k:Int}(h:0<=k/\k<=3):k=0∨k=1∨k=2∨k=3:=by omega
theorem PE:az z 153 (aY (ff λx=>G ((0<=x.k/\x.k<=3)/\x.oB,.str q (cR x)))):=by
 refine Ef Tryz.func153 (by kernel_rfl) (by kernel_rfl) λx p v h hp=> ?_;injection h with h;injection h with h1 h2;subst h1;subst h2;obtain⟨hk,hf⟩:=hp;rcases Th hk with e | e | e | e
 ·exact⟨va,[x.yx o 0],FE,kP x e,rfl,rfl,aB.of_eq (XH x _) ⟨trivial,λE=>by rw[cR,if_pos e]⟩⟩
 ·exact⟨va,[x.yx o 1],FE,kP x e,rfl,rfl,aB.of_eq (XI x _) ⟨hf.kind 1,λE=>by rw[cR,if_neg (by omega),if_pos e];rfl⟩⟩
 ·exact⟨va,[x.yx o 2],FE,kP x e,rfl,rfl,aB.of_eq (XJ x _) ⟨hf.kind 2,λE=>by rw[cR,if_neg (by omega),if_neg (by omega),if_pos e];rfl⟩⟩
 ·exact⟨va,[x.yx o 3],FE,kP x e,rfl,rfl,aB.of_eq (XL x _) ⟨hf.kind 3,λE=>by rw[cR,if_neg (by omega),if_neg (by omega),if_neg (by omega)];rfl⟩⟩
section
variable {L : Nat} (hI : az z 155 (cH (k9 L)))
include hI
theorem DW:bn z (λf=>aE f (Lt L)):=.cons hI (b9 _) nU
theorem Zn:Sx.Good z (RG L):=.of bR (DW hI) bl
theorem Zd (x:Nd):Sx.Good z (Rz L x):=.of bR (DW hI) bl
theorem Y2:az z 187 (aY (ff λx=>G (Rel L (x.r 0),.bool q (nL bJ x)))):=by
 refine Ef Tryz.func187 (by kernel_rfl) (by kernel_rfl) λx p v h hp=> ?_;injection h with h;injection h with h1 h2;subst h1;subst h2;refine⟨RG L,[x.sv],Zn hI,λE=>rfl,rfl,rfl,aB.of_eq (abJ L x _) ?_⟩;have e:iq {k:=x.k,p:=x.p,v:=x.v,r:=fun(i:Nat)=>[x.r 0,x.r 1,x.r 2,x.r 3,x.r 4,x.r 5,x.r 6,x.r 7,x.r 8,x.r 9,x.r 10,x.r 11,x.r 12,x.r 13,x.r 14,x.r 15].getD i []:Nd} 1=iq x 1:=rfl;rw[e,fu (fy x.r)];unfold nL;have nn: ∀ {b:Bool},(!b)=o->b=false:=λh=>by simpa using h
 have nf: ∀ {b:Bool},(!b)=q->b=true:=λh=>by simpa using h
 refine⟨trivial,λa=>cM ?_,λa=>⟨λb=>cM ?_,λb=>⟨trivial,λc=>cM ?_,λc=>⟨hp.2,λd=>cM ?_,λd=>⟨hp,λf=>cM ?_,λf=>cM ?_⟩⟩⟩⟩⟩
 ·rw[nn a];rfl
 ·rw[nf a,nn b];rfl
 ·rw[nf a,nf b,nn c];rfl
 ·rw[nf a,nf b,nf c,d];rfl
 ·rw[nf a,nf b,nf c,d,f];rfl
 ·rw[nf a,nf b,nf c,d,f];rfl
theorem OF:az z 188 (aY (ff λx=>G (oC L x.r,.bool q (dJ bJ x)))):=by
 refine Ef Tryz.func188 (by kernel_rfl) (by kernel_rfl) λx p v h hp=> ?_;injection h with h;injection h with h1 h2;subst h1;subst h2;have hp:oC L x.r:=hp;refine⟨Rz L x,[x.sv],Zd hI x,λE=>rfl,rfl,rfl,aB.of_eq (U6 L x _) ?_⟩;have nn: ∀ {b:Bool},(!b)=o->b=false:=λh=>by simpa using h
 have nf: ∀ {b:Bool},(!b)=q->b=true:=λh=>by simpa using h
 refine⟨λa=>cM ?_,λa=>⟨λb=>cM ?_,λb R=>⟨⟨0,⟨by omega,rfl⟩,rfl,AE (by simp[dn]),aa.refl _,aa.refl _,aa.refl _,aa.refl _,trivial⟩,λi hi=>⟨λc=> ?_,λc=> ?_⟩⟩⟩⟩
 ·unfold dJ;rw[nn a];rfl
 ·have b:=of_decide_eq_true b;unfold dJ;rw[nf a,decide_eq_false (show ¬ (x.v.length:Int)<=80 by omega)];rfl
 ·have c:=of_decide_eq_true c;have ei:i<16:=by omega
  rw[M,zn x.r ei];have hr:=hp i ei;have hfn:0<=dn x.r i/\dn x.r i<=i:=by
   have: ∀ n,0<=dn x.r n/\dn x.r n<=n:=by
    intro n;induction n with
    | zero=>exact⟨b_ _,b_ _⟩
    | succ n ih=>unfold dn;split<;>omega
   exact this i
  refine⟨by omega,λd=> ?_,λd=> ?_⟩
  ·have d: ¬ x.r i=[]:=of_decide_eq_false (nn d);have step:dn x.r (i+1)=dn x.r i+1:=by rw[dn,if_neg d]
   refine⟨rfl,hr.2,λf=>⟨by omega,by omega,i+1,⟨⟨by omega,?_⟩,by omega⟩,by omega,AE (by omega),aa.refl _,aa.refl _,aa.refl _,aa.refl _,trivial⟩,λf=>⟨hr,λg=>⟨by omega,by omega,i+1,⟨⟨by omega,?_⟩,by omega⟩,by omega,AE (by omega),aa.refl _,aa.refl _,aa.refl _,aa.refl _,trivial⟩,λg=>cM ?_⟩⟩
   ·simp only[jB,hi.2,iR,f,aZ,aM,S]
   ·simp only[jB,hi.2,iR,g,aM,S]
   ·have hm:jB bJ x.r 16=false:=Iv ei d (by rw[iR,f,g];rfl);unfold dJ;rw[hm];simp
  ·have d:x.r i=[]:=of_decide_eq_true (nf d);have step:dn x.r (i+1)=dn x.r i:=by rw[dn,if_pos d]
   refine⟨by omega,i+1,⟨⟨by omega,?_⟩,by omega⟩,by omega,AE (by omega),aa.refl _,aa.refl _,aa.refl _,aa.refl _,trivial⟩;simp only[jB,hi.2,d,decide_true,aZ,S]
 ·have c:=of_decide_eq_false c;have hi1:=hi.1;have e:i=16:=by omega
  subst e;have b:=of_decide_eq_false b;refine cM ?_;unfold dJ;rw[nf a,hi.2,decide_eq_true (show(x.v.length:Int)<=80 by omega)];rfl
theorem Pe:bn z (λf=>aE f (Tu L)):=.cons (Y2 hI) (aR _) (.cons (OF hI) (aR _) nU)
theorem A4:Sx.Good z (qA L):=.of bR (Pe hI) bl
theorem LL:az z 152 (aY (ff λx=>G (oC L x.r,.bool q (aU x)))):=by
 refine Ef Tryz.func152 (by kernel_rfl) (by kernel_rfl) λx p v h hp=> ?_;injection h with h;injection h with h1 h2;subst h1;subst h2;have hp:oC L x.r:=hp;by_cases hk:0<=x.k/\x.k<=3
 ·have hm:oC L (fun(i:Nat)=>[x.r 0,x.r 1,x.r 2,x.r 3,x.r 4,x.r 5,x.r 6,x.r 7,x.r 8,x.r 9,x.r 10,x.r 11,x.r 12,x.r 13,x.r 14,x.r 15].getD i []):=λj hj=>by show Rel L ([x.r 0,x.r 1,x.r 2,x.r 3,x.r 4,x.r 5,x.r 6,x.r 7,x.r 8,x.r 9,x.r 10,x.r 11,x.r 12,x.r 13,x.r 14,x.r 15].getD j []);rw[fy x.r j hj];exact hp j hj
  rcases Th hk with e | e | e | e
  ·refine⟨qA L,[x.yx o 0],A4 hI,kP x e,rfl,rfl,aB.of_eq (Vp L x _) ⟨trivial,cM ?_⟩⟩;rw[aU,iT,if_pos e];unfold qe;rw[e];congr 3
  ·refine⟨qA L,[x.yx o 1],A4 hI,kP x e,rfl,rfl,aB.of_eq (Vq L x _) ⟨trivial,cM ?_⟩⟩;rw[aU,iT,if_neg (by omega),if_pos e];unfold kH;rw[fu (fy x.r)];rfl
  ·refine⟨qA L,[x.yx o 2],A4 hI,kP x e,rfl,rfl,aB.of_eq (Vr L x _) ⟨hp 0 (by decide),cM ?_⟩⟩;rw[aU,iT,if_neg (by omega),if_neg (by omega),if_pos e];unfold nL;rw[fu (fy x.r)];rfl
  ·refine⟨qA L,[x.yx o 3],A4 hI,kP x e,rfl,rfl,aB.of_eq (Vs L x _) ⟨hm,cM ?_⟩⟩;rw[aU,iT,if_neg (by omega),if_neg (by omega),if_neg (by omega),if_pos e];unfold dJ;have e1: ∀ n,n<=16->jB bJ (fun(i:Nat)=>[x.r 0,x.r 1,x.r 2,x.r 3,x.r 4,x.r 5,x.r 6,x.r 7,x.r 8,x.r 9,x.r 10,x.r 11,x.r 12,x.r 13,x.r 14,x.r 15].getD i []) n=jB bJ x.r n/\dn (fun(i:Nat)=>[x.r 0,x.r 1,x.r 2,x.r 3,x.r 4,x.r 5,x.r 6,x.r 7,x.r 8,x.r 9,x.r 10,x.r 11,x.r 12,x.r 13,x.r 14,x.r 15].getD i []) n=dn x.r n:=by
    intro n;induction n with
    | zero=>intro _;exact⟨rfl,rfl⟩
    | succ n ih =>intro hn;obtain⟨i1,i2⟩:=ih (by omega);have g:=fy x.r n (by omega);simp only[jB,dn,i1,i2,g,and_self]
   obtain⟨i1,i2⟩:=e1 16 (by omega);rw[i1,i2]
 ·refine⟨qA L,[x.sv],A4 hI,λE=>rfl,rfl,rfl,aB.of_eq (Vt L x _) ?_⟩;have hv:aU x=false:=by rw[aU,iT,if_neg (by omega),if_neg (by omega),if_neg (by omega),if_neg (by omega)]
  rw[hv];exact⟨λ_ _=>rfl,λa=>⟨λ_ _=>rfl,λb=>absurd ⟨by have:=of_decide_eq_false a;omega,by have:=of_decide_eq_false b;omega⟩ hk⟩⟩
theorem DX:bn z (λf=>aE f (Lu L)):=.cons (LL hI) (aR _) (.cons PE (aR _) nU)
theorem Zo:Sx.Good z (RH L):=.of bR (DX hI) bl
end
end Go.Proofs.YtoibaecagklkaaaGreatDoor
namespace Go.Proofs.YtoibaecagklkaaaGreatDoor
open Go Sx
set_option maxRecDepth 20000
theorem Qn: ¬ 0<=au []:=by decide
theorem zU {L:Nat}{s:List UInt8}{X:Nd}(hX:getD s=X)(hk:0<=au s)(hr:oC L X.r){V N:SV}(hV:af V (.aN [X.sv,.int .i64 o 0]))(hN:af N (.aN [dw,.int .i64 o 2])) :
  oC L X.r/\((!aU X)=o->(bg s=o->af N (.aN [(getD s).sv,.int .i64 o 0]))/\(bg s=q->af N (.aN [dw,.int .i64 o 2]))) /\
   ((!aU X)=q->((0<=X.k/\X.k<=3)/\X.oB)/\((!decide (cR X=s))=o->(bg s=o->af N (.aN [(getD s).sv,.int .i64 o 0]))/\(bg s=q->af N (.aN [dw,.int .i64 o 2]))) /\
    ((!decide (cR X=s))=q->(bg s=o->af V (.aN [(getD s).sv,.int .i64 o 0]))/\(bg s=q->af V (.aN [dw,.int .i64 o 2])))):=by
 have hB:bg s=(aU X&&w (cR X=s)):=by unfold bg CZ;rw[hX,decide_eq_true hk];rfl
 refine⟨hr,λa=> ?_,λa=> ?_⟩
 ·have a:aU X=false:=by simpa using a
  rw[hB,a];exact⟨(λh=>by cases h),λ_=>hN⟩
 ·have a:aU X=true:=by simpa using a
  have hs:=gS a;refine⟨⟨hs.k,hs.few⟩,λb=> ?_,λb=> ?_⟩
  ·have b:w (cR X=s)=false:=by simpa using b
   rw[hB,a,b];exact⟨(λh=>by cases h),λ_=>hN⟩
  ·have b:w (cR X=s)=true:=by simpa using b
   rw[hB,a,b,hX];exact⟨λ_=>hV,λh=>by cases h⟩
attribute [local irreducible] ax ah eo bM aH cC
theorem abo:({k:=0,p:=[],v:=[],r:=fun(i:Nat)=>[[],[],[],[],[],[],[],[],[],[],[],[],[],[],[],[]].getD i []}:Nd)=e8:=rfl
theorem ZX:(fun(i:Nat)=>[[],[],[],[],[],[],[],[],[],[],[],[],[],[],[],[]].getD i [])=(e8).r:=rfl
theorem abp (s:List UInt8):({k:=1,p:=eo (ah (ax (ah s) 0)),v:=ah (ax (ah s) 1),r:=fun(i:Nat)=>[bF 0,bF 1,bF 2,bF 3,bF 4,bF 5,bF 6,bF 7,bF 8,bF 9,bF 10,bF 11,bF 12,bF 13,bF 14,bF 15].getD i []}:Nd)=ni s:=rfl
theorem ZY (s:List UInt8):(fun(i:Nat)=>[bF 0,bF 1,bF 2,bF 3,bF 4,bF 5,bF 6,bF 7,bF 8,bF 9,bF 10,bF 11,bF 12,bF 13,bF 14,bF 15].getD i [])=(ni s).r:=rfl
theorem abq (s:List UInt8):({k:=2,p:=eo (ah (ax (ah s) 0)),v:=[],r:=fun(i:Nat)=>[bC (ax (ah s) 1) 0,bC (ax (ah s) 1) 1,bC (ax (ah s) 1) 2,bC (ax (ah s) 1) 3,bC (ax (ah s) 1) 4,bC (ax (ah s) 1) 5,bC (ax (ah s) 1) 6,bC (ax (ah s) 1) 7,bC (ax (ah s) 1) 8,bC (ax (ah s) 1) 9,bC (ax (ah s) 1) 10,bC (ax (ah s) 1) 11,bC (ax (ah s) 1) 12,bC (ax (ah s) 1) 13,bC (ax (ah s) 1) 14,bC (ax (ah s) 1) 15].getD i []}:Nd)=tE s:=rfl
theorem ZZ (s:List UInt8):(fun(i:Nat)=>[bC (ax (ah s) 1) 0,bC (ax (ah s) 1) 1,bC (ax (ah s) 1) 2,bC (ax (ah s) 1) 3,bC (ax (ah s) 1) 4,bC (ax (ah s) 1) 5,bC (ax (ah s) 1) 6,bC (ax (ah s) 1) 7,bC (ax (ah s) 1) 8,bC (ax (ah s) 1) 9,bC (ax (ah s) 1) 10,bC (ax (ah s) 1) 11,bC (ax (ah s) 1) 12,bC (ax (ah s) 1) 13,bC (ax (ah s) 1) 14,bC (ax (ah s) 1) 15].getD i [])=(tE s).r:=rfl
theorem lit_3 (s:List UInt8):({k:=3,p:=[],v:=ah (ax (ah s) 16),r:=fun(i:Nat)=>[dx (cC (ah s)) 0,dx (cC (ah s)) 1,dx (cC (ah s)) 2,dx (cC (ah s)) 3,dx (cC (ah s)) 4,dx (cC (ah s)) 5,dx (cC (ah s)) 6,dx (cC (ah s)) 7,dx (cC (ah s)) 8,dx (cC (ah s)) 9,dx (cC (ah s)) 10,dx (cC (ah s)) 11,dx (cC (ah s)) 12,dx (cC (ah s)) 13,dx (cC (ah s)) 14,dx (cC (ah s)) 15].getD i []}:Nd)=iB s:=rfl
theorem Z0 (s:List UInt8):(fun(i:Nat)=>[dx (cC (ah s)) 0,dx (cC (ah s)) 1,dx (cC (ah s)) 2,dx (cC (ah s)) 3,dx (cC (ah s)) 4,dx (cC (ah s)) 5,dx (cC (ah s)) 6,dx (cC (ah s)) 7,dx (cC (ah s)) 8,dx (cC (ah s)) 9,dx (cC (ah s)) 10,dx (cC (ah s)) 11,dx (cC (ah s)) 12,dx (cC (ah s)) 13,dx (cC (ah s)) 14,dx (cC (ah s)) 15].getD i [])=(iB s).r:=rfl
theorem UM (s:List UInt8):au s<=3:=by
 have hp:nZ (ah s)<=3:=by unfold nZ;cases (cP (ax (ah s) 0)&&fF (ah (ax (ah s) 0)))<;>cases dK (ah (ax (ah s) 0))<;>cases cP (ax (ah s) 1)<;>decide
 have hl:qd (ah s)<=3:=by
  unfold qd;cases dN (ah s)with
  | false=>show(-1:Int)<=3;decide
  | true =>
    simp only[cond_true];split
    ·exact hp
    ·split
     ·cases cP (ax (ah s) 16)<;>decide
     ·decide
 unfold au;split
 ·decide
 ·cases (bM s&&(dj s&&w (aH s=[])))with
  | false=>show(-1:Int)<=3;decide
  | true=>exact hl
theorem SN {s:List UInt8}(hk: ¬ 0<=au s):bg s=false:=by unfold bg CZ;rw[decide_eq_false hk];rfl
theorem Gt {L:Nat}{s:List UInt8}(hs:s.length<=L/\s.length<1099511627776)(hk:0<=au s):oC L (getD s).r:=by
 intro j _;by_cases e:(getD s).r j=[]
 ·rw[e];have hp:0<s.length:=by
   cases s with
   | nil=>exact absurd hk Qn
   | cons a r=>simp
  exact⟨.inl (by simp;omega),by simp⟩
 ·have:=Gr hk j e;exact⟨.inl (by omega),by omega⟩
section
variable {L : Nat} (hI : az z 155 (cH (k9 L)))
include hI
theorem BN:az z 127 (cH (vl L)):=by
 refine ew (n:=20) (fn:=a_) Tryz.func127 (by kernel_rfl) (by kernel_rfl) ?_;intro args p a h hp;unfold vl at h;split at h
 ·rename_i s;injection h with h;injection h with h1 h2;subst h1;subst h2;refine⟨RH L,Zo hI,rfl,λb=>by cases b<;>exact rfl,aB.of_eq (QJ L s) ?_⟩
  have hp:s.length<=L/\s.length<1099511627776:=hp;have hN:af (SV.aN [dw,.int .i64 o 2]) (.aN [dw,.int .i64 o 2]):=λ_=>rfl;refine⟨hp.2,λa=> ?_,λa=>⟨λb=> ?_,λb=>⟨λc=> ?_,λc=>⟨λd=> ?_,λd=> ?_⟩⟩⟩⟩
  ·have a:au s=0:=of_decide_eq_true a;have hX:getD s=e8:=by unfold getD;rw[if_neg (by omega),if_neg (by omega),if_neg (by omega)]
   have hr:=Gt hp (by omega:0<=au s);rw[hX] at hr;rw[abo,ZX];exact zU (L:=L) (X:=e8) hX (by omega) hr (V:=.aN [dw,.int .i64 o 0]) (λ_=>rfl) hN
  ·have b:au s=1:=of_decide_eq_true b;have hX:getD s=ni s:=by unfold getD;rw[if_pos b]
   have hr:=Gt hp (by omega:0<=au s);rw[hX] at hr;rw[abp s,ZY s];exact zU (L:=L) (X:=ni s) hX (by omega) hr (V:=.aN [(ni s).yx o 1,.int .i64 o 0]) (λ_=>rfl) hN
  ·have c:au s=2:=of_decide_eq_true c;have hX:getD s=tE s:=by unfold getD;rw[if_neg (by omega),if_pos c]
   have hr:=Gt hp (by omega:0<=au s);rw[hX] at hr;rw[abq s,ZZ s];exact zU (L:=L) (X:=tE s) hX (by omega) hr (V:=.aN [(tE s).yx o 2,.int .i64 o 0]) (λ_=>rfl) hN
  ·have d:au s=3:=of_decide_eq_true d;have hX:getD s=iB s:=by unfold getD;rw[if_neg (by omega),if_neg (by omega),if_pos d]
   have hr:=Gt hp (by omega:0<=au s);rw[hX] at hr;rw[lit_3 s,Z0 s];exact zU (L:=L) (X:=iB s) hX (by omega) hr (V:=.aN [(iB s).yx o 3,.int .i64 o 0]) (λ_=>rfl) hN
  ·have a:=of_decide_eq_false a;have b:=of_decide_eq_false b;have c:=of_decide_eq_false c;have d:=of_decide_eq_false d;have hk: ¬ 0<=au s:=λh0=>by have:=UM s;omega
   exact λx=>⟨(λh=>by rw[SN hk] at h;cases h),λ_=>hN⟩
 ·cases h
theorem O5:az z 155 (cH (k9 (L+1))):=by
 refine ew (n:=20) (fn:=Y) bU (by kernel_rfl) (by kernel_rfl) ?_;intro args p a h hp;unfold k9 at h;split at h
 ·rename_i t;injection h with h;injection h with h1 h2;subst h1;subst h2;refine⟨XU L,.of bR (bn.cons (BN hI) (b9 _) nU) bl,rfl,λb=>by cases b<;>exact rfl,aB.of_eq (Va L t) ?_⟩
  have hp:Rel (L+1) t:=hp;have hN:af (SV.aN [dw,.bool o q]) (.aN [dw,.bool o q]):=λ_=>rfl;refine⟨λa=>⟨λb=> ?_,λ_=>hN⟩,λa=>⟨?_,λb=>⟨λc=>⟨λd=> ?_,λ_=>hN⟩,λc=>⟨λd=>λ_=>rfl,λd=> ?_⟩⟩,λb=>⟨λd=> ?_,λ_=>hN⟩⟩⟩
  ·have a:=of_decide_eq_true a;have:=oX b;omega
  ·have a:=of_decide_eq_false a;rcases hp.1 with h | h<;>omega
  ·rw[xA,c] at d;simp at d
  ·have a:=of_decide_eq_false a;rw[xA,b,c,decide_eq_true (show t.length<32 by omega)] at d;simp at d
  ·rw[xA,b] at d;simp at d
 ·cases h
end
theorem Ta:az z 155 (cH (k9 0)):=by
 refine ew (n:=20) (fn:=Y) bU (by kernel_rfl) (by kernel_rfl) ?_;intro args p a h hp;unfold k9 at h;split at h
 ·rename_i t;injection h with h;injection h with h1 h2;subst h1;subst h2;have hp:Rel 0 t:=hp;have h32:32<=t.length:=by rcases hp.1 with h | h;exact absurd h (P _);exact h
  refine⟨RM,Zt,rfl,λb=>by cases b<;>exact rfl,aB.of_eq (QI t) ?_⟩
  have hN:af (SV.aN [dw,.bool o q]) (.aN [dw,.bool o q]):=λ_=>rfl;refine⟨λa=>⟨λb=> ?_,λ_=>hN⟩,λa=> ?_⟩
  ·have:=oX b;omega
  ·have a:=of_decide_eq_false a;omega
 ·cases h
theorem oY: ∀ L,az z 155 (cH (k9 L))
 | 0=>Ta
 | L+1=>O5 (oY L)
end Go.Proofs.YtoibaecagklkaaaGreatDoor
