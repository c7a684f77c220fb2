/-
  Node: texts of nodes: the contracts.
-/
import Derived.Test.YtoibaecagklkaaaGreatDoorMl
open Bool renaming and_eq_true->O,and_false->az,and_true->S,false->o,false_and->aA,or_eq_true->T,or_true->aK,true->q,true_or->aS
open Decidable renaming decide->z
open Go.LoopState renaming ready->K
open Go.Proofs.Tryz renaming f127->a_,f152->Q,f153->W,f155->Y,f167->ag,f186->a!,f190->bl,f191->bn,f192->bx,func155->b5,prog->w
open Int renaming le_refl->b6,toNat_natCast->M
open List renaming getD_eq_getElem?_getD->b9,getElem?_eq_none->b_,length->b!,length_append->an,length_cons->Z
open Nat renaming le_trans->I,not_lt_zero->P
open Option renaming map_eq_some_iff->cl,none->J,some->G
namespace Go.Proofs.YtoibaecagklkaaaGreatDoor
open Go Sx
variable {k:Int}{s t:e_}{inl:e_->Bool}{i:Nat}{x:Nd}{A B C D E:Prop}
section
open Go Sx
set_option maxRecDepth 20000
theorem qv (b:Int)(n:Nat):(aN b n).length<=9:=by
 unfold aN;split
 ·simp
 ·have:=zz 8 n;show(UInt8.ofNat _::digits n).length<=9;rw[Z];have:(digits n).length<=8:=zz 8 n;omega
theorem ie (b:e_):(aq b).length<=b.length+9:=by
 unfold aq;split
 ·omega
 ·have:=qv 128 b.length;rw[an];omega
theorem fu {r r':Nat->e_}: ∀ {n:Nat},(∀ j,j<n->r j=r' j)->cr r n=cr r' n
 | 0,_=>rfl
 | n+1,h=>by unfold cr;rw[h n (by omega),fu (λj hj=>h j (by omega))]
theorem eE (r:Nat->e_)(j:Nat)(h:j<16):[r 0,r 1,r 2,r 3,r 4,r 5,r 6,r 7,r 8,r 9,r 10,r 11,r 12,r 13,r 14,r 15].getD j []=r j:=n9 r h
theorem Lm (x:Nd):av (cA yF 186 a! [x.sv] (λv=>aa v (.bool o (kW x)))):=by
 refine av.gV (ab8 x _) (by delta Bk Fk;exact rfl) ?_;have e:gO {k:=x.k,p:=x.p,v:=x.v,r:=fun(i:Nat)=>[x.r 0,x.r 1,x.r 2,x.r 3,x.r 4,x.r 5,x.r 6,x.r 7,x.r 8,x.r 9,x.r 10,x.r 11,x.r 12,x.r 13,x.r 14,x.r 15].getD i []:Nd} 0=gO x 0:=rfl;rw[e,fu (eE x.r)];unfold kW;refine⟨trivial,λa=>⟨λb=>⟨λc=>⟨trivial,bp ?_⟩,λc=>bp ?_⟩,λb=>bp ?_⟩,λa=>bp ?_⟩
 ·rw[a,b,c];rfl
 ·rw[a,b,c];rfl
 ·rw[a,b];rfl
 ·rw[a];rfl
def dM (g:Nd->Option (Prop×SV)):List SV->Option (Prop×SV)
 | [.agg l]=>(match F2 l with
   | some x=>g x
   | none=>J)
 | _=>J
theorem lI {g:Nd->Option (Prop×SV)}{args:List SV}{p:Prop}{v:SV}(h:dM g args=G (p,v)): ∃ x,args=[x.sv]/\g x=G (p,v):=by
 unfold dM at h;split at h
 ·split at h
  ·rename_i x hx;exact⟨x,by rw[mT hx],h⟩
  ·cases h
 ·cases h
theorem IB (x:Nd):SV.e9 0 [x.sv]=true:=rfl
theorem XZ:ax w 186 (aM (dM λx=>G (True,.bool o (kW x)))):=by refine dL Fo (n:=20) (fn:=a!) Tryz.func186 (by kernel_rfl) (by kernel_rfl) ?_;intro args p r h hp;obtain⟨x,hx,hg⟩:=lI h;subst hx;cases hg;exact⟨IB x,rfl,Lm x⟩
theorem lU {a b:e_}:(flat [a,b]).length=a.length+b.length:=by simp[flat]
theorem l9 {leaf:Bool}:(cJ x leaf).length<=x.p.length+2:=by
 unfold cJ;cases cY x.p with
 | false=>simp
 | true =>simp only[cond_true,bK,tW,Z];cases z ((x.p.length:Int)% 2=1)<;>simp only[cond_true,cond_false,Z]<;>omega
theorem AV (hx:x.jZ):av (cA yF 190 bl [x.sv] (λv=>aa v (.str o (jz x)))):=by
 refine av.of_eq (M5 x _) ?_;have h1:=hx.p;have h2:=hx.v;have h3:=l9 (x:=x) (leaf:=q);have h4:=ie (cJ x q);have h5:=ie x.v;have h6:=lU (a:=aq (cJ x q)) (b:=aq x.v);have h7:=qv 192 (((flat [aq (cJ x q),aq x.v]).length:Nat):Int).toNat;refine⟨by omega,λa=> ?_,λa=> ?_⟩
 ·have e:bK x.p q=cJ x true:=by rw[cJ,a];rfl
  rw[e];exact⟨by omega,rfl,by omega,by omega,by omega,by omega,λE=>by rw[jz,dn,M];rfl⟩
 ·have e:[]=cJ x true:=by rw[cJ,a];rfl
  rw[e];exact⟨by omega,rfl,by omega,by omega,by omega,by omega,λE=>by rw[jz,dn,M];rfl⟩
theorem Cj (hx:x.jZ):av (cA yF 191 bn [x.sv] (λv=>aa v (.str o (pY x)))):=by
 refine av.of_eq (Rn x _) ?_;have h1:=hx.p;have h2:=hx.r 0 (by decide);have h3:=l9 (x:=x) (leaf:=o);have h4:=ie (cJ x o);have h6:=lU (a:=aq (cJ x o)) (b:=x.r 0);have h7:=qv 192 (((flat [aq (cJ x o),x.r 0]).length:Nat):Int).toNat;refine⟨by omega,λa=> ?_,λa=> ?_⟩
 ·have e:bK x.p o=cJ x false:=by rw[cJ,a];rfl
  rw[e];exact⟨by omega,rfl,by omega,by omega,by omega,λE=>by rw[pY,dn,M];rfl⟩
 ·have e:[]=cJ x false:=by rw[cJ,a];rfl
  rw[e];exact⟨by omega,rfl,by omega,by omega,by omega,λE=>by rw[pY,dn,M];rfl⟩
theorem Ed {f g:Nat->e_}{tot:Nat}{ty:TypeId}(h: ∀ j,j<17->f j=g j):ah (.cells (yd f) tot ty) (.cells (yd g) tot ty):=by
 have e:yd f=yd g:=by unfold yd;rw[h 0 (by decide),h 1 (by decide),h 2 (by decide),h 3 (by decide),h 4 (by decide),h 5 (by decide),h 6 (by decide),h 7 (by decide),h 8 (by decide),h 9 (by decide),h 10 (by decide),h 11 (by decide),h 12 (by decide),h 13 (by decide),h 14 (by decide),h 15 (by decide),h 16 (by decide)]
 rw[e];exact ah.refl _
theorem Sn {r:Nat->e_}(_hi:i<16)(h:r i≠[])(j:Nat):(if i=j then r i else bX r i j)=bX r (i+1) j:=by
 unfold bX;by_cases e:i=j
 ·subst e;rw[if_pos rfl,if_pos (by omega),if_neg h]
 ·rw[if_neg e];by_cases e1:j<i
  ·rw[if_pos e1,if_pos (show j<i+1 by omega)]
  ·rw[if_neg e1,if_neg (show ¬ j<i+1 by omega)]
theorem Sm {r:Nat->e_}(h:r i=[])(j:Nat):bX r i j=bX r (i+1) j:=by
 unfold bX;by_cases e:i=j
 ·subst e;rw[if_neg (by omega),if_pos (by omega),if_pos h]
 ·by_cases e1:j<i
  ·rw[if_pos e1,if_pos (show j<i+1 by omega)]
  ·rw[if_neg e1,if_neg (show ¬ j<i+1 by omega)]
theorem Fc {l:List e_}{m:Nat}(h: ∀ x∈ l,x.length<=m):(flat l).length<=l.length*m:=by
 induction l with
 | nil=>simp[flat]
 | cons a r ih =>
   have h1:=h a (List.mem_cons_self ..);have h2:=ih λx hx=>h x (List.mem_cons_of_mem _ hx);have e:(flat (a::r)).length=a.length+(flat r).length:=by simp[flat]
   rw[e,Z,Nat.succ_mul];omega
theorem Sl (hx:x.jZ)(i j:Nat)(h:j<16):(bX x.r i j).length<=1000:=by
 have:=hx.r j h;unfold bX;split
 ·split
  ·simp
  ·exact this
 ·simp
theorem wN (hx:x.jZ):av (cA (SD x) 192 bx [x.sv] (λv=>aa v (.str o (fD x)))):=by
 refine av.gV (GO x _) (by delta Bk Fk;exact rfl) ?_;dsimp only;refine⟨by omega,rfl,by omega,rfl,by omega,rfl,by omega,rfl,by omega,rfl,by omega,rfl,by omega,rfl,by omega,rfl,by omega,rfl,by omega,rfl,by omega,rfl,by omega,rfl,by omega,rfl,by omega,rfl,by omega,rfl,by omega,rfl,by omega,rfl,λR=>⟨⟨0,by omega,rfl,Sx.ah.cells (λE=>rfl) rfl,ah.refl _,ah.refl _,ah.refl _,ah.refl _,trivial⟩,λi hi=>⟨λa=> ?_,λa=> ?_⟩⟩⟩
 ·have a:=of_decide_eq_true a;have ei:i<16:=by omega
  have es:=n9 x.r ei;rw[M,es];refine⟨by omega,λb=>⟨rfl,by omega,by omega,by omega,i+1,by omega,by omega,?_,ah.refl _,ah.refl _,ah.refl _,ah.refl _,trivial⟩,λb=>⟨by omega,i+1,by omega,by omega,?_,ah.refl _,ah.refl _,ah.refl _,ah.refl _,trivial⟩⟩
  ·have b: ¬ x.r i=[]:=by simpa using b
   exact Ed (f:=λj=>if i=j then x.r i else bX x.r i j) (g:=bX x.r (i+1)) λj hj=>Sn ei b j
  ·have b:x.r i=[]:=by simpa using b
   exact Ed λj hj=>Sm b j
 ·have a:=of_decide_eq_false a;have e:i=16:=by omega
  subst e;have h1:=hx.v;have h2:=ie x.v;have hb:=Sl hx 16;have h6:(flat [bX x.r 16 0,bX x.r 16 1,bX x.r 16 2,bX x.r 16 3,bX x.r 16 4,bX x.r 16 5,bX x.r 16 6,bX x.r 16 7,bX x.r 16 8,bX x.r 16 9,bX x.r 16 10,bX x.r 16 11,bX x.r 16 12,bX x.r 16 13,bX x.r 16 14,bX x.r 16 15,aq x.v]).length<=17*2000:=by
   refine Fc (m:=2000) λy hy=> ?_;simp only[List.mem_cons,List.not_mem_nil,or_false] at hy;rcases hy with rfl | rfl | rfl | rfl | rfl | rfl | rfl | rfl | rfl | rfl | rfl | rfl | rfl | rfl | rfl | rfl | rfl
   ·exact I (hb 0 (by decide)) (by decide)
   ·exact I (hb 1 (by decide)) (by decide)
   ·exact I (hb 2 (by decide)) (by decide)
   ·exact I (hb 3 (by decide)) (by decide)
   ·exact I (hb 4 (by decide)) (by decide)
   ·exact I (hb 5 (by decide)) (by decide)
   ·exact I (hb 6 (by decide)) (by decide)
   ·exact I (hb 7 (by decide)) (by decide)
   ·exact I (hb 8 (by decide)) (by decide)
   ·exact I (hb 9 (by decide)) (by decide)
   ·exact I (hb 10 (by decide)) (by decide)
   ·exact I (hb 11 (by decide)) (by decide)
   ·exact I (hb 12 (by decide)) (by decide)
   ·exact I (hb 13 (by decide)) (by decide)
   ·exact I (hb 14 (by decide)) (by decide)
   ·exact I (hb 15 (by decide)) (by decide)
   ·omega
  have h7:=qv 192 (((flat [bX x.r 16 0,bX x.r 16 1,bX x.r 16 2,bX x.r 16 3,bX x.r 16 4,bX x.r 16 5,bX x.r 16 6,bX x.r 16 7,bX x.r 16 8,bX x.r 16 9,bX x.r 16 10,bX x.r 16 11,bX x.r 16 12,bX x.r 16 13,bX x.r 16 14,bX x.r 16 15,aq x.v]).length:Nat):Int).toNat;have e:fD x=cat (aN 192 (((flat [bX x.r 16 0,bX x.r 16 1,bX x.r 16 2,bX x.r 16 3,bX x.r 16 4,bX x.r 16 5,bX x.r 16 6,bX x.r 16 7,bX x.r 16 8,bX x.r 16 9,bX x.r 16 10,bX x.r 16 11,bX x.r 16 12,bX x.r 16 13,bX x.r 16 14,bX x.r 16 15,aq x.v]).length:Nat):Int).toNat) (flat [bX x.r 16 0,bX x.r 16 1,bX x.r 16 2,bX x.r 16 3,bX x.r 16 4,bX x.r 16 5,bX x.r 16 6,bX x.r 16 7,bX x.r 16 8,bX x.r 16 9,bX x.r 16 10,bX x.r 16 11,bX x.r 16 12,bX x.r 16 13,bX x.r 16 14,bX x.r 16 15,aq x.v]):=by rw[fD,dn,M];rfl
  generalize flat [bX x.r 16 0,bX x.r 16 1,bX x.r 16 2,bX x.r 16 3,bX x.r 16 4,bX x.r 16 5,bX x.r 16 6,bX x.r 16 7,bX x.r 16 8,bX x.r 16 9,bX x.r 16 10,bX x.r 16 11,bX x.r 16 12,bX x.r 16 13,bX x.r 16 14,bX x.r 16 15,aq x.v]=F at *;exact⟨by omega,rfl,by omega,by omega,by omega,λE=>by rw[e]⟩
theorem IG:ax w 189 (aM (dM λ_=>G (True,.str o [128]))):=by refine dL Fo (n:=20) (fn:=Tryz.f189) Tryz.func189 (by kernel_rfl) (by kernel_rfl) ?_;intro args p r h hp;obtain⟨x,hx,hg⟩:=lI h;subst hx;cases hg;exact⟨IB x,rfl,av.of_eq (M6 x _) ⟨by omega,λE=>rfl⟩⟩
theorem H6:ax w 190 (aM (dM λx=>G (x.jZ,.str o (jz x)))):=by refine dL Fo (n:=20) (fn:=bl) Tryz.func190 (by kernel_rfl) (by kernel_rfl) ?_;intro args p r h hp;obtain⟨x,hx,hg⟩:=lI h;subst hx;cases hg;exact⟨IB x,rfl,AV hp⟩
theorem KO:ax w 191 (aM (dM λx=>G (x.jZ,.str o (pY x)))):=by refine dL Fo (n:=20) (fn:=bn) Tryz.func191 (by kernel_rfl) (by kernel_rfl) ?_;intro args p r h hp;obtain⟨x,hx,hg⟩:=lI h;subst hx;cases hg;exact⟨IB x,rfl,Cj hp⟩
theorem Cf:ax w 192 (aM (dM λx=>G (x.jZ,.str o (fD x)))):=by refine cM (cn (n:=20) (fn:=bx) Tryz.func192 (by kernel_rfl) (by kernel_rfl) ?_);intro args p a h hp;obtain⟨⟨p0,v0⟩,hq,hpa⟩:=cl.1 h;obtain⟨x,hx,hg⟩:=lI hq;subst hx;cases hg;injection hpa with h1 h2;subst h1;subst h2;exact⟨_,aaD x,IB x,rfl,wN hp⟩
noncomputable def FO:List (FuncId×PT):=(186,aM (dM λx=>G (True,.bool o (kW x))))::(189,aM (dM λ_=>G (True,.str o [128]))) ::
 (190,aM (dM λx=>G (x.jZ,.str o (jz x))))::(191,aM (dM λx=>G (x.jZ,.str o (pY x))))::(192,aM (dM λx=>G (x.jZ,.str o (fD x))))::FN
theorem xB:aQ w (λf=>ay f FO):=.cons XZ (aG _) (.cons IG (aG _) (.cons H6 (aG _) (.cons KO (aG _) (.cons Cf (aG _) xA))))
noncomputable def uP:dK:={bE with cm:=λf=>ay f FO}
theorem Fp:Sx.Good w uP:=.of bz xB aU
def Oh (s:e_)(i:Nat):List SV:=[.int .i64 o 3,.str o [],.str o [],.str o (fO s i 0),.str o (fO s i 1),.str o (fO s i 2),.str o (fO s i 3),.str o (fO s i 4),.str o (fO s i 5),.str o (fO s i 6),.str o (fO s i 7),.str o (fO s i 8),.str o (fO s i 9),.str o (fO s i 10),.str o (fO s i 11),.str o (fO s i 12),.str o (fO s i 13),.str o (fO s i 14),.str o (fO s i 15)]
noncomputable def acL (s:e_):aX :=
 {α:=Nat,pre:=λ_ i=>i<=16,jx:=λ_ i=>16 - i,fresh:=0,slots:=λ_ i=>[(9,.int .i64 o i)],
  mem:=λst i=>match slot st.tmps 4 with
   | some (.ptr k _ _)=>[(k,.cells (Oh (af s) i) 19 138)]
   | _=>[]}
noncomputable def S5 (s:e_):dK:={bE with cm:=λf=>ay f FO,bh:=λf=>if f=200 then [(3,always (acL s))] else []}
theorem aa4 (s:e_):Sx.Good w (S5 s):=.of bz xB aU
theorem acu (s:e_):VC.holds (dB (S5 s) 167 ag [.str o s] (Vm s))=((λx:Nat->(Nat)->SV=>((λy:Nat->(Nat)->SV=>((λz:Nat->(Nat)->SV=>((λw:Nat->(Nat)->SV=>((λA:Nat->(Nat)->SV=>((λb:SV=>((λg:SB=>((λm:SV=>((λn:SV=>((λp:SV=>((λr:SV=>((λt:Nat->SV=>((λu:Nat->SV=>((λc:SV=>((λd:SV=>((λe:SV=>((λj:Nat->SB=>((λf:SV=>(((0:Nat)<(1152921504606846976:Nat)/\Fk (s=aq []) (Fk (aH s=0) (aa r f) (Fk (aH s=1) (aa r d) (Fk (aH s=2) (aa r e) (Fk (aH s=3) (aa r c) (∃(B:Nd),aa r (SV.aD [B.sv,SV.bool q o])))))) (s.length<9223372036854775808/\Bk (bO s) (Bk (!cy s) (Fk (aH s=0) (aa b f) (Fk (aH s=1) (aa b d) (Fk (aH s=2) (aa b e) (Fk (aH s=3) (aa b c) (∃(C:Nd),aa b (SV.aD [C.sv,SV.bool q o])))))) (Bk (!decide (aF s=[])) (Fk (aH s=0) (aa b f) (Fk (aH s=1) (aa b d) (Fk (aH s=2) (aa b e) (Fk (aH s=3) (aa b c) (∃(D:Nd),aa b (SV.aD [D.sv,SV.bool q o])))))) ((af s).length<1099511627776/\Bk (cS (af s)) (∀(h:Nat),au (af s)<=h->Fk ((↑(au (af s)):Int)=2) (((0:Int)<=(0:Int)/\0<(↑(au (af s)):Int))/\0<au (af s)/\((0:Int)<=(1:Int)/\1<(↑(au (af s)):Int))/\1<au (af s)/\(aj (af s) 0).length<9223372036854775808/\Bk (dh (aj (af s) 0)) ((af (aj (af s) 0)).length<1099511627776/\Bk (bI (af (aj (af s) 0))) (Bk (!cD (af (aj (af s) 0))) (Fk (aH s=0) (aa n f) (Fk (aH s=1) (aa n d) (Fk (aH s=2) (aa n e) (Fk (aH s=3) (aa n c) (∃(E:Nd),aa n (SV.aD [E.sv,SV.bool q o])))))) ((aj (af s) 1).length<9223372036854775808/\Bk (dh (aj (af s) 1)) (Fk (aH s=0) (aa m f) (Fk (aH s=1) (aa m d) (Fk (aH s=2) (aa m e) (Fk (aH s=3) (aa m c) (∃(F:Nd),aa m (SV.aD [F.sv,SV.bool q o])))))) (Fk (aH s=0) (aa p f) (Fk (aH s=1) (aa p d) (Fk (aH s=2) (aa p e) (Fk (aH s=3) (aa p c) (∃(H:Nd),aa p (SV.aD [H.sv,SV.bool q o])))))))) (Fk (aH s=0) (aa b f) (Fk (aH s=1) (aa b d) (Fk (aH s=2) (aa b e) (Fk (aH s=3) (aa b c) (∃(I:Nd),aa b (SV.aD [I.sv,SV.bool q o]))))))) (Fk (aH s=0) (aa b f) (Fk (aH s=1) (aa b d) (Fk (aH s=2) (aa b e) (Fk (aH s=3) (aa b c) (∃(J:Nd),aa b (SV.aD [J.sv,SV.bool q o]))))))) (Fk ((↑(au (af s)):Int)=17) ((∃(v:Nat),v<=16/\0=(v:Int) /\ah (SB.cells (SV.int .i64 q 3::SV.str q []::SV.str q []::wD) 19 138) (SB.cells (SV.int .i64 o 3::SV.str o []::SV.str o []::bG (λi=>x i v) []) 19 138)/\ah g g/\ah (j h) (j h)/\ah g g/\True)/\∀(a:Nat),a<=16->Fk ((a:Int)<16) ((0<=(a:Int)/\(a:Int)<(↑(au (af s)):Int))/\0+(a:Int).toNat<au (af s)/\(0:Nat)<(1152921504606846976:Nat)/\G (j h)=G (j h)/\Bk (!decide (aj (af s) (0+(a:Int).toNat)=aq [])) ((0<=(a:Int)/\(a:Int)<(↑(au (af s)):Int))/\0+(a:Int).toNat<au (af s)/\(0<=(a:Int)/\(a:Int)<16)/\(a:Int).toNat<16/\I6 ((a:Int)+1) /\∃(k:Nat),(k<=16/\16 - k<16 - a)/\(a:Int)+1=(k:Int)/\ah (SB.cells (SV.int .i64 o 3::SV.str o []::SV.str o []::bG (λi=>y i a) []) 19 138) (SB.cells (SV.int .i64 o 3::SV.str o []::SV.str o []::bG (λi=>z i k) []) 19 138)/\ah g g/\ah (j h) (j h)/\ah g g/\True) (I6 ((a:Int)+1)/\∃(l:Nat),(l<=16/\16 - l<16 - a)/\(a:Int)+1=(l:Int) /\ah (SB.cells (SV.int .i64 o 3::SV.str o []::SV.str o []::bG (λi=>w i a) []) 19 138) (SB.cells (SV.int .i64 o 3::SV.str o []::SV.str o []::bG (λi=>A i l) []) 19 138)/\ah g g/\ah (j h) (j h)/\ah g g/\True)) (((0:Int)<=(16:Int)/\16<(↑(au (af s)):Int))/\16<au (af s)/\(aj (af s) 16).length<9223372036854775808/\Bk (dh (aj (af s) 16)) (Fk (aH s=0) (aa (t a) f) (Fk (aH s=1) (aa (t a) d) (Fk (aH s=2) (aa (t a) e) (Fk (aH s=3) (aa (t a) c) (∃(K:Nd),aa (t a) (SV.aD [K.sv,SV.bool q o])))))) (Fk (aH s=0) (aa (u a) f) (Fk (aH s=1) (aa (u a) d) (Fk (aH s=2) (aa (u a) e) (Fk (aH s=3) (aa (u a) c) (∃(L:Nd),aa (u a) (SV.aD [L.sv,SV.bool q o])))))))) (Fk (aH s=0) (aa b f) (Fk (aH s=1) (aa b d) (Fk (aH s=2) (aa b e) (Fk (aH s=3) (aa b c) (∃(u2:Nd),aa b (SV.aD [u2.sv,SV.bool q o])))))))) (Fk (aH s=0) (aa b f) (Fk (aH s=1) (aa b d) (Fk (aH s=2) (aa b e) (Fk (aH s=3) (aa b c) (∃(M:Nd),aa b (SV.aD [M.sv,SV.bool q o]))))))))) (Fk (aH s=0) (aa b f) (Fk (aH s=1) (aa b d) (Fk (aH s=2) (aa b e) (Fk (aH s=3) (aa b c) (∃(N:Nd),aa b (SV.aD [N.sv,SV.bool q o])))))))))) (SV.aD [cK,SV.bool q q]))) (fun(h:Nat)=>(SB.rows q (au (af s)) [aE.str (aj (af s))] o h 9)))) (SV.aD [(qR s).wC q 2,SV.bool q q]))) (SV.aD [(mg s).wC q 1,SV.bool q q]))) (SV.aD [(gP s).wC q 3,SV.bool q q]))) (fun(a:Nat)=>(SV.aD [SV.agg (SV.int .i64 o 3::SV.str o []::SV.str q []::bG (λi=>w i a) []),SV.bool q o])))) (fun(a:Nat)=>(SV.aD [SV.agg (SV.int .i64 o 3::SV.str o []::(SV.str o (af (aj (af s) 16)))::bG (λi=>w i a) []),SV.bool q q])))) (SV.aD [SV.agg (SV.int .i64 q 0::SV.str q []::SV.str q []::wD),SV.bool q q]))) (SV.aD [SV.agg (SV.int .i64 q 1::SV.str o (bT (af (aj (af s) 0)))::SV.str q []::wD),SV.bool q o]))) (SV.aD [SV.agg (SV.int .i64 q 2::(SV.str o (bT (af (aj (af s) 0))))::SV.str q []::(aE.at 1 (aE.str (aj (af s))))::Nk (λ_=>SV.str q []) []),SV.bool q q]))) (SV.aD [SV.agg (SV.int .i64 q 1::SV.str o (bT (af (aj (af s) 0)))::SV.str o (af (aj (af s) 1))::wD),SV.bool q q]))) (SB.cells (SV.agg (SV.int .i64 q 0::SV.str q []::SV.str q []::wD)).cells 19 138))) (SV.aD [SV.agg (SV.int .i64 q 0::SV.str q []::SV.str q []::wD),SV.bool q o]))) (fun(n0:Nat) (l:Nat)=>SV.str o (fO (af s) l n0)))) (fun(n0:Nat) (a:Nat)=>SV.str o (fO (af s) a n0)))) (fun(n0:Nat) (k:Nat)=>SV.str o (fO (af s) k n0)))) (fun(n0:Nat) (a:Nat)=>SV.str o (if(a:Int).toNat=n0 then aj (af s) (0+(a:Int).toNat)else fO (af s) a n0)))) (fun(n0:Nat) (v:Nat)=>SV.str o (fO (af s) v n0))):=by kernel_rfl
def RM (k:Int)(A B C D E:Prop):Prop:=(z (k=0)=q->A)/\(z (k=0)=o->(z (k=1)=q->B)/\(z (k=1)=o->(z (k=2)=q->C)/\(z (k=2)=o->(z (k=3)=q->D)/\(z (k=3)=o->E))))
theorem adL (h:k=0)(a:A):RM k A B C D E:=by subst h;exact⟨λ_=>a,λh=>absurd h (by decide)⟩
theorem adM (h:k=1)(a:B):RM k A B C D E:=by subst h;exact⟨λh=>absurd h (by decide),λ_=>⟨λ_=>a,λh=>absurd h (by decide)⟩⟩
theorem adN (h:k=2)(a:C):RM k A B C D E:=by subst h;exact⟨λh=>absurd h (by decide),λ_=>⟨λh=>absurd h (by decide),λ_=>⟨λ_=>a,λh=>absurd h (by decide)⟩⟩⟩
theorem adO (h:k=3)(a:D):RM k A B C D E:=by subst h;exact⟨λh=>absurd h (by decide),λ_=>⟨λh=>absurd h (by decide),λ_=>⟨λh=>absurd h (by decide),λ_=>⟨λ_=>a,λh=>absurd h (by decide)⟩⟩⟩⟩
theorem Fb (h:k= -1)(a:E):RM k A B C D E:=by subst h;exact⟨λh=>absurd h (by decide),λ_=>⟨λh=>absurd h (by decide),λ_=>⟨λh=>absurd h (by decide),λ_=>⟨λh=>absurd h (by decide),λ_=>a⟩⟩⟩⟩
theorem Gk {f g:Nat->e_}{tot:Nat}{ty:TypeId}(h: ∀ j,j<16->f j=g j):ah (.cells [.int .i64 o 3,.str o [],.str o [],.str o (f 0),.str o (f 1),.str o (f 2),.str o (f 3),.str o (f 4),.str o (f 5),.str o (f 6),.str o (f 7),.str o (f 8),.str o (f 9),.str o (f 10),.str o (f 11),.str o (f 12),.str o (f 13),.str o (f 14),.str o (f 15)] tot ty) (.cells [.int .i64 o 3,.str o [],.str o [],.str o (g 0),.str o (g 1),.str o (g 2),.str o (g 3),.str o (g 4),.str o (g 5),.str o (g 6),.str o (g 7),.str o (g 8),.str o (g 9),.str o (g 10),.str o (g 11),.str o (g 12),.str o (g 13),.str o (g 14),.str o (g 15)] tot ty):=by rw[h 0 (by decide),h 1 (by decide),h 2 (by decide),h 3 (by decide),h 4 (by decide),h 5 (by decide),h 6 (by decide),h 7 (by decide),h 8 (by decide),h 9 (by decide),h 10 (by decide),h 11 (by decide),h 12 (by decide),h 13 (by decide),h 14 (by decide),h 15 (by decide)];exact ah.refl _
theorem Jc (h:aj t i≠[128])(j:Nat):(if i=j then aj t i else fO t i j)=fO t (i+1) j:=by
 unfold fO;by_cases e:i=j
 ·subst e;rw[if_pos rfl,if_pos (show i<i+1 by omega),cF,if_neg h]
 ·rw[if_neg e];by_cases e1:j<i
  ·rw[if_pos e1,if_pos (show j<i+1 by omega)]
  ·rw[if_neg e1,if_neg (show ¬ j<i+1 by omega)]
theorem Jb (h:aj t i=[128])(j:Nat):fO t i j=fO t (i+1) j:=by
 unfold fO;by_cases e:i=j
 ·subst e;rw[if_neg (show ¬ i<i by omega),if_pos (show i<i+1 by omega),cF,if_pos h]
 ·by_cases e1:j<i
  ·rw[if_pos e1,if_pos (show j<i+1 by omega)]
  ·rw[if_neg e1,if_neg (show ¬ j<i+1 by omega)]
attribute [local irreducible] aj au cS af bO aF cy dh bI cD bT
theorem Mv (hs:s.length<1099511627776):av (dB (S5 s) 167 ag [.str o s] (Vm s)):=by
 refine av.gV (acu s) (by delta Bk Fk;exact rfl) ?_
 try dsimp only
 have hin:=j7 s;have hit:=nN (af s);have hin2:=λk=>j7 (aj (af s) k);refine⟨by omega,λa=>adL ?_ (λ_=>rfl),λa=>⟨by omega,λb=>⟨λc=>Fb ?_ ⟨eZ,λ_=>rfl⟩,λc=>⟨λd=>Fb ?_ ⟨eZ,λ_=>rfl⟩,λd=>⟨by omega,λe=>λcap hcap=>⟨λf=> ?_,λf=>⟨λg=> ?_,λg=>Fb ?_ ⟨eZ,λ_=>rfl⟩⟩⟩,λe=>Fb ?_ ⟨eZ,λ_=>rfl⟩⟩⟩⟩,λb=>Fb ?_ ⟨eZ,λ_=>rfl⟩⟩⟩
 ·have a:s=[128]:=of_decide_eq_true a;rw[aH,if_pos a]
 ·have a: ¬ s=[128]:=of_decide_eq_false a;have c:cy s=false:=by simpa using c
  rw[aH,if_neg a,b,c];rfl
 ·have a: ¬ s=[128]:=of_decide_eq_false a;have c:cy s=true:=by simpa using c
  have d:z (aF s=[])=false:=by simpa using d
  rw[aH,if_neg a,b,c,d];rfl
 ·have a: ¬ s=[128]:=of_decide_eq_false a;have c:cy s=true:=by simpa using c
  have d:z (aF s=[])=true:=by simpa using d
  have f:=of_decide_eq_true f;have f:au (af s)=2:=by omega
  have hk:aH s=mW (af s):=by rw[aH,if_neg a,b,c,d,kX,e,if_pos f];rfl
  have i0:=hit 0;have i1:=hit 1;have i2:=hin2 0;refine⟨by omega,by omega,by omega,by omega,by omega,λg=>⟨by omega,λh=>⟨λk=>adN ?_ (λ_=>rfl),λk=>⟨by omega,λl=>adM ?_ (λ_=>rfl),λl=>Fb ?_ ⟨⟨1,bT (af (aj (af s) 0)),[],cc⟩,λ_=>rfl⟩⟩⟩,λh=>Fb ?_ ⟨eZ,λ_=>rfl⟩⟩,λg=>Fb ?_ ⟨eZ,λ_=>rfl⟩⟩
  ·have k:cD (af (aj (af s) 0))=false:=by simpa using k
   rw[hk,mW,g,h,k];rfl
  ·have k:cD (af (aj (af s) 0))=true:=by simpa using k
   rw[hk,mW,g,h,k,l];rfl
  ·have k:cD (af (aj (af s) 0))=true:=by simpa using k
   rw[hk,mW,g,h,k,l];rfl
  ·rw[hk,mW,g,h];rfl
  ·rw[hk,mW,g];rfl
 ·have a: ¬ s=[128]:=of_decide_eq_false a;have c:cy s=true:=by simpa using c
  have d:z (aF s=[])=true:=by simpa using d
  have f:=of_decide_eq_false f;have f: ¬ au (af s)=2:=by omega
  have g:=of_decide_eq_true g;have g:au (af s)=17:=by omega
  have hk:aH s=bif dh (aj (af s) 16)then 3 else -1:=by rw[aH,if_neg a,b,c,d,kX,e,if_neg f,if_pos g];rfl
  have i16:=hit 16;refine⟨⟨0,by omega,rfl,Sx.ah.cells (λE=>rfl) rfl,ah.refl _,ah.refl _,ah.refl _,trivial⟩,λi hi=>⟨λh=> ?_,λh=> ?_⟩⟩
  ·have h:=of_decide_eq_true h;rw[M,Nat.zero_add];refine⟨by omega,by omega,by omega,rfl,λk=>⟨by omega,by omega,by omega,by omega,by omega,i+1,by omega,by omega,?_,ah.refl _,ah.refl _,ah.refl _,trivial⟩,λk=>⟨by omega,i+1,by omega,by omega,?_,ah.refl _,ah.refl _,ah.refl _,trivial⟩⟩
   ·have k: ¬ aj (af s) i=[128]:=by
     have:z (aj (af s) i=aq [])=false:=by simpa using k
     exact of_decide_eq_false this
    exact Gk (f:=λj=>if i=j then aj (af s) i else fO (af s) i j) λj _=>Jc k j
   ·have k:aj (af s) i=[128]:=by
     have:z (aj (af s) i=aq [])=true:=by simpa using k
     exact of_decide_eq_true this
    exact Gk λj _=>Jb k j
  ·have h:=of_decide_eq_false h;have ei:i=16:=by omega
   subst ei;refine⟨by omega,by omega,by omega,λk=>adO ?_ (λ_=>rfl),λk=>Fb ?_ ⟨⟨3,[],[],dR (cF (af s))⟩,λ_=>rfl⟩⟩
   ·rw[hk,k];rfl
   ·rw[hk,k];rfl
 ·have a: ¬ s=[128]:=of_decide_eq_false a;have c:cy s=true:=by simpa using c
  have d:z (aF s=[])=true:=by simpa using d
  have f:=of_decide_eq_false f;have f: ¬ au (af s)=2:=by omega
  have g:=of_decide_eq_false g;have g: ¬ au (af s)=17:=by omega
  rw[aH,if_neg a,b,c,d,kX,e,if_neg f,if_neg g];rfl
 ·have a: ¬ s=[128]:=of_decide_eq_false a;have c:cy s=true:=by simpa using c
  have d:z (aF s=[])=true:=by simpa using d
  rw[aH,if_neg a,b,c,d,kX,e];rfl
 ·have a: ¬ s=[128]:=of_decide_eq_false a;rw[aH,if_neg a,b];rfl
def BD:List SV->Option (Prop×cN)
 | [.str o s]=>G (s.length<1099511627776,Vm s)
 | _=>J
theorem Ys:ax w 167 (bw BD):=by
 refine cn (n:=20) (fn:=ag) Tryz.func167 (by kernel_rfl) (by kernel_rfl) ?_;intro args p a h hp;unfold BD at h;split at h
 ·rename_i s;cases h;refine⟨_,aa4 s,rfl,λb=> ?_,Mv hp⟩;cases b with
  | true=>exact rfl
  | false =>
    intro b;cases b with
    | true=>exact rfl
    | false =>
      intro b;cases b with
      | true=>exact rfl
      | false =>
        intro b;cases b with
        | true=>exact rfl
        | false=>exact λx=>rfl
 ·cases h
end
section
open Go Sx
set_option maxRecDepth 20000
noncomputable def tK:List (FuncId×PT):=(167,bw BD)::FO
theorem lH:aQ w (λf=>ay f tK):=.cons Ys (aZ _) xB
def Rel (L:Nat)(t:e_):Prop:=(t.length<L∨32<=t.length)/\t.length<9223372036854775808
def TX (t:e_):cN:=.fork (bM t) λb=>match b with
 | true=>.ret (.aD [(getD t).sv,.bool q q])
 | false=>.ret (.aD [cK,.bool q o])
def dZ (L:Nat):List SV->Option (Prop×cN)
 | [.str o t]=>G (Rel L t,TX t)
 | _=>J
noncomputable def LC (L:Nat):List (FuncId×PT):=(155,bw (dZ L))::tK
noncomputable def SQ (L:Nat):dK:={bE with cm:=λf=>ay f (LC L)}
noncomputable def acI (x:Nd):aX :=
 {α:=Nat,pre:=λ_ i=>i<=16/\gJ bM x.r i=q,jx:=λ_ i=>16 - i,fresh:=0,slots:=λ_ i=>[(7,.int .i64 o i)],
  mem:=λ_ i=>[(2,.cells [.int .i64 o (min (x.v.length:Int) 1+b8 x.r i)] 1 3)]}
noncomputable def SE (L:Nat)(x:Nd):dK:={bE with cm:=λf=>ay f (LC L),bh:=λf=>if f=201 then [(1,always (acI x))] else []}
def eO (L:Nat)(r:Nat->e_):Prop:=∀ j,j<16->Rel L (r j)
noncomputable def Us (L:Nat):List (FuncId×PT):=(187,aM (dM λx=>G (Rel L (x.r 0),.bool o (nI bM x))))::(188,aM (dM λx=>G (eO L x.r,.bool o (dO bM x))))::tK
noncomputable def qi (L:Nat):dK:={bE with cm:=λf=>ay f (Us L)}
noncomputable def LD (L:Nat):List (FuncId×PT):=(152,aM (dM λx=>G (eO L x.r,.bool o (aI x))))::(153,aM (dM λx=>G ((0<=x.k/\x.k<=3)/\x.jZ,.str o (cq x))))::tK
noncomputable def SR (L:Nat):dK:={bE with cm:=λf=>ay f (LD L)}
def HG (s:e_):cN:=.fork (aJ s) λb=>match b with
 | true=>.ret (.aD [(getD s).sv,.int .i64 q 0])
 | false=>.ret (.aD [cK,.int .i64 q 2])
def kg (L:Nat):List SV->Option (Prop×cN)
 | [.str o s]=>G (s.length<=L/\s.length<1099511627776,HG s)
 | _=>J
noncomputable def ZA (L:Nat):dK:={bE with cm:=λf=>ay f ((127,bw (kg L))::tK)}
noncomputable def SY:dK:={bE with cm:=λf=>ay f ((127,λ_ _ _ _=>.fail "not to be called")::tK)}
theorem aaX:Sx.Good w SY:=.of bz (aQ.cons (λ_ _ _ _ h=>h.elim) (λ_ _ _ _ _ _ h=>h) lH) aU
theorem Zb (x:Nd)(R:SV->Prop):VC.holds (cA uP 153 W [x.wC q 0] R)=((True/\R (SV.str o [(128:UInt8)]))):=by kernel_rfl
theorem Zc (x:Nd)(R:SV->Prop):VC.holds (cA uP 153 W [x.wC q 1] R)=(({k:=(1:Int),p:=x.p,v:=x.v,r:=fun(a:Nat)=>(bG x.r []).getD a []:Nd}.jZ/\R (SV.str o (jz {k:=(1:Int),p:=x.p,v:=x.v,r:=fun(b:Nat)=>(bG x.r []).getD b []:Nd})))):=by kernel_rfl
theorem Zd (x:Nd)(R:SV->Prop):VC.holds (cA uP 153 W [x.wC q 2] R)=(({k:=(2:Int),p:=x.p,v:=x.v,r:=fun(a:Nat)=>(bG x.r []).getD a []:Nd}.jZ/\R (SV.str o (pY {k:=(2:Int),p:=x.p,v:=x.v,r:=fun(b:Nat)=>(bG x.r []).getD b []:Nd})))):=by kernel_rfl
theorem Ze (x:Nd)(R:SV->Prop):VC.holds (cA uP 153 W [x.wC q 3] R)=(({k:=(3:Int),p:=x.p,v:=x.v,r:=fun(a:Nat)=>(bG x.r []).getD a []:Nd}.jZ/\R (SV.str o (fD {k:=(3:Int),p:=x.p,v:=x.v,r:=fun(b:Nat)=>(bG x.r []).getD b []:Nd})))):=by kernel_rfl
theorem adp (L:Nat)(x:Nd)(R:SV->Prop):VC.holds (cA (SQ L) 187 Tryz.f187 [x.sv] R)=((True/\((!gO {k:=x.k,p:=x.p,v:=x.v,r:=fun(a:Nat)=>(bG x.r []).getD a []:Nd} (1:Int))=q->R (SV.bool q o))/\((!gO {k:=x.k,p:=x.p,v:=x.v,r:=fun(u2:Nat)=>(bG x.r []).getD u2 []:Nd} (1:Int))=o->Bk (!decide (x.v=[])) (R (SV.bool q o)) (True/\((!decide (cr (fun(b:Nat)=>(bG x.r []).getD b []) 16=(1:Int)))=q->R (SV.bool q o))/\((!decide (cr (fun(c:Nat)=>(bG x.r []).getD c []) 16=(1:Int)))=o->(x.r 0).length<9223372036854775808/\Bk (bY (x.r 0)) (R (SV.bool q q)) (Rel L (x.r 0)/\Bk (bM (x.r 0)) (R (SV.bool (o&&q) (z ((getD (x.r 0)).k=3)))) (R (SV.bool q o)))))))):=by kernel_rfl
theorem V2 (L:Nat)(x:Nd)(R:SV->Prop):VC.holds (cA (SE L x) 188 Tryz.f188 [x.sv] R)=((λh:Nat->SV=>((λc:SB=>((λd:SB=>((Bk (!decide (x.p=[])) (R (SV.bool q o)) (Fk (80<(x.v.length:Int)) (R (SV.bool q o)) (∀(b:Loop),(∃(g:Nat),(g<=16/\gJ bM x.r g=q)/\0=(g:Int)/\ah (SB.cells [SV.int .i64 (o&&q) (min (x.v.length:Int) 1)] 1 3) (SB.cells [SV.int .i64 o (min (x.v.length:Int) 1+b8 x.r g)] 1 3)/\ah (SB.loop K J b) (SB.loop K J b)/\ah c c/\ah d d/\ah (SB.cells x.sv.cells 19 238) (SB.cells x.sv.cells 19 238)/\True)/\∀(a:Nat),a<=16/\gJ bM x.r a=q->Fk ((a:Int)<16) ((0<=(a:Int)/\(a:Int)<16/\(a:Int)<(↑(16:Nat):Int))/\Bk (!decide (bZ (bG x.r []) (a:Int).toNat=[])) (b=b/\(bZ (bG x.r []) (a:Int).toNat).length<9223372036854775808 /\Bk (bY (bZ (bG x.r []) (a:Int).toNat)) (I6 (min (x.v.length:Int) 1+b8 x.r a+1)/\I6 ((a:Int)+1)/\∃(u2:Nat),((u2<=16/\gJ bM x.r u2=q)/\16 - u2<16 - a)/\(a:Int)+1=(u2:Int)/\ah (SB.cells [SV.int .i64 o (min (x.v.length:Int) 1+b8 x.r a+1)] 1 3) (SB.cells [SV.int .i64 o (min (x.v.length:Int) 1+b8 x.r u2)] 1 3)/\ah (SB.loop K J b) (SB.loop K J b)/\ah c c/\ah d d/\ah (SB.cells x.sv.cells 19 238) (SB.cells x.sv.cells 19 238)/\True) (Rel L (bZ (bG x.r []) (a:Int).toNat) /\Bk (bM (bZ (bG x.r []) (a:Int).toNat)) (I6 (min (x.v.length:Int) 1+b8 x.r a+1)/\I6 ((a:Int)+1)/\∃(e:Nat),((e<=16/\gJ bM x.r e=q)/\16 - e<16 - a)/\(a:Int)+1=(e:Int)/\ah (SB.cells [SV.int .i64 o (min (x.v.length:Int) 1+b8 x.r a+1)] 1 3) (SB.cells [SV.int .i64 o (min (x.v.length:Int) 1+b8 x.r e)] 1 3)/\ah (SB.loop K J b) (SB.loop K J b)/\ah c c/\ah d d/\ah (SB.cells x.sv.cells 19 238) (SB.cells x.sv.cells 19 238)/\True) (R (SV.bool q o)))) (I6 ((a:Int)+1)/\∃(f:Nat),((f<=16/\gJ bM x.r f=q)/\16 - f<16 - a)/\(a:Int)+1=(f:Int)/\ah (SB.cells [SV.int .i64 o (min (x.v.length:Int) 1+b8 x.r a)] 1 3) (SB.cells [SV.int .i64 o (min (x.v.length:Int) 1+b8 x.r f)] 1 3)/\ah (SB.loop K J b) (SB.loop K J b)/\ah c c/\ah d d/\ah (SB.cells x.sv.cells 19 238) (SB.cells x.sv.cells 19 238)/\True)) (R (SV.bool (o&&q) (z (2<=min (x.v.length:Int) 1+b8 x.r a))))))))) (SB.cells (SV.bool q o).cells 1 4))) (SB.cells (SV.agg (SV.int .i64 o x.k::SV.str o x.p::SV.str o x.v::bG h [])).cells 19 238))) (fun(n0:Nat)=>SV.str o (x.r n0))):=by kernel_rfl
theorem WD (L:Nat)(x:Nd)(R:SV->Prop):VC.holds (cA (qi L) 152 Q [x.wC q 0] R)=((True/\R (SV.bool o (lZ {k:=(0:Int),p:=x.p,v:=x.v,r:=fun(u0:Nat)=>(bG x.r []).getD u0 []:Nd})))):=by kernel_rfl
theorem WE (L:Nat)(x:Nd)(R:SV->Prop):VC.holds (cA (qi L) 152 Q [x.wC q 1] R)=((True/\R (SV.bool o (kW {k:=(1:Int),p:=x.p,v:=x.v,r:=fun(u0:Nat)=>(bG x.r []).getD u0 []:Nd})))):=by kernel_rfl
theorem WG (L:Nat)(x:Nd)(R:SV->Prop):VC.holds (cA (qi L) 152 Q [x.wC q 2] R)=((Rel L ((bG x.r []).getD 0 [])/\R (SV.bool o (nI bM {k:=(2:Int),p:=x.p,v:=x.v,r:=fun(u0:Nat)=>(bG x.r []).getD u0 []:Nd})))):=by kernel_rfl
theorem WH (L:Nat)(x:Nd)(R:SV->Prop):VC.holds (cA (qi L) 152 Q [x.wC q 3] R)=(((eO L fun(a:Nat)=>(bG x.r []).getD a [])/\R (SV.bool o (dO bM {k:=(3:Int),p:=x.p,v:=x.v,r:=fun(b:Nat)=>(bG x.r []).getD b []:Nd})))):=by kernel_rfl
theorem WI (L:Nat)(x:Nd)(R:SV->Prop):VC.holds (cA (qi L) 152 Q [x.sv] R)=((Fk (x.k<0) (R (SV.bool q o)) (Fk (3<x.k) (R (SV.bool q o)) ((0<=x.k/\x.k<4)/\False)))):=by kernel_rfl
theorem Rq (L:Nat)(s:e_):VC.holds (dB (SR L) 127 a_ [.str o s] (HG s))=((λe:Nat->SV=>((λf:Nat->SV=>((λg:Nat->SV=>((λa:SV=>((λc:SV=>((λd:SV=>((λh:SV=>((λb:e_=>((s.length<1099511627776/\Fk (aH s=0) ((eO L fun(j:Nat)=>(bG (λ_=>[]) []).getD j [])/\((!aI {k:=(0:Int),p:=[],v:=[],r:=fun(l:Nat)=>(bG (λ_=>[]) []).getD l []:Nd})=q->Bk (aJ s) (aa a c) (aa a d))/\((!aI {k:=(0:Int),p:=[],v:=[],r:=fun(m:Nat)=>(bG (λ_=>[]) []).getD m []:Nd})=o->(((0:Int)<=(0:Int)/\(0:Int)<=(3:Int))/\{k:=(0:Int),p:=[],v:=[],r:=fun(n:Nat)=>(bG (λ_=>[]) []).getD n []:Nd}.jZ)/\((!decide (cq {k:=(0:Int),p:=[],v:=[],r:=fun(t:Nat)=>(bG (λ_=>[]) []).getD t []:Nd}=s))=q->Bk (aJ s) (aa a c) (aa a d))/\((!decide (cq {k:=(0:Int),p:=[],v:=[],r:=fun(u:Nat)=>(bG (λ_=>[]) []).getD u []:Nd}=s))=o ->Bk (aJ s) (aa h c) (aa h d)))) (Fk (aH s=1) ((eO L fun(w:Nat)=>(bG cc []).getD w [])/\((!aI {k:=(1:Int),p:=bT b,v:=af (aj (af s) 1),r:=fun(x:Nat)=>(bG cc []).getD x []:Nd})=q->Bk (aJ s) (aa a c) (aa a d))/\((!aI {k:=(1:Int),p:=bT b,v:=af (aj (af s) 1),r:=fun(y:Nat)=>(bG cc []).getD y []:Nd})=o->(((0:Int)<=(1:Int)/\(1:Int)<=(3:Int)) /\{k:=(1:Int),p:=bT b,v:=af (aj (af s) 1),r:=fun(z:Nat)=>(bG cc []).getD z []:Nd}.jZ)/\((!decide (cq {k:=(1:Int),p:=bT b,v:=af (aj (af s) 1),r:=fun(A:Nat)=>(bG cc []).getD A []:Nd}=s))=q->Bk (aJ s) (aa a c) (aa a d))/\((!decide (cq {k:=(1:Int),p:=bT b,v:=af (aj (af s) 1),r:=fun(B:Nat)=>(bG cc []).getD B []:Nd}=s))=o->Bk (aJ s) (aa (SV.aD [SV.agg (SV.int .i64 q 1::(SV.str o (bT b))::(SV.str o (af (aj (af s) 1)))::bG e []),SV.int .i64 q 0]) c) (aa (SV.aD [SV.agg (SV.int .i64 q 1::(SV.str o (bT b))::(SV.str o (af (aj (af s) 1)))::bG e []),SV.int .i64 q 0]) d)))) (Fk (aH s=2) ((eO L fun(C:Nat)=>(bG (λi=>bN (aj (af s) 1) i) []).getD C []) /\((!aI {k:=(2:Int),p:=bT b,v:=[],r:=fun(D:Nat)=>(bG (λi=>bN (aj (af s) 1) i) []).getD D []:Nd})=q->Bk (aJ s) (aa a c) (aa a d)) /\((!aI {k:=(2:Int),p:=bT b,v:=[],r:=fun(E:Nat)=>(bG (λi=>bN (aj (af s) 1) i) []).getD E []:Nd})=o->(((0:Int)<=(2:Int)/\(2:Int)<=(3:Int)) /\{k:=(2:Int),p:=bT b,v:=[],r:=fun(F:Nat)=>(bG (λi=>bN (aj (af s) 1) i) []).getD F []:Nd}.jZ) /\((!decide (cq {k:=(2:Int),p:=bT b,v:=[],r:=fun(G:Nat)=>(bG (λi=>bN (aj (af s) 1) i) []).getD G []:Nd}=s))=q->Bk (aJ s) (aa a c) (aa a d)) /\((!decide (cq {k:=(2:Int),p:=bT b,v:=[],r:=fun(H:Nat)=>(bG (λi=>bN (aj (af s) 1) i) []).getD H []:Nd}=s))=o->Bk (aJ s) (aa (SV.aD [SV.agg (SV.int .i64 q 2::(SV.str o (bT b))::SV.str o []::bG f []),SV.int .i64 q 0]) c) (aa (SV.aD [SV.agg (SV.int .i64 q 2::(SV.str o (bT b))::SV.str o []::bG f []),SV.int .i64 q 0]) d)))) (Fk (aH s=3) ((eO L fun(I:Nat)=>(bG (λi=>dR (cF (af s)) i) []).getD I [])/\((!aI {k:=(3:Int),p:=[],v:=af (aj (af s) 16),r:=fun(J:Nat)=>(bG (λi=>dR (cF (af s)) i) []).getD J []:Nd})=q->Bk (aJ s) (aa a c) (aa a d)) /\((!aI {k:=(3:Int),p:=[],v:=af (aj (af s) 16),r:=fun(K:Nat)=>(bG (λi=>dR (cF (af s)) i) []).getD K []:Nd})=o->(((0:Int)<=(3:Int)/\(3:Int)<=(3:Int))/\{k:=(3:Int),p:=[],v:=af (aj (af s) 16),r:=fun(M:Nat)=>(bG (λi=>dR (cF (af s)) i) []).getD M []:Nd}.jZ) /\((!decide (cq {k:=(3:Int),p:=[],v:=af (aj (af s) 16),r:=fun(u2:Nat)=>(bG (λi=>dR (cF (af s)) i) []).getD u2 []:Nd}=s))=q->Bk (aJ s) (aa a c) (aa a d))/\((!decide (cq {k:=(3:Int),p:=[],v:=af (aj (af s) 16),r:=fun(N:Nat)=>(bG (λi=>dR (cF (af s)) i) []).getD N []:Nd}=s))=o ->Bk (aJ s) (aa (SV.aD [SV.agg (SV.int .i64 q 3::SV.str o []::(SV.str o (af (aj (af s) 16)))::bG g []),SV.int .i64 q 0]) c) (aa (SV.aD [SV.agg (SV.int .i64 q 3::SV.str o []::(SV.str o (af (aj (af s) 16)))::bG g []),SV.int .i64 q 0]) d)))) (∀(_:Nd),Bk (aJ s) (aa a c) (aa a d)))))))) (af (aj (af s) 0)))) (SV.aD [SV.agg (SV.int .i64 q 0::SV.str q []::SV.str q []::wD),SV.int .i64 q 0]))) (SV.aD [cK,SV.int .i64 q 2]))) (SV.aD [(getD s).sv,SV.int .i64 q 0]))) (SV.aD [SV.agg (SV.int .i64 q 0::SV.str q []::SV.str q []::wD),SV.int .i64 q 2]))) (fun(n0:Nat)=>SV.str o (dR (cF (af s)) n0)))) (fun(n0:Nat)=>SV.str o (bN (aj (af s) 1) n0)))) (fun(n0:Nat)=>SV.str o (cc n0))):=by kernel_rfl
theorem Wb (L:Nat)(t:e_):VC.holds (dB (ZA L) 155 Y [.str o t] (TX t))=((λb:Nat->SV=>((λa:SV=>((Fk (32<=(t.length:Int)) (Bk (bM t) (aa a (SV.aD [(getD t).sv,SV.bool q q])) (aa a (SV.aD [cK,SV.bool q o]))) ((t.length<=L/\t.length<1099511627776)/\Bk (aJ t) (Fk ((getD t).k=0) (Bk (bM t) (aa a (SV.aD [(getD t).sv,SV.bool q q])) (aa a (SV.aD [cK,SV.bool q o]))) (Bk (bM t) (aa (SV.aD [SV.agg ((SV.int .i64 o (getD t).k)::(SV.str o (getD t).p)::(SV.str o (getD t).v)::bG b []),SV.bool q q]) (SV.aD [(getD t).sv,SV.bool q q])) (aa (SV.aD [SV.agg ((SV.int .i64 o (getD t).k)::(SV.str o (getD t).p)::(SV.str o (getD t).v)::bG b []),SV.bool q q]) (SV.aD [cK,SV.bool q o])))) (Bk (bM t) (aa a (SV.aD [(getD t).sv,SV.bool q q])) (aa a (SV.aD [cK,SV.bool q o]))))))) (SV.aD [SV.agg (SV.int .i64 q 0::SV.str q []::SV.str q []::wD),SV.bool q o]))) (fun(n0:Nat)=>SV.str o ((getD t).r n0))):=by kernel_rfl
theorem Ro (t:e_):VC.holds (dB SY 155 Y [.str o t] (TX t))=((λP0:SV=>((Fk (32<=(t.length:Int)) (Bk (bM t) (aa P0 (SV.aD [(getD t).sv,SV.bool q q])) (aa P0 (SV.aD [cK,SV.bool q o]))) False))) (SV.aD [SV.agg (SV.int .i64 q 0::SV.str q []::SV.str q []::wD),SV.bool q o])):=by kernel_rfl
theorem AD (b:Int)(n:Nat):1<=(aN b n).length:=by unfold aN;split<;>simp
theorem FQ (h:bO s=q)(hl:cy s=q):(af s).length<s.length:=by have:=congrArg b! (uR h);rw[hl] at this;unfold fC at this;have hp:=AD 192 (af s).length;simp only[cond_true,an] at this;omega
theorem qu (h:bY t=q):t.length=33:=by
 obtain⟨⟨h1,h2,h3⟩,h4⟩:=nM.1 h;have:=congrArg b! (uR h1);rw[h2,h3] at this;unfold fC aq aN at this;simp only[cond_false,List.append_nil,h4] at this;simp only[show ¬ ((32:Nat)=1/\ai (af t) 0<128)from by omega,if_false,an,h4] at this
 simpa using this.symm
theorem TY {n:Nat}(h:AH n t=q):t.length<32:=by
 cases n with
 | zero=>simp[AH] at h
 | succ n =>simp only[AH,O,decide_eq_true_eq] at h;exact h.1
theorem mN (h:bM t=q):t.length<32:=TY h
theorem jd {r:Nat->e_}: ∀ {n j:Nat},cr r n<=(j:Int)->j<n->r j=[]
 | 0,_,_,h=>absurd h (P _)
 | n+1,j,h,hj=>by
   unfold cr at h;by_cases e:r n=[]
   ·rw[if_pos e] at h;by_cases ej:j=n
    ·subst ej;exact e
    ·exact jd h (by omega)
   ·rw[if_neg e] at h;omega
theorem qG {inl:e_->Bool}{r:Nat->e_}: ∀ {n j:Nat},gJ inl r n=q->j<n->r j=[]∨fe inl (r j)=q
 | 0,_,_,h=>absurd h (P _)
 | n+1,j,h,hj=>by
   simp only[gJ,O,T,decide_eq_true_eq] at h;by_cases ej:j=n
   ·subst ej;exact h.2
   ·exact qG h.1 (by omega)
theorem Bc {inl:e_->Bool}{r:Nat->e_}: ∀ {n j:Nat},j<n->r j≠[]->fe inl (r j)=o->gJ inl r n=o
 | 0,_,h,_,_=>absurd h (P _)
 | n+1,j,hj,h0,h1=>by
   simp only[gJ];by_cases ej:j=n
   ·subst ej;rw[h1,show z (r j=[])=o from decide_eq_false h0];simp
   ·rw[Bc (n:=n) (by omega) h0 h1];rfl
theorem oU (h:fe bM t=q):t.length<=33:=by
 simp only[fe,T] at h;rcases h with h | h
 ·have:=qu h;omega
 ·have:=mN h;omega
theorem IX {l:Int}(h:gO x l=q):x.p.length<=12:=by simp only[gO,O,decide_eq_true_eq] at h;omega
theorem tI (h:kW x=q):x.p.length<=12/\x.v≠[]/\x.v.length<=80/\∀ j,j<16->x.r j=[]:=by simp only[kW,O,Bool.not_eq_true',decide_eq_true_eq,decide_eq_false_iff_not] at h;obtain⟨h1,h2,h3,h4⟩:=h;exact⟨IX h1,h2,by omega,λj hj=>jd (n:=16) (by omega) hj⟩
theorem wS (h:nI inl x=q):x.p.length<=12/\x.v=[]/\(∀ j,1<=j->j<16->x.r j=[])/\cr x.r 16=1/\(bY (x.r 0)=q∨(inl (x.r 0)=q/\(getD (x.r 0)).k=3)):=by simp only[nI,O,T,decide_eq_true_eq] at h;obtain⟨h1,h2,h3,h4⟩:=h;exact⟨IX h1,h2,λj h1 hj=>jd (n:=16) (by omega) hj,h3,h4⟩
theorem oE (h:dO inl x=q):x.p=[]/\x.v.length<=80/\gJ inl x.r 16=q/\2<=min (x.v.length:Int) 1+b8 x.r 16:=by simp only[dO,O,decide_eq_true_eq] at h;obtain⟨h1,h2,h3,h4⟩:=h;exact⟨h1,by omega,h3,h4⟩
theorem Bn (h:lZ x=q):x.k=0/\x.p=[]/\x.v=[]/\∀ j,j<16->x.r j=[]:=by simp only[lZ,O,decide_eq_true_eq,List.all_eq_true] at h;exact⟨h.1,h.2.1,h.2.2.1,λj hj=>h.2.2.2 j (List.mem_range.2 hj)⟩
theorem kL (h:fW inl x=q):(x.k=0/\lZ x=q)∨(x.k=1/\kW x=q)∨(x.k=2/\nI inl x=q)∨(x.k=3/\dO inl x=q):=by
 unfold fW at h;split at h
 ·exact .inl ⟨by assumption,h⟩
 ·split at h
  ·exact .inr (.inl ⟨by assumption,h⟩)
  ·split at h
   ·exact .inr (.inr (.inl ⟨by assumption,h⟩))
   ·split at h
    ·exact .inr (.inr (.inr ⟨by assumption,h⟩))
    ·cases h
structure Nd.p6 (x:Nd):Prop where
 k:0<=x.k/\x.k<=3
 p:x.p.length<=12
 v:x.v.length<=80
 r: ∀ j,j<16->x.r j=[]∨fe bM (x.r j)=q
theorem fQ (h:aI x=q):x.p6:=by
 rcases kL h with ⟨hk,h⟩ | ⟨hk,h⟩ | ⟨hk,h⟩ | ⟨hk,h⟩
 ·obtain⟨_,h1,h2,h3⟩:=Bn h;exact⟨by omega,by rw[h1];simp,by rw[h2];simp,λj hj=>.inl (h3 j hj)⟩
 ·obtain⟨h1,_,h2,h3⟩:=tI h;exact⟨by omega,h1,h2,λj hj=>.inl (h3 j hj)⟩
 ·obtain⟨h1,h2,h3,_,h4⟩:=wS h;refine⟨by omega,h1,by rw[h2];simp,λj hj=> ?_⟩;by_cases e:j=0
  ·subst e;refine .inr ?_;simp only[fe,T];exact h4.imp id λh=>h.1
  ·exact .inl (h3 j (by omega) hj)
 ·obtain⟨h1,h2,h3,_⟩:=oE h;exact⟨by omega,by rw[h1];simp,h2,λj hj=>qG h3 hj⟩
theorem Nd.p6.ref (h:x.p6)(j:Nat)(hj:j<16):(x.r j).length<=33:=by
 rcases h.r j hj with h | h
 ·rw[h];simp
 ·exact oU h
theorem Nd.p6.KS (h:x.p6):x.jZ:=⟨by have:=h.p;omega,by have:=h.v;omega,λj hj=>by have:=h.ref j hj;omega⟩
theorem Bb {f g:e_->Bool}{r:Nat->e_}: ∀ {n:Nat},(∀ j,j<n->r j≠[]->f (r j)=g (r j))->gJ f r n=gJ g r n
 | 0,_=>rfl
 | n+1,h=>by
   simp only[gJ];rw[Bb λj hj=>h j (by omega)];by_cases e:r n=[]
   ·simp[e]
   ·simp only[fe,h n (by omega) e]
theorem JV {f g:e_->Bool}(h: ∀ j,j<16->x.r j≠[]->f (x.r j)=g (x.r j)):fW f x=fW g x:=by
 have e3:dO f x=dO g x:=by simp only[dO,Bb h]
 have e2:nI f x=nI g x:=by
  by_cases e:x.r 0=[]
  ·have hb:z (cr x.r 16=1)=o∨∃ j,1<=j/\j<16/\x.r j≠[]:=by
    by_cases hb:cr x.r 16=1
    ·exfalso;have hz: ∀ n,n<=16->(∀ j,j<n->x.r j=[])->cr x.r n=0:=by
      intro n;induction n with
      | zero=>intro _ _;rfl
      | succ n ih=>intro hn hj;rw[cr,if_pos (hj n (by omega)),ih (by omega) λj hj'=>hj j (by omega)]
     have:=hz 16 (by omega) λj hj=>by
      by_cases e0:j=0
      ·subst e0;exact e
      ·exact jd (n:=16) (by omega) hj
     omega
    ·exact .inl (decide_eq_false hb)
   by_cases hb:cr x.r 16=1
   ·rcases ‹_∨_› with h1 | ⟨j,h1,h2,h3⟩
    ·exact absurd hb (of_decide_eq_false h1)
    ·exact absurd (jd (n:=16) (by omega) h2) h3
   ·simp only[nI,hb,decide_false,aA,az]
  ·simp only[nI,h 0 (by decide) e]
 simp only[fW,e2,e3]
theorem BV (h:1<=aH s):bO s=q/\cy s=q/\aF s=[]/\aH s=kX (af s):=by
 unfold aH at h ⊢;split at h
 ·omega
 ·rename_i hs
  cases h1:bO s<;>cases h2:cy s<;>cases h3:z (aF s=[])<;>simp only[h1,h2,h3,S,az,cond_false] at h<;>first
   | omega
   | exact⟨rfl,rfl,of_decide_eq_true h3,by rw[if_neg hs];rfl⟩
theorem Gn (h:0<=aH s)(j:Nat)(hj:(getD s).r j≠[]):((getD s).r j).length<s.length:=by
 by_cases h1:1<=aH s
 ·obtain⟨g1,g2,_,_⟩:=BV h1;have hl:=FQ g1 g2;have hit:=nN (af s);have key: ∀(r:Nat->e_),(∀ i,i<16->(r i).length<=(af s).length)->(dR r j).length<=(af s).length:=by
   intro r hr;by_cases h16:j<16
   ·have:dR r j=r j:=eE r j h16;rw[this];exact hr j h16
   ·have:dR r j=[]:=by unfold dR BG;rw[b9,b_ (by simp;omega)];rfl
    rw[this];simp
  have e:((getD s).r j).length<=(af s).length:=by
   unfold getD;split
   ·exact key cc λi hi=>by rw[show cc i=(λ_=>[]) i from eE (λ_=>[]) i hi];simp
   ·split
    ·refine key (bN (aj (af s) 1)) λi hi=> ?_;have:bN (aj (af s) 1) i=(λi=>if i=0 then aj (af s) 1 else []) i:=eE (λi=>if i=0 then aj (af s) 1 else []) i hi
     rw[this];show(if i=0 then aj (af s) 1 else []).length<=_
     split
     ·exact hit 1
     ·simp
    ·split
     ·refine key (cF (af s)) λi _=> ?_;unfold cF;split
      ·simp
      ·exact hit i
     ·exact key cc λi hi=>by rw[show cc i=(λ_=>[]) i from eE (λ_=>[]) i hi];simp
  omega
 ·exfalso;apply hj;have h0:aH s=0:=by omega
  unfold getD;rw[if_neg (by omega),if_neg (by omega),if_neg (by omega)];show cc j=[]
  by_cases h16:j<16
  ·exact eE (λ_=>[]) j h16
  ·unfold cc BG;rw[b9,b_ (by simp;omega)];rfl
theorem Ax {f g:e_->Bool}(h: ∀ r:e_,r.length<t.length->f r=g r):Aw f t=Aw g t:=by
 unfold Aw;by_cases h0:0<=aH t
 ·rw[JV (f:=f) (g:=g) λj _ hr=>h _ (Gn h0 j hr)]
 ·rw[decide_eq_false h0];rfl
theorem Dc: ∀(n m:Nat) (t:e_),t.length<n->t.length<m->AH n t=AH m t
 | 0,_,_,h,_=>absurd h (P _)
 | _,0,_,_,h=>absurd h (P _)
 | n+1,m+1,t,hn,hm=>by simp only[AH];rw[Ax (t:=t) λr hr=>Dc n m r (by omega) (by omega)]
theorem qy (t:e_):bM t=(z (t.length<32)&&(aJ t&& !decide ((getD t).k=0))):=by
 by_cases h:t.length<32
 ·unfold bM aJ;rw[show AH 32 t=(z (t.length<32)&&(Aw (AH 31) t&& !decide ((getD t).k=0)))from rfl]
  rw[Ax (t:=t) (f:=AH 31) (g:=bM) λr hr=>Dc 31 32 r (by omega) (by omega)]
 ·rw[decide_eq_false h,aA];exact Bool.eq_false_iff.2 λh'=>h (mN h')
theorem yO {f:FuncId}{fn:Func}(hf:w.funcs[f]?=G fn) (hn:(fn.name== "runtime.NumGoroutine")=o) (hb:fn.body.isSome=q) {g:Nd->Option (Prop×SV)}
  (H: ∀ x p v,g x=G (p,v)->p->∃ cfg args',Sx.Good w cfg/\(∀ E,SV.vals E args'=SV.vals E [x.sv])/\SV.e9 0 args'=q/\v.wf 0=q/\av (cA cfg f fn args' (λu=>aa u v))):ax w f (aM (dM g)):=by
 refine cM (Eu (n:=20) hf hn hb ?_);intro args p a h hp;obtain⟨⟨p0,v0⟩,hq,hpa⟩:=cl.1 h;obtain⟨x,hx,hg⟩:=lI hq;subst hx;injection hpa with h1 h2;subst h1;subst h2;obtain⟨cfg,args',c1,c2,c3,c4,c5⟩:=H x _ _ hg hp;exact⟨cfg,args',c1,c2,c3,c4,c5⟩
theorem Nd.jZ.kind (h:x.jZ)(k:Int):Nd.jZ {k:=k,p:=x.p,v:=x.v,r:=fun(i:Nat)=>[x.r 0,x.r 1,x.r 2,x.r 3,x.r 4,x.r 5,x.r 6,x.r 7,x.r 8,x.r 9,x.r 10,x.r 11,x.r 12,x.r 13,x.r 14,x.r 15].getD i []} :=⟨h.p,h.v,λj hj=>by show([x.r 0,x.r 1,x.r 2,x.r 3,x.r 4,x.r 5,x.r 6,x.r 7,x.r 8,x.r 9,x.r 10,x.r 11,x.r 12,x.r 13,x.r 14,x.r 15].getD j []).length<=1000;rw[eE x.r j hj];exact h.r j hj⟩
theorem kI (x:Nd)(h:x.k=k)(E:Nat->Nat):SV.vals E [x.wC q k]=SV.vals E [x.sv]:=by subst h;rfl
theorem Lg (h:0<=k/\k<=3):k=0∨k=1∨k=2∨k=3:=by omega
theorem Qe:ax w 153 (aM (dM λx=>G ((0<=x.k/\x.k<=3)/\x.jZ,.str o (cq x)))):=by
 refine yO Tryz.func153 (by kernel_rfl) (by kernel_rfl) λx p v h hp=> ?_;cases h;obtain⟨hk,hf⟩:=hp;rcases Lg hk with e | e | e | e
 ·exact⟨uP,[x.wC q 0],Fp,kI x e,rfl,rfl,av.of_eq (Zb x _) ⟨trivial,λE=>by rw[cq,if_pos e]⟩⟩
 ·exact⟨uP,[x.wC q 1],Fp,kI x e,rfl,rfl,av.of_eq (Zc x _) ⟨hf.kind 1,λE=>by rw[cq,if_neg (by omega),if_pos e];rfl⟩⟩
 ·exact⟨uP,[x.wC q 2],Fp,kI x e,rfl,rfl,av.of_eq (Zd x _) ⟨hf.kind 2,λE=>by rw[cq,if_neg (by omega),if_neg (by omega),if_pos e];rfl⟩⟩
 ·exact⟨uP,[x.wC q 3],Fp,kI x e,rfl,rfl,av.of_eq (Ze x _) ⟨hf.kind 3,λE=>by rw[cq,if_neg (by omega),if_neg (by omega),if_neg (by omega)];rfl⟩⟩
section
variable {L : Nat} (hI : ax w 155 (bw (dZ L)))
include hI
theorem Dv:aQ w (λf=>ay f (LC L)):=.cons hI (aZ _) lH
theorem aaR:Sx.Good w (SQ L):=.of bz (Dv hI) aU
theorem aaE (x:Nd):Sx.Good w (SE L x):=.of bz (Dv hI) aU
theorem aat:ax w 187 (aM (dM λx=>G (Rel L (x.r 0),.bool o (nI bM x)))):=by
 refine yO Tryz.func187 (by kernel_rfl) (by kernel_rfl) λx p v h hp=> ?_;cases h;refine⟨SQ L,[x.sv],aaR hI,λE=>rfl,rfl,rfl,av.gV (adp L x _) (by delta Bk;exact rfl) ?_⟩;have e:gO {k:=x.k,p:=x.p,v:=x.v,r:=fun(i:Nat)=>[x.r 0,x.r 1,x.r 2,x.r 3,x.r 4,x.r 5,x.r 6,x.r 7,x.r 8,x.r 9,x.r 10,x.r 11,x.r 12,x.r 13,x.r 14,x.r 15].getD i []:Nd} 1=gO x 1:=rfl;rw[e,fu (eE x.r)];unfold nI;have nn: ∀ {b:Bool},(!b)=q->b=false:=λh=>by simpa using h
 have nf: ∀ {b:Bool},(!b)=o->b=true:=λh=>by simpa using h
 refine⟨trivial,λa=>bp ?_,λa=>⟨λb=>bp ?_,λb=>⟨trivial,λc=>bp ?_,λc=>⟨hp.2,λd=>bp ?_,λd=>⟨hp,λf=>bp ?_,λf=>bp ?_⟩⟩⟩⟩⟩
 ·rw[nn a];rfl
 ·rw[nf a,nn b];rfl
 ·rw[nf a,nf b,nn c];rfl
 ·rw[nf a,nf b,nf c,d];rfl
 ·rw[nf a,nf b,nf c,d,f];rfl
 ·rw[nf a,nf b,nf c,d,f];rfl
theorem OV:ax w 188 (aM (dM λx=>G (eO L x.r,.bool o (dO bM x)))):=by
 refine yO Tryz.func188 (by kernel_rfl) (by kernel_rfl) λx p v h hp=> ?_;cases h;have hp:eO L x.r:=hp;refine⟨SE L x,[x.sv],aaE hI x,λE=>rfl,rfl,rfl,av.gV (V2 L x _) (by delta Bk Fk;exact rfl) ?_⟩;have nn: ∀ {b:Bool},(!b)=q->b=false:=λh=>by simpa using h
 have nf: ∀ {b:Bool},(!b)=o->b=true:=λh=>by simpa using h
 refine⟨λa=>bp ?_,λa=>⟨λb=>bp ?_,λb R=>⟨⟨0,⟨by omega,rfl⟩,rfl,Ad (by simp[b8]),ah.refl _,ah.refl _,ah.refl _,ah.refl _,trivial⟩,λi hi=>⟨λc=> ?_,λc=> ?_⟩⟩⟩⟩
 ·unfold dO;rw[nn a];rfl
 ·have b:=of_decide_eq_true b;unfold dO;rw[nf a,decide_eq_false (show ¬ (x.v.length:Int)<=80 by omega)];rfl
 ·have c:=of_decide_eq_true c;have ei:i<16:=by omega
  rw[M,n9 x.r ei];have hr:=hp i ei;have hfn:0<=b8 x.r i/\b8 x.r i<=i:=by
   have: ∀ n,0<=b8 x.r n/\b8 x.r n<=n:=by
    intro n;induction n with
    | zero=>exact⟨b6 _,b6 _⟩
    | succ n ih=>unfold b8;split<;>omega
   exact this i
  refine⟨by omega,λd=> ?_,λd=> ?_⟩
  ·have d: ¬ x.r i=[]:=of_decide_eq_false (nn d);have step:b8 x.r (i+1)=b8 x.r i+1:=by rw[b8,if_neg d]
   refine⟨rfl,hr.2,λf=>⟨by omega,by omega,i+1,⟨⟨by omega,?_⟩,by omega⟩,by omega,Ad (by omega),ah.refl _,ah.refl _,ah.refl _,ah.refl _,trivial⟩,λf=>⟨hr,λg=>⟨by omega,by omega,i+1,⟨⟨by omega,?_⟩,by omega⟩,by omega,Ad (by omega),ah.refl _,ah.refl _,ah.refl _,ah.refl _,trivial⟩,λg=>bp ?_⟩⟩
   ·simp only[gJ,hi.2,fe,f,aS,aK,S]
   ·simp only[gJ,hi.2,fe,g,aK,S]
   ·have hm:gJ bM x.r 16=false:=Bc ei d (by rw[fe,f,g];rfl);unfold dO;rw[hm];simp
  ·have d:x.r i=[]:=of_decide_eq_true (nf d);have step:b8 x.r (i+1)=b8 x.r i:=by rw[b8,if_pos d]
   refine⟨by omega,i+1,⟨⟨by omega,?_⟩,by omega⟩,by omega,Ad (by omega),ah.refl _,ah.refl _,ah.refl _,ah.refl _,trivial⟩;simp only[gJ,hi.2,d,decide_true,aS,S]
 ·have c:=of_decide_eq_false c;have hi1:=hi.1;have e:i=16:=by omega
  subst e;have b:=of_decide_eq_false b;refine bp ?_;unfold dO;rw[nf a,hi.2,decide_eq_true (show(x.v.length:Int)<=80 by omega)];rfl
theorem PL:aQ w (λf=>ay f (Us L)):=.cons (aat hI) (aG _) (.cons (OV hI) (aG _) lH)
theorem AA:Sx.Good w (qi L):=.of bz (PL hI) aU
theorem Bj:ax w 152 (aM (dM λx=>G (eO L x.r,.bool o (aI x)))):=by
 refine yO Tryz.func152 (by kernel_rfl) (by kernel_rfl) λx p v h hp=> ?_;cases h;have hp:eO L x.r:=hp;by_cases hk:0<=x.k/\x.k<=3
 ·have hm:eO L (fun(i:Nat)=>[x.r 0,x.r 1,x.r 2,x.r 3,x.r 4,x.r 5,x.r 6,x.r 7,x.r 8,x.r 9,x.r 10,x.r 11,x.r 12,x.r 13,x.r 14,x.r 15].getD i []):=λj hj=>by show Rel L ([x.r 0,x.r 1,x.r 2,x.r 3,x.r 4,x.r 5,x.r 6,x.r 7,x.r 8,x.r 9,x.r 10,x.r 11,x.r 12,x.r 13,x.r 14,x.r 15].getD j []);rw[eE x.r j hj];exact hp j hj
  rcases Lg hk with e | e | e | e
  ·refine⟨qi L,[x.wC q 0],AA hI,kI x e,rfl,rfl,av.of_eq (WD L x _) ⟨trivial,bp ?_⟩⟩;rw[aI,fW,if_pos e];unfold lZ;rw[e];congr 3
  ·refine⟨qi L,[x.wC q 1],AA hI,kI x e,rfl,rfl,av.of_eq (WE L x _) ⟨trivial,bp ?_⟩⟩;rw[aI,fW,if_neg (by omega),if_pos e];unfold kW;rw[fu (eE x.r)];rfl
  ·refine⟨qi L,[x.wC q 2],AA hI,kI x e,rfl,rfl,av.of_eq (WG L x _) ⟨hp 0 (by decide),bp ?_⟩⟩;rw[aI,fW,if_neg (by omega),if_neg (by omega),if_pos e];unfold nI;rw[fu (eE x.r)];rfl
  ·refine⟨qi L,[x.wC q 3],AA hI,kI x e,rfl,rfl,av.of_eq (WH L x _) ⟨hm,bp ?_⟩⟩;rw[aI,fW,if_neg (by omega),if_neg (by omega),if_neg (by omega),if_pos e];unfold dO;have e1: ∀ n,n<=16->gJ bM (fun(i:Nat)=>[x.r 0,x.r 1,x.r 2,x.r 3,x.r 4,x.r 5,x.r 6,x.r 7,x.r 8,x.r 9,x.r 10,x.r 11,x.r 12,x.r 13,x.r 14,x.r 15].getD i []) n=gJ bM x.r n/\b8 (fun(i:Nat)=>[x.r 0,x.r 1,x.r 2,x.r 3,x.r 4,x.r 5,x.r 6,x.r 7,x.r 8,x.r 9,x.r 10,x.r 11,x.r 12,x.r 13,x.r 14,x.r 15].getD i []) n=b8 x.r n:=by
    intro n;induction n with
    | zero=>intro _;exact⟨rfl,rfl⟩
    | succ n ih =>intro hn;obtain⟨i1,i2⟩:=ih (by omega);have g:=eE x.r n (by omega);simp only[gJ,b8,i1,i2,g,and_self]
   obtain⟨i1,i2⟩:=e1 16 (by omega);rw[i1,i2]
 ·refine⟨qi L,[x.sv],AA hI,λE=>rfl,rfl,rfl,av.gV (WI L x _) (by delta Fk;exact rfl) ?_⟩;have hv:aI x=false:=by rw[aI,fW,if_neg (by omega),if_neg (by omega),if_neg (by omega),if_neg (by omega)]
  rw[hv];exact⟨λ_ _=>rfl,λa=>⟨λ_ _=>rfl,λb=>absurd ⟨by have:=of_decide_eq_false a;omega,by have:=of_decide_eq_false b;omega⟩ hk⟩⟩
theorem Dw:aQ w (λf=>ay f (LD L)):=.cons (Bj hI) (aG _) (.cons Qe (aG _) lH)
theorem aaS:Sx.Good w (SR L):=.of bz (Dw hI) aU
end
end
section
open Go Sx
set_option maxRecDepth 20000
theorem QS: ¬ 0<=aH []:=by decide
theorem zB {L:Nat}{X:Nd}(hX:getD s=X)(hk:0<=aH s)(hr:eO L X.r){V N:SV}(hV:aa V (.aD [X.sv,.int .i64 q 0]))(hN:aa N (.aD [cK,.int .i64 q 2])) :
  eO L X.r/\((!aI X)=q->(aJ s=q->aa N (.aD [(getD s).sv,.int .i64 q 0]))/\(aJ s=o->aa N (.aD [cK,.int .i64 q 2]))) /\
   ((!aI X)=o->((0<=X.k/\X.k<=3)/\X.jZ)/\((!decide (cq X=s))=q->(aJ s=q->aa N (.aD [(getD s).sv,.int .i64 q 0]))/\(aJ s=o->aa N (.aD [cK,.int .i64 q 2]))) /\
    ((!decide (cq X=s))=o->(aJ s=q->aa V (.aD [(getD s).sv,.int .i64 q 0]))/\(aJ s=o->aa V (.aD [cK,.int .i64 q 2])))):=by
 have hB:aJ s=(aI X&&z (cq X=s)):=by unfold aJ Aw;rw[hX,decide_eq_true hk];rfl
 refine⟨hr,λa=> ?_,λa=> ?_⟩
 ·have a:aI X=false:=by simpa using a
  rw[hB,a];exact⟨(λh=>by cases h),λ_=>hN⟩
 ·have a:aI X=true:=by simpa using a
  have hs:=fQ a;refine⟨⟨hs.k,hs.KS⟩,λb=> ?_,λb=> ?_⟩
  ·have b:z (cq X=s)=false:=by simpa using b
   rw[hB,a,b];exact⟨(λh=>by cases h),λ_=>hN⟩
  ·have b:z (cq X=s)=true:=by simpa using b
   rw[hB,a,b,hX];exact⟨λ_=>hV,λh=>by cases h⟩
attribute [local irreducible] aj af bT bO aF cF
theorem ac3:({k:=0,p:=[],v:=[],r:=fun(i:Nat)=>[[],[],[],[],[],[],[],[],[],[],[],[],[],[],[],[]].getD i []}:Nd)=eZ:=rfl
theorem abp:(fun(i:Nat)=>[[],[],[],[],[],[],[],[],[],[],[],[],[],[],[],[]].getD i [])=(eZ).r:=rfl
theorem ac4 (s:e_):({k:=1,p:=bT (af (aj (af s) 0)),v:=af (aj (af s) 1),r:=fun(i:Nat)=>[cc 0,cc 1,cc 2,cc 3,cc 4,cc 5,cc 6,cc 7,cc 8,cc 9,cc 10,cc 11,cc 12,cc 13,cc 14,cc 15].getD i []}:Nd)=mg s:=rfl
theorem abq (s:e_):(fun(i:Nat)=>[cc 0,cc 1,cc 2,cc 3,cc 4,cc 5,cc 6,cc 7,cc 8,cc 9,cc 10,cc 11,cc 12,cc 13,cc 14,cc 15].getD i [])=(mg s).r:=rfl
theorem ac5 (s:e_):({k:=2,p:=bT (af (aj (af s) 0)),v:=[],r:=fun(i:Nat)=>[bN (aj (af s) 1) 0,bN (aj (af s) 1) 1,bN (aj (af s) 1) 2,bN (aj (af s) 1) 3,bN (aj (af s) 1) 4,bN (aj (af s) 1) 5,bN (aj (af s) 1) 6,bN (aj (af s) 1) 7,bN (aj (af s) 1) 8,bN (aj (af s) 1) 9,bN (aj (af s) 1) 10,bN (aj (af s) 1) 11,bN (aj (af s) 1) 12,bN (aj (af s) 1) 13,bN (aj (af s) 1) 14,bN (aj (af s) 1) 15].getD i []}:Nd)=qR s:=rfl
theorem abr (s:e_):(fun(i:Nat)=>[bN (aj (af s) 1) 0,bN (aj (af s) 1) 1,bN (aj (af s) 1) 2,bN (aj (af s) 1) 3,bN (aj (af s) 1) 4,bN (aj (af s) 1) 5,bN (aj (af s) 1) 6,bN (aj (af s) 1) 7,bN (aj (af s) 1) 8,bN (aj (af s) 1) 9,bN (aj (af s) 1) 10,bN (aj (af s) 1) 11,bN (aj (af s) 1) 12,bN (aj (af s) 1) 13,bN (aj (af s) 1) 14,bN (aj (af s) 1) 15].getD i [])=(qR s).r:=rfl
theorem lit_3 (s:e_):({k:=3,p:=[],v:=af (aj (af s) 16),r:=fun(i:Nat)=>[dR (cF (af s)) 0,dR (cF (af s)) 1,dR (cF (af s)) 2,dR (cF (af s)) 3,dR (cF (af s)) 4,dR (cF (af s)) 5,dR (cF (af s)) 6,dR (cF (af s)) 7,dR (cF (af s)) 8,dR (cF (af s)) 9,dR (cF (af s)) 10,dR (cF (af s)) 11,dR (cF (af s)) 12,dR (cF (af s)) 13,dR (cF (af s)) 14,dR (cF (af s)) 15].getD i []}:Nd)=gP s:=rfl
theorem abt (s:e_):(fun(i:Nat)=>[dR (cF (af s)) 0,dR (cF (af s)) 1,dR (cF (af s)) 2,dR (cF (af s)) 3,dR (cF (af s)) 4,dR (cF (af s)) 5,dR (cF (af s)) 6,dR (cF (af s)) 7,dR (cF (af s)) 8,dR (cF (af s)) 9,dR (cF (af s)) 10,dR (cF (af s)) 11,dR (cF (af s)) 12,dR (cF (af s)) 13,dR (cF (af s)) 14,dR (cF (af s)) 15].getD i [])=(gP s).r:=rfl
theorem VG (s:e_):aH s<=3:=by
 have hp:mW (af s)<=3:=by unfold mW;cases (dh (aj (af s) 0)&&bI (af (aj (af s) 0)))<;>cases cD (af (aj (af s) 0))<;>cases dh (aj (af s) 1)<;>decide
 have hl:kX (af s)<=3:=by
  unfold kX;cases cS (af s)with
  | false=>show(-1:Int)<=3;decide
  | true =>
    simp only[cond_true];split
    ·exact hp
    ·split
     ·cases dh (aj (af s) 16)<;>decide
     ·decide
 unfold aH;split
 ·decide
 ·cases (bO s&&(cy s&&z (aF s=[])))with
  | false=>show(-1:Int)<=3;decide
  | true=>exact hl
theorem KV (hk: ¬ 0<=aH s):aJ s=false:=by unfold aJ Aw;rw[decide_eq_false hk];rfl
theorem Gq {L:Nat}(hs:s.length<=L/\s.length<1099511627776)(hk:0<=aH s):eO L (getD s).r:=by
 intro j _;by_cases e:(getD s).r j=[]
 ·rw[e];have hp:0<s.length:=by
   cases s with
   | nil=>exact absurd hk QS
   | cons a r=>simp
  exact⟨.inl (by simp;omega),by simp⟩
 ·have:=Gn hk j e;exact⟨.inl (by omega),by omega⟩
section
variable {L : Nat} (hI : ax w 155 (bw (dZ L)))
include hI
theorem tT:ax w 127 (bw (kg L)):=by
 refine cn (n:=20) (fn:=a_) Tryz.func127 (by kernel_rfl) (by kernel_rfl) ?_;intro args p a h hp;unfold kg at h;split at h
 ·rename_i s;cases h;refine⟨SR L,aaS hI,rfl,λb=>by cases b<;>exact rfl,av.gV (Rq L s) (by delta Bk Fk;exact rfl) ?_⟩
  have hp:s.length<=L/\s.length<1099511627776:=hp;have hN:aa (SV.aD [cK,.int .i64 q 2]) (.aD [cK,.int .i64 q 2]):=λ_=>rfl;refine⟨hp.2,λa=> ?_,λa=>⟨λb=> ?_,λb=>⟨λc=> ?_,λc=>⟨λd=> ?_,λd=> ?_⟩⟩⟩⟩
  ·have a:aH s=0:=of_decide_eq_true a;have hX:getD s=eZ:=by unfold getD;rw[if_neg (by omega),if_neg (by omega),if_neg (by omega)]
   have hr:=Gq hp (by omega:0<=aH s);rw[hX] at hr;rw[ac3,abp];exact zB (L:=L) (X:=eZ) hX (by omega) hr (V:=.aD [cK,.int .i64 q 0]) (λ_=>rfl) hN
  ·have b:aH s=1:=of_decide_eq_true b;have hX:getD s=mg s:=by unfold getD;rw[if_pos b]
   have hr:=Gq hp (by omega:0<=aH s);rw[hX] at hr;rw[ac4 s,abq s];exact zB (L:=L) (X:=mg s) hX (by omega) hr (V:=.aD [(mg s).wC q 1,.int .i64 q 0]) (λ_=>rfl) hN
  ·have c:aH s=2:=of_decide_eq_true c;have hX:getD s=qR s:=by unfold getD;rw[if_neg (by omega),if_pos c]
   have hr:=Gq hp (by omega:0<=aH s);rw[hX] at hr;rw[ac5 s,abr s];exact zB (L:=L) (X:=qR s) hX (by omega) hr (V:=.aD [(qR s).wC q 2,.int .i64 q 0]) (λ_=>rfl) hN
  ·have d:aH s=3:=of_decide_eq_true d;have hX:getD s=gP s:=by unfold getD;rw[if_neg (by omega),if_neg (by omega),if_pos d]
   have hr:=Gq hp (by omega:0<=aH s);rw[hX] at hr;rw[lit_3 s,abt s];exact zB (L:=L) (X:=gP s) hX (by omega) hr (V:=.aD [(gP s).wC q 3,.int .i64 q 0]) (λ_=>rfl) hN
  ·have a:=of_decide_eq_false a;have b:=of_decide_eq_false b;have c:=of_decide_eq_false c;have d:=of_decide_eq_false d;have hk: ¬ 0<=aH s:=λh0=>by have:=VG s;omega
   exact λx=>⟨(λh=>by rw[KV hk] at h;cases h),λ_=>hN⟩
 ·cases h
theorem Pn:ax w 155 (bw (dZ (L+1))):=by
 refine cn (n:=20) (fn:=Y) b5 (by kernel_rfl) (by kernel_rfl) ?_;intro args p a h hp;unfold dZ at h;split at h
 ·rename_i t;cases h;refine⟨ZA L,.of bz (aQ.cons (tT hI) (aZ _) lH) aU,rfl,λb=>by cases b<;>exact rfl,av.gV (Wb L t) (by delta Bk Fk;exact rfl) ?_⟩
  have hp:Rel (L+1) t:=hp;have hN:aa (SV.aD [cK,.bool q o]) (.aD [cK,.bool q o]):=λ_=>rfl;refine⟨λa=>⟨λb=> ?_,λ_=>hN⟩,λa=>⟨?_,λb=>⟨λc=>⟨λd=> ?_,λ_=>hN⟩,λc=>⟨λd=>λ_=>rfl,λd=> ?_⟩⟩,λb=>⟨λd=> ?_,λ_=>hN⟩⟩⟩
  ·have a:=of_decide_eq_true a;have:=mN b;omega
  ·have a:=of_decide_eq_false a;rcases hp.1 with h | h<;>omega
  ·rw[qy,c] at d;simp at d
  ·have a:=of_decide_eq_false a;rw[qy,b,c,decide_eq_true (show t.length<32 by omega)] at d;simp at d
  ·rw[qy,b] at d;simp at d
 ·cases h
end
theorem TZ:ax w 155 (bw (dZ 0)):=by
 refine cn (n:=20) (fn:=Y) b5 (by kernel_rfl) (by kernel_rfl) ?_;intro args p a h hp;unfold dZ at h;split at h
 ·rename_i t;cases h;have hp:Rel 0 t:=hp;have h32:32<=t.length:=by rcases hp.1 with h | h;exact absurd h (P _);exact h
  refine⟨SY,aaX,rfl,λb=>by cases b<;>exact rfl,av.gV (Ro t) (by delta Bk Fk;exact rfl) ?_⟩
  have hN:aa (SV.aD [cK,.bool q o]) (.aD [cK,.bool q o]):=λ_=>rfl;refine⟨λa=>⟨λb=> ?_,λ_=>hN⟩,λa=> ?_⟩
  ·have:=mN b;omega
  ·have a:=of_decide_eq_false a;omega
 ·cases h
theorem iN: ∀ L,ax w 155 (bw (dZ L))
 | 0=>TZ
 | L+1=>Pn (iN L)
end
end Go.Proofs.YtoibaecagklkaaaGreatDoor
