/- A part of the proof. -/
import Derived.Test.YtoibaecagklkaaaGreatDoorMl
open Bool renaming and_eq_true->P,and_false->aC,and_true->T,false->o,false_and->aO,or_eq_true->W,or_true->aX,true->q,true_or->a_
open Decidable renaming decide->G
open Go.LoopState renaming ready->M
open Go.Proofs.Tryz renaming f127->a!,f152->S,f153->Y,f155->Z,f167->an,f186->bf,f190->bE,f191->b5,f192->b6,func155->b7,prog->z
open Int renaming le_refl->b9,toNat_natCast->O
open List renaming getD_eq_getElem?_getD->b_,getElem?_eq_none->b!,length->cl,length_append->az,length_cons->ag
open Nat renaming le_trans->J,not_lt_zero->Q
open Option renaming map_eq_some_iff->ct,none->K,some->I
namespace Go.Proofs.YtoibaecagklkaaaGreatDoor
open Go Sx
variable {k:Int}{s t:f_}{inl:f_->Bool}{i:Nat}{x:Nd}{A B C D E:Prop}
section
open Go Sx
set_option maxRecDepth 20000
theorem lp (b:Int)(n:Nat):(bA b n).length<=9:=by
 unfold bA;split
 ·simp
 ·have:=Hs 8 n;show(UInt8.ofNat _::digits n).length<=9;rw[ag];have:(digits n).length<=8:=Hs 8 n;omega
theorem fB (b:f_):(aq b).length<=b.length+9:=by
 unfold aq;split
 ·omega
 ·have:=lp 128 b.length;rw[az];omega
theorem fQ {r r':Nat->f_}: ∀ {n:Nat},(∀ j,j<n->r j=r' j)->cF r n=cF r' n
 | 0,_=>rfl
 | n+1,h=>by unfold cF;rw[h n (by omega),fQ (λj hj=>h j (by omega))]
theorem fF (r:Nat->f_)(j:Nat)(h:j<16):[r 0,r 1,r 2,r 3,r 4,r 5,r 6,r 7,r 8,r 9,r 10,r 11,r 12,r 13,r 14,r 15].getD j []=r j:=uU r h
theorem Nz (x:Nd):ay (eZ Ao 186 bf [x.sv] (λv=>ah v (.bool o (kg x)))):=by
 refine ay.mS (aeS x _) (by delta Bk Fk;exact rfl) ?_;have e:iB {k:=x.k,p:=x.p,v:=x.v,r:=fun(i:Nat)=>[x.r 0,x.r 1,x.r 2,x.r 3,x.r 4,x.r 5,x.r 6,x.r 7,x.r 8,x.r 9,x.r 10,x.r 11,x.r 12,x.r 13,x.r 14,x.r 15].getD i []:Nd} 0=iB x 0:=rfl;rw[e,fQ (fF x.r)];unfold kg;refine⟨trivial,λa=>⟨λb=>⟨λc=>⟨trivial,dh ?_⟩,λc=>dh ?_⟩,λb=>dh ?_⟩,λa=>dh ?_⟩
 ·rw[a,b,c];rfl
 ·rw[a,b,c];rfl
 ·rw[a,b];rfl
 ·rw[a];rfl
def fG (g:Nd->Option (Prop×SV)):List SV->Option (Prop×SV)
 | [.agg l]=>(match Iq l with
   | some x=>g x
   | none=>K)
 | _=>K
theorem mE {g:Nd->Option (Prop×SV)}{args:List SV}{p:Prop}{v:SV}(h:fG g args=I (p,v)): ∃ x,args=[x.sv]/\g x=I (p,v):=by
 unfold fG at h;split at h
 ·split at h
  ·rename_i x hx;exact⟨x,by rw[qq hx],h⟩
  ·cases h
 ·cases h
theorem K4 (x:Nd):SV.fH 0 [x.sv]=true:=rfl
theorem aaz:ax z 186 (bn (fG λx=>I (True,.bool o (kg x)))):=by refine je HM (n:=20) Tryz.func186 (by kernel_rfl) (by kernel_rfl) ?_;intro args p r h hp;obtain⟨x,hx,hg⟩:=mE h;subst hx;cases hg;exact⟨K4 x,rfl,Nz x⟩
theorem k9 {a b:f_}:(flat [a,b]).length=a.length+b.length:=by simp[flat]
theorem lG {leaf:Bool}:(cN x leaf).length<=x.p.length+2:=by
 unfold cN;cases jO x.p with
 | false=>simp
 | true =>simp only[cond_true,dS,Dh,ag];cases G ((x.p.length:Int)% 2=1)<;>simp only[cond_true,cond_false,ag]<;>omega
theorem CN (hx:x.rB):ay (eZ Ao 190 bE [x.sv] (λv=>ah v (.str o (ki x)))):=by
 refine ay.of_eq (Pa x _) ?_;have h1:=hx.p;have h2:=hx.v;have h3:=lG (x:=x) (leaf:=q);have h4:=fB (cN x q);have h5:=fB x.v;have h6:=k9 (a:=aq (cN x q)) (b:=aq x.v);have h7:=lp 192 (((flat [aq (cN x q),aq x.v]).length:Nat):Int).toNat;refine⟨by omega,λa=> ?_,λa=> ?_⟩
 ·have e:dS x.p q=cN x true:=by rw[cN,a];rfl
  rw[e];exact⟨by omega,rfl,by omega,by omega,by omega,by omega,λE=>by rw[ki,cU,O];rfl⟩
 ·have e:[]=cN x true:=by rw[cN,a];rfl
  rw[e];exact⟨by omega,rfl,by omega,by omega,by omega,by omega,λE=>by rw[ki,cU,O];rfl⟩
theorem En (hx:x.rB):ay (eZ Ao 191 b5 [x.sv] (λv=>ah v (.str o (rA x)))):=by
 refine ay.of_eq (TV x _) ?_;have h1:=hx.p;have h2:=hx.r 0 (by decide);have h3:=lG (x:=x) (leaf:=o);have h4:=fB (cN x o);have h6:=k9 (a:=aq (cN x o)) (b:=x.r 0);have h7:=lp 192 (((flat [aq (cN x o),x.r 0]).length:Nat):Int).toNat;refine⟨by omega,λa=> ?_,λa=> ?_⟩
 ·have e:dS x.p o=cN x false:=by rw[cN,a];rfl
  rw[e];exact⟨by omega,rfl,by omega,by omega,by omega,λE=>by rw[rA,cU,O];rfl⟩
 ·have e:[]=cN x false:=by rw[cN,a];rfl
  rw[e];exact⟨by omega,rfl,by omega,by omega,by omega,λE=>by rw[rA,cU,O];rfl⟩
theorem Gw {f g:Nat->f_}{tot:Nat}{ty:TypeId}(h: ∀ j,j<17->f j=g j):aa (.cells (zO f) tot ty) (.cells (zO g) tot ty):=by
 have e:zO f=zO g:=by unfold zO;rw[h 0 (by decide),h 1 (by decide),h 2 (by decide),h 3 (by decide),h 4 (by decide),h 5 (by decide),h 6 (by decide),h 7 (by decide),h 8 (by decide),h 9 (by decide),h 10 (by decide),h 11 (by decide),h 12 (by decide),h 13 (by decide),h 14 (by decide),h 15 (by decide),h 16 (by decide)]
 rw[e];exact aa.refl _
theorem UI {r:Nat->f_}(_hi:i<16)(h:r i≠[])(j:Nat):(if i=j then r i else bZ r i j)=bZ r (i+1) j:=by
 unfold bZ;by_cases e:i=j
 ·subst e;rw[r_ rfl,r_ (by omega),s_ h]
 ·rw[s_ e];by_cases e1:j<i
  ·rw[r_ e1,r_ (show j<i+1 by omega)]
  ·rw[s_ e1,s_ (show ¬ j<i+1 by omega)]
theorem UH {r:Nat->f_}(h:r i=[])(j:Nat):bZ r i j=bZ r (i+1) j:=by
 unfold bZ;by_cases e:i=j
 ·subst e;rw[s_ (by omega),r_ (by omega),r_ h]
 ·by_cases e1:j<i
  ·rw[r_ e1,r_ (show j<i+1 by omega)]
  ·rw[s_ e1,s_ (show ¬ j<i+1 by omega)]
theorem Qh {l:List f_}{m:Nat}(h: ∀ x∈ l,x.length<=m):(flat l).length<=l.length*m:=by
 induction l with
 | nil=>simp[flat]
 | cons a r ih =>
   have h1:=h a (List.mem_cons_self ..);have h2:=ih λx hx=>h x (List.mem_cons_of_mem _ hx);have e:(flat (a::r)).length=a.length+(flat r).length:=by simp[flat]
   rw[e,ag,Nat.succ_mul];omega
theorem ac1 (hx:x.rB)(i j:Nat)(h:j<16):(bZ x.r i j).length<=1000:=by
 have:=hx.r j h;unfold bZ;split
 ·split
  ·simp
  ·exact this
 ·simp
theorem yz (hx:x.rB):ay (eZ (UO x) 192 b6 [x.sv] (λv=>ah v (.str o (gj x)))):=by
 refine ay.mS (Jf x _) (by delta Bk Fk;exact rfl) ?_;dsimp only;refine⟨by omega,rfl,by omega,rfl,by omega,rfl,by omega,rfl,by omega,rfl,by omega,rfl,by omega,rfl,by omega,rfl,by omega,rfl,by omega,rfl,by omega,rfl,by omega,rfl,by omega,rfl,by omega,rfl,by omega,rfl,by omega,rfl,by omega,rfl,λR=>⟨⟨0,by omega,rfl,Sx.aa.cells (λE=>rfl) rfl,aa.refl _,aa.refl _,aa.refl _,aa.refl _,trivial⟩,λi hi=>⟨λa=> ?_,λa=> ?_⟩⟩⟩
 ·have a:=l_ a;have ei:i<16:=by omega
  have es:=uU x.r ei;rw[O,es];refine⟨by omega,λb=>⟨rfl,by omega,by omega,by omega,i+1,by omega,by omega,?_,aa.refl _,aa.refl _,aa.refl _,aa.refl _,trivial⟩,λb=>⟨by omega,i+1,by omega,by omega,?_,aa.refl _,aa.refl _,aa.refl _,aa.refl _,trivial⟩⟩
  ·have b: ¬ x.r i=[]:=by simpa using b
   exact Gw (f:=λj=>if i=j then x.r i else bZ x.r i j) (g:=bZ x.r (i+1)) λj hj=>UI ei b j
  ·have b:x.r i=[]:=by simpa using b
   exact Gw λj hj=>UH b j
 ·have a:=m_ a;have e:i=16:=by omega
  subst e;have h1:=hx.v;have h2:=fB x.v;have hb:=ac1 hx 16;have h6:(flat [bZ x.r 16 0,bZ x.r 16 1,bZ x.r 16 2,bZ x.r 16 3,bZ x.r 16 4,bZ x.r 16 5,bZ x.r 16 6,bZ x.r 16 7,bZ x.r 16 8,bZ x.r 16 9,bZ x.r 16 10,bZ x.r 16 11,bZ x.r 16 12,bZ x.r 16 13,bZ x.r 16 14,bZ x.r 16 15,aq x.v]).length<=17*2000:=by
   refine Qh (m:=2000) λy hy=> ?_;simp only[List.mem_cons,List.not_mem_nil,or_false] at hy;rcases hy with rfl | rfl | rfl | rfl | rfl | rfl | rfl | rfl | rfl | rfl | rfl | rfl | rfl | rfl | rfl | rfl | rfl
   ·exact J (hb 0 (by decide)) (by decide)
   ·exact J (hb 1 (by decide)) (by decide)
   ·exact J (hb 2 (by decide)) (by decide)
   ·exact J (hb 3 (by decide)) (by decide)
   ·exact J (hb 4 (by decide)) (by decide)
   ·exact J (hb 5 (by decide)) (by decide)
   ·exact J (hb 6 (by decide)) (by decide)
   ·exact J (hb 7 (by decide)) (by decide)
   ·exact J (hb 8 (by decide)) (by decide)
   ·exact J (hb 9 (by decide)) (by decide)
   ·exact J (hb 10 (by decide)) (by decide)
   ·exact J (hb 11 (by decide)) (by decide)
   ·exact J (hb 12 (by decide)) (by decide)
   ·exact J (hb 13 (by decide)) (by decide)
   ·exact J (hb 14 (by decide)) (by decide)
   ·exact J (hb 15 (by decide)) (by decide)
   ·omega
  have h7:=lp 192 (((flat [bZ x.r 16 0,bZ x.r 16 1,bZ x.r 16 2,bZ x.r 16 3,bZ x.r 16 4,bZ x.r 16 5,bZ x.r 16 6,bZ x.r 16 7,bZ x.r 16 8,bZ x.r 16 9,bZ x.r 16 10,bZ x.r 16 11,bZ x.r 16 12,bZ x.r 16 13,bZ x.r 16 14,bZ x.r 16 15,aq x.v]).length:Nat):Int).toNat;have e:gj x=cat (bA 192 (((flat [bZ x.r 16 0,bZ x.r 16 1,bZ x.r 16 2,bZ x.r 16 3,bZ x.r 16 4,bZ x.r 16 5,bZ x.r 16 6,bZ x.r 16 7,bZ x.r 16 8,bZ x.r 16 9,bZ x.r 16 10,bZ x.r 16 11,bZ x.r 16 12,bZ x.r 16 13,bZ x.r 16 14,bZ x.r 16 15,aq x.v]).length:Nat):Int).toNat) (flat [bZ x.r 16 0,bZ x.r 16 1,bZ x.r 16 2,bZ x.r 16 3,bZ x.r 16 4,bZ x.r 16 5,bZ x.r 16 6,bZ x.r 16 7,bZ x.r 16 8,bZ x.r 16 9,bZ x.r 16 10,bZ x.r 16 11,bZ x.r 16 12,bZ x.r 16 13,bZ x.r 16 14,bZ x.r 16 15,aq x.v]):=by rw[gj,cU,O];rfl
  generalize flat [bZ x.r 16 0,bZ x.r 16 1,bZ x.r 16 2,bZ x.r 16 3,bZ x.r 16 4,bZ x.r 16 5,bZ x.r 16 6,bZ x.r 16 7,bZ x.r 16 8,bZ x.r 16 9,bZ x.r 16 10,bZ x.r 16 11,bZ x.r 16 12,bZ x.r 16 13,bZ x.r 16 14,bZ x.r 16 15,aq x.v]=F at *;exact⟨by omega,rfl,by omega,by omega,by omega,λE=>by rw[e]⟩
theorem Lb:ax z 189 (bn (fG λ_=>I (True,.str o [128]))):=by refine je HM (n:=20) Tryz.func189 (by kernel_rfl) (by kernel_rfl) ?_;intro args p r h hp;obtain⟨x,hx,hg⟩:=mE h;subst hx;cases hg;exact⟨K4 x,rfl,ay.of_eq (Pb x _) ⟨by omega,λE=>rfl⟩⟩
theorem Kw:ax z 190 (bn (fG λx=>I (x.rB,.str o (ki x)))):=by refine je HM (n:=20) Tryz.func190 (by kernel_rfl) (by kernel_rfl) ?_;intro args p r h hp;obtain⟨x,hx,hg⟩:=mE h;subst hx;cases hg;exact⟨K4 x,rfl,CN hp⟩
theorem M7:ax z 191 (bn (fG λx=>I (x.rB,.str o (rA x)))):=by refine je HM (n:=20) Tryz.func191 (by kernel_rfl) (by kernel_rfl) ?_;intro args p r h hp;obtain⟨x,hx,hg⟩:=mE h;subst hx;cases hg;exact⟨K4 x,rfl,En hp⟩
theorem Eh:ax z 192 (bn (fG λx=>I (x.rB,.str o (gj x)))):=by refine fj (ee (n:=20) Tryz.func192 (by kernel_rfl) (by kernel_rfl) ?_);intro args p a h hp;obtain⟨⟨p0,v0⟩,hq,hpa⟩:=ct.1 h;obtain⟨x,hx,hg⟩:=mE hq;subst hx;cases hg;injection hpa with h1 h2;subst h1;subst h2;exact⟨_,adn x,K4 x,rfl,yz hp⟩
noncomputable def Ib:List (FuncId×PT):=(186,bn (fG λx=>I (True,.bool o (kg x))))::(189,bn (fG λ_=>I (True,.str o [128]))) ::
 (190,bn (fG λx=>I (x.rB,.str o (ki x))))::(191,bn (fG λx=>I (x.rB,.str o (rA x))))::(192,bn (fG λx=>I (x.rB,.str o (gj x))))::Ia
theorem yZ:bp z (λf=>aD f Ib):=.cons aaz (aS _) (.cons Lb (aS _) (.cons Kw (aS _) (.cons M7 (aS _) (.cons Eh (aS _) yY))))
noncomputable def wG:fD:={cv with cT:=λf=>aD f Ib}
theorem HN:Sx.Good z wG:=.of bR yZ bq
def aa4 (s:f_)(i:Nat):List SV:=[.int .i64 o 3,.str o [],.str o [],.str o (yh s i 0),.str o (yh s i 1),.str o (yh s i 2),.str o (yh s i 3),.str o (yh s i 4),.str o (yh s i 5),.str o (yh s i 6),.str o (yh s i 7),.str o (yh s i 8),.str o (yh s i 9),.str o (yh s i 10),.str o (yh s i 11),.str o (yh s i 12),.str o (yh s i 13),.str o (yh s i 14),.str o (yh s i 15)]
noncomputable def afp (s:f_):aY :=
 {α:=Nat,pre:=λ_ i=>i<=16,kH:=λ_ i=>16 - i,fresh:=0,slots:=λ_ i=>[(9,.int .i64 o i)],
  mem:=λst i=>match slot st.tmps 4 with
   | some (.ptr k _ _)=>[(k,.cells (aa4 (af s) i) 19 138)]
   | _=>[]}
noncomputable def U9 (s:f_):fD:={cv with cT:=λf=>aD f Ib,aW:=λf=>if f=200 then [(3,always (afp s))] else []}
theorem adO (s:f_):Sx.Good z (U9 s):=.of bR yZ bq
theorem aeY (s:f_):VC.holds (gT (U9 s) 167 an [.str o s] (XW s))=((λx:Nat->(Nat)->SV=>((λy:Nat->(Nat)->SV=>((λz:Nat->(Nat)->SV=>((λw:Nat->(Nat)->SV=>((λA:Nat->(Nat)->SV=>((λb:SV=>((λg:SB=>((λm:SV=>((λn:SV=>((λp:SV=>((λr:SV=>((λt:Nat->SV=>((λu:Nat->SV=>((λc:SV=>((λd:SV=>((λe:SV=>((λj:Nat->SB=>((λf:SV=>(((0:Nat)<(1152921504606846976:Nat)/\Fk (s=aq []) (Fk (aH s=0) (ah r f) (Fk (aH s=1) (ah r d) (Fk (aH s=2) (ah r e) (Fk (aH s=3) (ah r c) (∃(B:Nd),ah r (SV.aN [B.sv,SV.bool q o])))))) (s.length<9223372036854775808/\Bk (cw s) (Bk (!dn s) (Fk (aH s=0) (ah b f) (Fk (aH s=1) (ah b d) (Fk (aH s=2) (ah b e) (Fk (aH s=3) (ah b c) (∃(C:Nd),ah b (SV.aN [C.sv,SV.bool q o])))))) (Bk (!decide (aF s=[])) (Fk (aH s=0) (ah b f) (Fk (aH s=1) (ah b d) (Fk (aH s=2) (ah b e) (Fk (aH s=3) (ah b c) (∃(D:Nd),ah b (SV.aN [D.sv,SV.bool q o])))))) ((af s).length<1099511627776/\Bk (dD (af s)) (∀(h:Nat),aA (af s)<=h->Fk ((↑(aA (af s)):Int)=2) (((0:Int)<=(0:Int)/\0<(↑(aA (af s)):Int))/\0<aA (af s)/\((0:Int)<=(1:Int)/\1<(↑(aA (af s)):Int))/\1<aA (af s)/\(aj (af s) 0).length<9223372036854775808/\Bk (eo (aj (af s) 0)) ((af (aj (af s) 0)).length<1099511627776/\Bk (jN (af (aj (af s) 0))) (Bk (!eI (af (aj (af s) 0))) (Fk (aH s=0) (ah n f) (Fk (aH s=1) (ah n d) (Fk (aH s=2) (ah n e) (Fk (aH s=3) (ah n c) (∃(E:Nd),ah n (SV.aN [E.sv,SV.bool q o])))))) ((aj (af s) 1).length<9223372036854775808/\Bk (eo (aj (af s) 1)) (Fk (aH s=0) (ah m f) (Fk (aH s=1) (ah m d) (Fk (aH s=2) (ah m e) (Fk (aH s=3) (ah m c) (∃(F:Nd),ah m (SV.aN [F.sv,SV.bool q o])))))) (Fk (aH s=0) (ah p f) (Fk (aH s=1) (ah p d) (Fk (aH s=2) (ah p e) (Fk (aH s=3) (ah p c) (∃(G:Nd),ah p (SV.aN [G.sv,SV.bool q o])))))))) (Fk (aH s=0) (ah b f) (Fk (aH s=1) (ah b d) (Fk (aH s=2) (ah b e) (Fk (aH s=3) (ah b c) (∃(H:Nd),ah b (SV.aN [H.sv,SV.bool q o]))))))) (Fk (aH s=0) (ah b f) (Fk (aH s=1) (ah b d) (Fk (aH s=2) (ah b e) (Fk (aH s=3) (ah b c) (∃(J:Nd),ah b (SV.aN [J.sv,SV.bool q o]))))))) (Fk ((↑(aA (af s)):Int)=17) ((∃(v:Nat),v<=16/\0=(v:Int) /\aa (SB.cells (SV.int .i64 q 3::SV.str q []::SV.str q []::Jo) 19 138) (SB.cells (SV.int .i64 o 3::SV.str o []::SV.str o []::c9 (λi=>x i v) []) 19 138)/\aa g g/\aa (j h) (j h)/\aa g g/\True)/\∀(a:Nat),a<=16->Fk ((a:Int)<16) ((0<=(a:Int)/\(a:Int)<(↑(aA (af s)):Int))/\0+(a:Int).toNat<aA (af s)/\(0:Nat)<(1152921504606846976:Nat)/\I (j h)=I (j h)/\Bk (!decide (aj (af s) (0+(a:Int).toNat)=aq [])) ((0<=(a:Int)/\(a:Int)<(↑(aA (af s)):Int))/\0+(a:Int).toNat<aA (af s)/\(0<=(a:Int)/\(a:Int)<16)/\(a:Int).toNat<16/\I6 ((a:Int)+1) /\∃(k:Nat),(k<=16/\16 - k<16 - a)/\(a:Int)+1=(k:Int)/\aa (SB.cells (SV.int .i64 o 3::SV.str o []::SV.str o []::c9 (λi=>y i a) []) 19 138) (SB.cells (SV.int .i64 o 3::SV.str o []::SV.str o []::c9 (λi=>z i k) []) 19 138)/\aa g g/\aa (j h) (j h)/\aa g g/\True) (I6 ((a:Int)+1)/\∃(l:Nat),(l<=16/\16 - l<16 - a)/\(a:Int)+1=(l:Int) /\aa (SB.cells (SV.int .i64 o 3::SV.str o []::SV.str o []::c9 (λi=>w i a) []) 19 138) (SB.cells (SV.int .i64 o 3::SV.str o []::SV.str o []::c9 (λi=>A i l) []) 19 138)/\aa g g/\aa (j h) (j h)/\aa g g/\True)) (((0:Int)<=(16:Int)/\16<(↑(aA (af s)):Int))/\16<aA (af s)/\(aj (af s) 16).length<9223372036854775808/\Bk (eo (aj (af s) 16)) (Fk (aH s=0) (ah (t a) f) (Fk (aH s=1) (ah (t a) d) (Fk (aH s=2) (ah (t a) e) (Fk (aH s=3) (ah (t a) c) (∃(K:Nd),ah (t a) (SV.aN [K.sv,SV.bool q o])))))) (Fk (aH s=0) (ah (u a) f) (Fk (aH s=1) (ah (u a) d) (Fk (aH s=2) (ah (u a) e) (Fk (aH s=3) (ah (u a) c) (∃(L:Nd),ah (u a) (SV.aN [L.sv,SV.bool q o])))))))) (Fk (aH s=0) (ah b f) (Fk (aH s=1) (ah b d) (Fk (aH s=2) (ah b e) (Fk (aH s=3) (ah b c) (∃(M:Nd),ah b (SV.aN [M.sv,SV.bool q o])))))))) (Fk (aH s=0) (ah b f) (Fk (aH s=1) (ah b d) (Fk (aH s=2) (ah b e) (Fk (aH s=3) (ah b c) (∃(N:Nd),ah b (SV.aN [N.sv,SV.bool q o]))))))))) (Fk (aH s=0) (ah b f) (Fk (aH s=1) (ah b d) (Fk (aH s=2) (ah b e) (Fk (aH s=3) (ah b c) (∃(O:Nd),ah b (SV.aN [O.sv,SV.bool q o])))))))))) (SV.aN [dc,SV.bool q q]))) (fun(h:Nat)=>(SB.rows q (aA (af s)) [av.str (aj (af s))] o h 9)))) (SV.aN [(uT s).zR q 2,SV.bool q q]))) (SV.aN [(oh s).zR q 1,SV.bool q q]))) (SV.aN [(i5 s).zR q 3,SV.bool q q]))) (fun(a:Nat)=>(SV.aN [SV.agg (SV.int .i64 o 3::SV.str o []::SV.str q []::c9 (λi=>w i a) []),SV.bool q o])))) (fun(a:Nat)=>(SV.aN [SV.agg (SV.int .i64 o 3::SV.str o []::(SV.str o (af (aj (af s) 16)))::c9 (λi=>w i a) []),SV.bool q q])))) (SV.aN [SV.agg (SV.int .i64 q 0::SV.str q []::SV.str q []::Jo),SV.bool q q]))) (SV.aN [SV.agg (SV.int .i64 q 1::SV.str o (eU (af (aj (af s) 0)))::SV.str q []::Jo),SV.bool q o]))) (SV.aN [SV.agg (SV.int .i64 q 2::(SV.str o (eU (af (aj (af s) 0))))::SV.str q []::(av.at 1 (av.str (aj (af s))))::K15 (λ_=>SV.str q []) []),SV.bool q q]))) (SV.aN [SV.agg (SV.int .i64 q 1::SV.str o (eU (af (aj (af s) 0)))::SV.str o (af (aj (af s) 1))::Jo),SV.bool q q]))) (SB.cells (SV.agg (SV.int .i64 q 0::SV.str q []::SV.str q []::Jo)).cells 19 138))) (SV.aN [SV.agg (SV.int .i64 q 0::SV.str q []::SV.str q []::Jo),SV.bool q o]))) (fun(n0:Nat) (l:Nat)=>SV.str o (yh (af s) l n0)))) (fun(n0:Nat) (a:Nat)=>SV.str o (yh (af s) a n0)))) (fun(n0:Nat) (k:Nat)=>SV.str o (yh (af s) k n0)))) (fun(n0:Nat) (a:Nat)=>SV.str o (if(a:Int).toNat=n0 then aj (af s) (0+(a:Int).toNat)else yh (af s) a n0)))) (fun(n0:Nat) (v:Nat)=>SV.str o (yh (af s) v n0))):=by kernel_rfl
def Uo (k:Int)(A B C D E:Prop):Prop:=(G (k=0)=q->A)/\(G (k=0)=o->(G (k=1)=q->B)/\(G (k=1)=o->(G (k=2)=q->C)/\(G (k=2)=o->(G (k=3)=q->D)/\(G (k=3)=o->E))))
theorem ags (h:k=0)(a:A):Uo k A B C D E:=by subst h;exact⟨λ_=>a,λh=>absurd h (by decide)⟩
theorem agt (h:k=1)(a:B):Uo k A B C D E:=by subst h;exact⟨λh=>absurd h (by decide),λ_=>⟨λ_=>a,λh=>absurd h (by decide)⟩⟩
theorem agu (h:k=2)(a:C):Uo k A B C D E:=by subst h;exact⟨λh=>absurd h (by decide),λ_=>⟨λh=>absurd h (by decide),λ_=>⟨λ_=>a,λh=>absurd h (by decide)⟩⟩⟩
theorem agv (h:k=3)(a:D):Uo k A B C D E:=by subst h;exact⟨λh=>absurd h (by decide),λ_=>⟨λh=>absurd h (by decide),λ_=>⟨λh=>absurd h (by decide),λ_=>⟨λ_=>a,λh=>absurd h (by decide)⟩⟩⟩⟩
theorem HC (h:k= -1)(a:E):Uo k A B C D E:=by subst h;exact⟨λh=>absurd h (by decide),λ_=>⟨λh=>absurd h (by decide),λ_=>⟨λh=>absurd h (by decide),λ_=>⟨λh=>absurd h (by decide),λ_=>a⟩⟩⟩⟩
theorem XT {f g:Nat->f_}{tot:Nat}{ty:TypeId}(h: ∀ j,j<16->f j=g j):aa (.cells [.int .i64 o 3,.str o [],.str o [],.str o (f 0),.str o (f 1),.str o (f 2),.str o (f 3),.str o (f 4),.str o (f 5),.str o (f 6),.str o (f 7),.str o (f 8),.str o (f 9),.str o (f 10),.str o (f 11),.str o (f 12),.str o (f 13),.str o (f 14),.str o (f 15)] tot ty) (.cells [.int .i64 o 3,.str o [],.str o [],.str o (g 0),.str o (g 1),.str o (g 2),.str o (g 3),.str o (g 4),.str o (g 5),.str o (g 6),.str o (g 7),.str o (g 8),.str o (g 9),.str o (g 10),.str o (g 11),.str o (g 12),.str o (g 13),.str o (g 14),.str o (g 15)] tot ty):=by rw[h 0 (by decide),h 1 (by decide),h 2 (by decide),h 3 (by decide),h 4 (by decide),h 5 (by decide),h 6 (by decide),h 7 (by decide),h 8 (by decide),h 9 (by decide),h 10 (by decide),h 11 (by decide),h 12 (by decide),h 13 (by decide),h 14 (by decide),h 15 (by decide)];exact aa.refl _
theorem XV (h:aj t i≠[128])(j:Nat):(if i=j then aj t i else yh t i j)=yh t (i+1) j:=by
 unfold yh;by_cases e:i=j
 ·subst e;rw[r_ rfl,r_ (show i<i+1 by omega),cS,s_ h]
 ·rw[s_ e];by_cases e1:j<i
  ·rw[r_ e1,r_ (show j<i+1 by omega)]
  ·rw[s_ e1,s_ (show ¬ j<i+1 by omega)]
theorem XU (h:aj t i=[128])(j:Nat):yh t i j=yh t (i+1) j:=by
 unfold yh;by_cases e:i=j
 ·subst e;rw[s_ (show ¬ i<i by omega),r_ (show i<i+1 by omega),cS,r_ h]
 ·by_cases e1:j<i
  ·rw[r_ e1,r_ (show j<i+1 by omega)]
  ·rw[s_ e1,s_ (show ¬ j<i+1 by omega)]
attribute [local irreducible] aj aA dD af cw aF dn eo jN eI eU
theorem Ox (hs:s.length<1099511627776):ay (gT (U9 s) 167 an [.str o s] (XW s)):=by
 refine ay.mS (aeY s) (by delta Bk Fk;exact rfl) ?_
 try dsimp only
 have hin:=oM s;have hit:=tJ (af s);have hin2:=λk=>oM (aj (af s) k);refine⟨by omega,λa=>ags ?_ (λ_=>rfl),λa=>⟨by omega,λb=>⟨λc=>HC ?_ ⟨e9,λ_=>rfl⟩,λc=>⟨λd=>HC ?_ ⟨e9,λ_=>rfl⟩,λd=>⟨by omega,λe=>λcap hcap=>⟨λf=> ?_,λf=>⟨λg=> ?_,λg=>HC ?_ ⟨e9,λ_=>rfl⟩⟩⟩,λe=>HC ?_ ⟨e9,λ_=>rfl⟩⟩⟩⟩,λb=>HC ?_ ⟨e9,λ_=>rfl⟩⟩⟩
 ·have a:s=[128]:=l_ a;rw[aH,r_ a]
 ·have a: ¬ s=[128]:=m_ a;have c:dn s=false:=by simpa using c
  rw[aH,s_ a,b,c];rfl
 ·have a: ¬ s=[128]:=m_ a;have c:dn s=true:=by simpa using c
  have d:G (aF s=[])=false:=by simpa using d
  rw[aH,s_ a,b,c,d];rfl
 ·have a: ¬ s=[128]:=m_ a;have c:dn s=true:=by simpa using c
  have d:G (aF s=[])=true:=by simpa using d
  have f:=l_ f;have f:aA (af s)=2:=by omega
  have hk:aH s=o9 (af s):=by rw[aH,s_ a,b,c,d,q9,e,r_ f];rfl
  have i0:=hit 0;have i1:=hit 1;have i2:=hin2 0;refine⟨by omega,by omega,by omega,by omega,by omega,λg=>⟨by omega,λh=>⟨λk=>agu ?_ (λ_=>rfl),λk=>⟨by omega,λl=>agt ?_ (λ_=>rfl),λl=>HC ?_ ⟨⟨1,eU (af (aj (af s) 0)),[],bJ⟩,λ_=>rfl⟩⟩⟩,λh=>HC ?_ ⟨e9,λ_=>rfl⟩⟩,λg=>HC ?_ ⟨e9,λ_=>rfl⟩⟩
  ·have k:eI (af (aj (af s) 0))=false:=by simpa using k
   rw[hk,o9,g,h,k];rfl
  ·have k:eI (af (aj (af s) 0))=true:=by simpa using k
   rw[hk,o9,g,h,k,l];rfl
  ·have k:eI (af (aj (af s) 0))=true:=by simpa using k
   rw[hk,o9,g,h,k,l];rfl
  ·rw[hk,o9,g,h];rfl
  ·rw[hk,o9,g];rfl
 ·have a: ¬ s=[128]:=m_ a;have c:dn s=true:=by simpa using c
  have d:G (aF s=[])=true:=by simpa using d
  have f:=m_ f;have f: ¬ aA (af s)=2:=by omega
  have g:=l_ g;have g:aA (af s)=17:=by omega
  have hk:aH s=bif eo (aj (af s) 16)then 3 else -1:=by rw[aH,s_ a,b,c,d,q9,e,s_ f,r_ g];rfl
  have i16:=hit 16;refine⟨⟨0,by omega,rfl,Sx.aa.cells (λE=>rfl) rfl,aa.refl _,aa.refl _,aa.refl _,trivial⟩,λi hi=>⟨λh=> ?_,λh=> ?_⟩⟩
  ·have h:=l_ h;rw[O,Nat.zero_add];refine⟨by omega,by omega,by omega,rfl,λk=>⟨by omega,by omega,by omega,by omega,by omega,i+1,by omega,by omega,?_,aa.refl _,aa.refl _,aa.refl _,trivial⟩,λk=>⟨by omega,i+1,by omega,by omega,?_,aa.refl _,aa.refl _,aa.refl _,trivial⟩⟩
   ·have k: ¬ aj (af s) i=[128]:=by
     have:G (aj (af s) i=aq [])=false:=by simpa using k
     exact m_ this
    exact XT (f:=λj=>if i=j then aj (af s) i else yh (af s) i j) λj _=>XV k j
   ·have k:aj (af s) i=[128]:=by
     have:G (aj (af s) i=aq [])=true:=by simpa using k
     exact l_ this
    exact XT λj _=>XU k j
  ·have h:=m_ h;have ei:i=16:=by omega
   subst ei;refine⟨by omega,by omega,by omega,λk=>agv ?_ (λ_=>rfl),λk=>HC ?_ ⟨⟨3,[],[],dK (cS (af s))⟩,λ_=>rfl⟩⟩
   ·rw[hk,k];rfl
   ·rw[hk,k];rfl
 ·have a: ¬ s=[128]:=m_ a;have c:dn s=true:=by simpa using c
  have d:G (aF s=[])=true:=by simpa using d
  have f:=m_ f;have f: ¬ aA (af s)=2:=by omega
  have g:=m_ g;have g: ¬ aA (af s)=17:=by omega
  rw[aH,s_ a,b,c,d,q9,e,s_ f,s_ g];rfl
 ·have a: ¬ s=[128]:=m_ a;have c:dn s=true:=by simpa using c
  have d:G (aF s=[])=true:=by simpa using d
  rw[aH,s_ a,b,c,d,q9,e];rfl
 ·have a: ¬ s=[128]:=m_ a;rw[aH,s_ a,b];rfl
def Dv:List SV->Option (Prop×cK)
 | [.str o s]=>I (s.length<1099511627776,XW s)
 | _=>K
theorem aa5:ax z 167 (bY Dv):=by
 refine ee (n:=20) Tryz.func167 (by kernel_rfl) (by kernel_rfl) ?_;intro args p a h hp;unfold Dv at h;split at h
 ·rename_i s;cases h;refine⟨_,adO s,rfl,λb=> ?_,Ox hp⟩;cases b with
  | true=>exact rfl
  | false =>
    intro b;cases b with
    | true=>exact rfl
    | false =>
      intro b;cases b with
      | true=>exact rfl
      | false =>
        intro b;cases b with
        | true=>exact rfl
        | false=>exact λx=>rfl
 ·cases h
end
section
open Go Sx
set_option maxRecDepth 20000
noncomputable def y5:List (FuncId×PT):=(167,bY Dv)::Ib
theorem oX:bp z (λf=>aD f y5):=.cons aa5 (bO _) yZ
def Rel (L:Nat)(t:f_):Prop:=(t.length<L∨32<=t.length)/\t.length<9223372036854775808
def ad1 (t:f_):cK:=.fork (bH t) λb=>match b with
 | true=>.ret (.aN [(getD t).sv,.bool q q])
 | false=>.ret (.aN [dc,.bool q o])
def mb (L:Nat):List SV->Option (Prop×cK)
 | [.str o t]=>I (Rel L t,ad1 t)
 | _=>K
noncomputable def NH (L:Nat):List (FuncId×PT):=(155,bY (mb L))::y5
noncomputable def UW (L:Nat):fD:={cv with cT:=λf=>aD f (NH L)}
noncomputable def afl (x:Nd):aY :=
 {α:=Nat,pre:=λ_ i=>i<=16/\j6 bH x.r i=q,kH:=λ_ i=>16 - i,fresh:=0,slots:=λ_ i=>[(7,.int .i64 o i)],
  mem:=λ_ i=>[(2,.cells [.int .i64 o (min (x.v.length:Int) 1+dI x.r i)] 1 3)]}
noncomputable def UQ (L:Nat)(x:Nd):fD:={cv with cT:=λf=>aD f (NH L),aW:=λf=>if f=201 then [(1,always (afl x))] else []}
def pS (L:Nat)(r:Nat->f_):Prop:=∀ j,j<16->Rel L (r j)
noncomputable def WO (L:Nat):List (FuncId×PT):=(187,bn (fG λx=>I (Rel L (x.r 0),.bool o (nB bH x))))::(188,bn (fG λx=>I (pS L x.r,.bool o (dX bH x))))::y5
noncomputable def rQ (L:Nat):fD:={cv with cT:=λf=>aD f (WO L)}
noncomputable def NI (L:Nat):List (FuncId×PT):=(152,bn (fG λx=>I (pS L x.r,.bool o (aZ x))))::(153,bn (fG λx=>I ((0<=x.k/\x.k<=3)/\x.rB,.str o (cZ x))))::y5
noncomputable def UX (L:Nat):fD:={cv with cT:=λf=>aD f (NI L)}
def VS (s:f_):cK:=.fork (bG s) λb=>match b with
 | true=>.ret (.aN [(getD s).sv,.int .i64 q 0])
 | false=>.ret (.aN [dc,.int .i64 q 2])
def wS (L:Nat):List SV->Option (Prop×cK)
 | [.str o s]=>I (s.length<=L/\s.length<1099511627776,VS s)
 | _=>K
noncomputable def abV (L:Nat):fD:={cv with cT:=λf=>aD f ((127,bY (wS L))::y5)}
noncomputable def U2:fD:={cv with cT:=λf=>aD f ((127,λ_ _ _ _=>.fail "not to be called")::y5)}
theorem adG:Sx.Good z U2:=.of bR (bp.cons (λ_ _ _ _ h=>h.elim) (λ_ _ _ _ _ _ h=>h) oX) bq
theorem abE (x:Nd)(R:SV->Prop):VC.holds (eZ wG 153 Y [x.zR q 0] R)=((True/\R (SV.str o [(128:UInt8)]))):=by kernel_rfl
theorem abF (x:Nd)(R:SV->Prop):VC.holds (eZ wG 153 Y [x.zR q 1] R)=(({k:=(1:Int),p:=x.p,v:=x.v,r:=fun(a:Nat)=>(c9 x.r []).getD a []:Nd}.rB/\R (SV.str o (ki {k:=(1:Int),p:=x.p,v:=x.v,r:=fun(b:Nat)=>(c9 x.r []).getD b []:Nd})))):=by kernel_rfl
theorem abG (x:Nd)(R:SV->Prop):VC.holds (eZ wG 153 Y [x.zR q 2] R)=(({k:=(2:Int),p:=x.p,v:=x.v,r:=fun(a:Nat)=>(c9 x.r []).getD a []:Nd}.rB/\R (SV.str o (rA {k:=(2:Int),p:=x.p,v:=x.v,r:=fun(b:Nat)=>(c9 x.r []).getD b []:Nd})))):=by kernel_rfl
theorem abH (x:Nd)(R:SV->Prop):VC.holds (eZ wG 153 Y [x.zR q 3] R)=(({k:=(3:Int),p:=x.p,v:=x.v,r:=fun(a:Nat)=>(c9 x.r []).getD a []:Nd}.rB/\R (SV.str o (gj {k:=(3:Int),p:=x.p,v:=x.v,r:=fun(b:Nat)=>(c9 x.r []).getD b []:Nd})))):=by kernel_rfl
theorem af6 (L:Nat)(x:Nd)(R:SV->Prop):VC.holds (eZ (UW L) 187 Tryz.f187 [x.sv] R)=((True/\((!iB {k:=x.k,p:=x.p,v:=x.v,r:=fun(a:Nat)=>(c9 x.r []).getD a []:Nd} (1:Int))=q->R (SV.bool q o))/\((!iB {k:=x.k,p:=x.p,v:=x.v,r:=fun(b:Nat)=>(c9 x.r []).getD b []:Nd} (1:Int))=o->Bk (!decide (x.v=[])) (R (SV.bool q o)) (True/\((!decide (cF (fun(c:Nat)=>(c9 x.r []).getD c []) 16=(1:Int)))=q->R (SV.bool q o))/\((!decide (cF (fun(d:Nat)=>(c9 x.r []).getD d []) 16=(1:Int)))=o->(x.r 0).length<9223372036854775808/\Bk (bw (x.r 0)) (R (SV.bool q q)) (Rel L (x.r 0)/\Bk (bH (x.r 0)) (R (SV.bool (o&&q) (G ((getD (x.r 0)).k=3)))) (R (SV.bool q o)))))))):=by kernel_rfl
theorem YG (L:Nat)(x:Nd)(R:SV->Prop):VC.holds (eZ (UQ L x) 188 Tryz.f188 [x.sv] R)=((λi:Nat->SV=>((λc:SB=>((λd:SB=>((Bk (!decide (x.p=[])) (R (SV.bool q o)) (Fk (80<(x.v.length:Int)) (R (SV.bool q o)) (∀(b:Loop),(∃(h:Nat),(h<=16/\j6 bH x.r h=q)/\0=(h:Int)/\aa (SB.cells [SV.int .i64 (o&&q) (min (x.v.length:Int) 1)] 1 3) (SB.cells [SV.int .i64 o (min (x.v.length:Int) 1+dI x.r h)] 1 3)/\aa (SB.loop M K b) (SB.loop M K b)/\aa c c/\aa d d/\aa (SB.cells x.sv.cells 19 238) (SB.cells x.sv.cells 19 238)/\True)/\∀(a:Nat),a<=16/\j6 bH x.r a=q->Fk ((a:Int)<16) ((0<=(a:Int)/\(a:Int)<16/\(a:Int)<(↑(16:Nat):Int))/\Bk (!decide (ck (c9 x.r []) (a:Int).toNat=[])) (b=b/\(ck (c9 x.r []) (a:Int).toNat).length<9223372036854775808 /\Bk (bw (ck (c9 x.r []) (a:Int).toNat)) (I6 (min (x.v.length:Int) 1+dI x.r a+1)/\I6 ((a:Int)+1)/\∃(e:Nat),((e<=16/\j6 bH x.r e=q)/\16 - e<16 - a)/\(a:Int)+1=(e:Int)/\aa (SB.cells [SV.int .i64 o (min (x.v.length:Int) 1+dI x.r a+1)] 1 3) (SB.cells [SV.int .i64 o (min (x.v.length:Int) 1+dI x.r e)] 1 3)/\aa (SB.loop M K b) (SB.loop M K b)/\aa c c/\aa d d/\aa (SB.cells x.sv.cells 19 238) (SB.cells x.sv.cells 19 238)/\True) (Rel L (ck (c9 x.r []) (a:Int).toNat) /\Bk (bH (ck (c9 x.r []) (a:Int).toNat)) (I6 (min (x.v.length:Int) 1+dI x.r a+1)/\I6 ((a:Int)+1)/\∃(f:Nat),((f<=16/\j6 bH x.r f=q)/\16 - f<16 - a)/\(a:Int)+1=(f:Int)/\aa (SB.cells [SV.int .i64 o (min (x.v.length:Int) 1+dI x.r a+1)] 1 3) (SB.cells [SV.int .i64 o (min (x.v.length:Int) 1+dI x.r f)] 1 3)/\aa (SB.loop M K b) (SB.loop M K b)/\aa c c/\aa d d/\aa (SB.cells x.sv.cells 19 238) (SB.cells x.sv.cells 19 238)/\True) (R (SV.bool q o)))) (I6 ((a:Int)+1)/\∃(g:Nat),((g<=16/\j6 bH x.r g=q)/\16 - g<16 - a)/\(a:Int)+1=(g:Int)/\aa (SB.cells [SV.int .i64 o (min (x.v.length:Int) 1+dI x.r a)] 1 3) (SB.cells [SV.int .i64 o (min (x.v.length:Int) 1+dI x.r g)] 1 3)/\aa (SB.loop M K b) (SB.loop M K b)/\aa c c/\aa d d/\aa (SB.cells x.sv.cells 19 238) (SB.cells x.sv.cells 19 238)/\True)) (R (SV.bool (o&&q) (G (2<=min (x.v.length:Int) 1+dI x.r a))))))))) (SB.cells (SV.bool q o).cells 1 4))) (SB.cells (SV.agg (SV.int .i64 o x.k::SV.str o x.p::SV.str o x.v::c9 i [])).cells 19 238))) (fun(n0:Nat)=>SV.str o (x.r n0))):=by kernel_rfl
theorem Y3 (L:Nat)(x:Nd)(R:SV->Prop):VC.holds (eZ (rQ L) 152 S [x.zR q 0] R)=((True/\R (SV.bool o (ri {k:=(0:Int),p:=x.p,v:=x.v,r:=fun(u0:Nat)=>(c9 x.r []).getD u0 []:Nd})))):=by kernel_rfl
theorem Y4 (L:Nat)(x:Nd)(R:SV->Prop):VC.holds (eZ (rQ L) 152 S [x.zR q 1] R)=((True/\R (SV.bool o (kg {k:=(1:Int),p:=x.p,v:=x.v,r:=fun(u0:Nat)=>(c9 x.r []).getD u0 []:Nd})))):=by kernel_rfl
theorem Y5 (L:Nat)(x:Nd)(R:SV->Prop):VC.holds (eZ (rQ L) 152 S [x.zR q 2] R)=((Rel L ((c9 x.r []).getD 0 [])/\R (SV.bool o (nB bH {k:=(2:Int),p:=x.p,v:=x.v,r:=fun(u0:Nat)=>(c9 x.r []).getD u0 []:Nd})))):=by kernel_rfl
theorem Y6 (L:Nat)(x:Nd)(R:SV->Prop):VC.holds (eZ (rQ L) 152 S [x.zR q 3] R)=(((pS L fun(a:Nat)=>(c9 x.r []).getD a [])/\R (SV.bool o (dX bH {k:=(3:Int),p:=x.p,v:=x.v,r:=fun(b:Nat)=>(c9 x.r []).getD b []:Nd})))):=by kernel_rfl
theorem Y7 (L:Nat)(x:Nd)(R:SV->Prop):VC.holds (eZ (rQ L) 152 S [x.sv] R)=((Fk (x.k<0) (R (SV.bool q o)) (Fk (3<x.k) (R (SV.bool q o)) ((0<=x.k/\x.k<4)/\False)))):=by kernel_rfl
theorem TX (L:Nat)(s:f_):VC.holds (gT (UX L) 127 a! [.str o s] (VS s))=((λe:Nat->SV=>((λf:Nat->SV=>((λg:Nat->SV=>((λa:SV=>((λc:SV=>((λd:SV=>((λh:SV=>((λb:f_=>((s.length<1099511627776/\Fk (aH s=0) ((pS L fun(j:Nat)=>(c9 (λ_=>[]) []).getD j [])/\((!aZ {k:=(0:Int),p:=[],v:=[],r:=fun(l:Nat)=>(c9 (λ_=>[]) []).getD l []:Nd})=q->Bk (bG s) (ah a c) (ah a d))/\((!aZ {k:=(0:Int),p:=[],v:=[],r:=fun(m:Nat)=>(c9 (λ_=>[]) []).getD m []:Nd})=o->(((0:Int)<=(0:Int)/\(0:Int)<=(3:Int))/\{k:=(0:Int),p:=[],v:=[],r:=fun(n:Nat)=>(c9 (λ_=>[]) []).getD n []:Nd}.rB)/\((!decide (cZ {k:=(0:Int),p:=[],v:=[],r:=fun(t:Nat)=>(c9 (λ_=>[]) []).getD t []:Nd}=s))=q->Bk (bG s) (ah a c) (ah a d))/\((!decide (cZ {k:=(0:Int),p:=[],v:=[],r:=fun(u:Nat)=>(c9 (λ_=>[]) []).getD u []:Nd}=s))=o ->Bk (bG s) (ah h c) (ah h d)))) (Fk (aH s=1) ((pS L fun(w:Nat)=>(c9 bJ []).getD w [])/\((!aZ {k:=(1:Int),p:=eU b,v:=af (aj (af s) 1),r:=fun(x:Nat)=>(c9 bJ []).getD x []:Nd})=q->Bk (bG s) (ah a c) (ah a d))/\((!aZ {k:=(1:Int),p:=eU b,v:=af (aj (af s) 1),r:=fun(y:Nat)=>(c9 bJ []).getD y []:Nd})=o->(((0:Int)<=(1:Int)/\(1:Int)<=(3:Int)) /\{k:=(1:Int),p:=eU b,v:=af (aj (af s) 1),r:=fun(z:Nat)=>(c9 bJ []).getD z []:Nd}.rB)/\((!decide (cZ {k:=(1:Int),p:=eU b,v:=af (aj (af s) 1),r:=fun(A:Nat)=>(c9 bJ []).getD A []:Nd}=s))=q->Bk (bG s) (ah a c) (ah a d))/\((!decide (cZ {k:=(1:Int),p:=eU b,v:=af (aj (af s) 1),r:=fun(B:Nat)=>(c9 bJ []).getD B []:Nd}=s))=o->Bk (bG s) (ah (SV.aN [SV.agg (SV.int .i64 q 1::(SV.str o (eU b))::(SV.str o (af (aj (af s) 1)))::c9 e []),SV.int .i64 q 0]) c) (ah (SV.aN [SV.agg (SV.int .i64 q 1::(SV.str o (eU b))::(SV.str o (af (aj (af s) 1)))::c9 e []),SV.int .i64 q 0]) d)))) (Fk (aH s=2) ((pS L fun(C:Nat)=>(c9 (λi=>bN (aj (af s) 1) i) []).getD C []) /\((!aZ {k:=(2:Int),p:=eU b,v:=[],r:=fun(D:Nat)=>(c9 (λi=>bN (aj (af s) 1) i) []).getD D []:Nd})=q->Bk (bG s) (ah a c) (ah a d)) /\((!aZ {k:=(2:Int),p:=eU b,v:=[],r:=fun(E:Nat)=>(c9 (λi=>bN (aj (af s) 1) i) []).getD E []:Nd})=o->(((0:Int)<=(2:Int)/\(2:Int)<=(3:Int)) /\{k:=(2:Int),p:=eU b,v:=[],r:=fun(F:Nat)=>(c9 (λi=>bN (aj (af s) 1) i) []).getD F []:Nd}.rB) /\((!decide (cZ {k:=(2:Int),p:=eU b,v:=[],r:=fun(G:Nat)=>(c9 (λi=>bN (aj (af s) 1) i) []).getD G []:Nd}=s))=q->Bk (bG s) (ah a c) (ah a d)) /\((!decide (cZ {k:=(2:Int),p:=eU b,v:=[],r:=fun(H:Nat)=>(c9 (λi=>bN (aj (af s) 1) i) []).getD H []:Nd}=s))=o->Bk (bG s) (ah (SV.aN [SV.agg (SV.int .i64 q 2::(SV.str o (eU b))::SV.str o []::c9 f []),SV.int .i64 q 0]) c) (ah (SV.aN [SV.agg (SV.int .i64 q 2::(SV.str o (eU b))::SV.str o []::c9 f []),SV.int .i64 q 0]) d)))) (Fk (aH s=3) ((pS L fun(I:Nat)=>(c9 (λi=>dK (cS (af s)) i) []).getD I [])/\((!aZ {k:=(3:Int),p:=[],v:=af (aj (af s) 16),r:=fun(J:Nat)=>(c9 (λi=>dK (cS (af s)) i) []).getD J []:Nd})=q->Bk (bG s) (ah a c) (ah a d)) /\((!aZ {k:=(3:Int),p:=[],v:=af (aj (af s) 16),r:=fun(K:Nat)=>(c9 (λi=>dK (cS (af s)) i) []).getD K []:Nd})=o->(((0:Int)<=(3:Int)/\(3:Int)<=(3:Int))/\{k:=(3:Int),p:=[],v:=af (aj (af s) 16),r:=fun(M:Nat)=>(c9 (λi=>dK (cS (af s)) i) []).getD M []:Nd}.rB) /\((!decide (cZ {k:=(3:Int),p:=[],v:=af (aj (af s) 16),r:=fun(N:Nat)=>(c9 (λi=>dK (cS (af s)) i) []).getD N []:Nd}=s))=q->Bk (bG s) (ah a c) (ah a d))/\((!decide (cZ {k:=(3:Int),p:=[],v:=af (aj (af s) 16),r:=fun(O:Nat)=>(c9 (λi=>dK (cS (af s)) i) []).getD O []:Nd}=s))=o ->Bk (bG s) (ah (SV.aN [SV.agg (SV.int .i64 q 3::SV.str o []::(SV.str o (af (aj (af s) 16)))::c9 g []),SV.int .i64 q 0]) c) (ah (SV.aN [SV.agg (SV.int .i64 q 3::SV.str o []::(SV.str o (af (aj (af s) 16)))::c9 g []),SV.int .i64 q 0]) d)))) (∀(_:Nd),Bk (bG s) (ah a c) (ah a d)))))))) (af (aj (af s) 0)))) (SV.aN [SV.agg (SV.int .i64 q 0::SV.str q []::SV.str q []::Jo),SV.int .i64 q 0]))) (SV.aN [dc,SV.int .i64 q 2]))) (SV.aN [(getD s).sv,SV.int .i64 q 0]))) (SV.aN [SV.agg (SV.int .i64 q 0::SV.str q []::SV.str q []::Jo),SV.int .i64 q 2]))) (fun(n0:Nat)=>SV.str o (dK (cS (af s)) n0)))) (fun(n0:Nat)=>SV.str o (bN (aj (af s) 1) n0)))) (fun(n0:Nat)=>SV.str o (bJ n0))):=by kernel_rfl
theorem YL (L:Nat)(t:f_):VC.holds (gT (abV L) 155 Z [.str o t] (ad1 t))=((λb:Nat->SV=>((λa:SV=>((Fk (32<=(t.length:Int)) (Bk (bH t) (ah a (SV.aN [(getD t).sv,SV.bool q q])) (ah a (SV.aN [dc,SV.bool q o]))) ((t.length<=L/\t.length<1099511627776)/\Bk (bG t) (Fk ((getD t).k=0) (Bk (bH t) (ah a (SV.aN [(getD t).sv,SV.bool q q])) (ah a (SV.aN [dc,SV.bool q o]))) (Bk (bH t) (ah (SV.aN [SV.agg ((SV.int .i64 o (getD t).k)::(SV.str o (getD t).p)::(SV.str o (getD t).v)::c9 b []),SV.bool q q]) (SV.aN [(getD t).sv,SV.bool q q])) (ah (SV.aN [SV.agg ((SV.int .i64 o (getD t).k)::(SV.str o (getD t).p)::(SV.str o (getD t).v)::c9 b []),SV.bool q q]) (SV.aN [dc,SV.bool q o])))) (Bk (bH t) (ah a (SV.aN [(getD t).sv,SV.bool q q])) (ah a (SV.aN [dc,SV.bool q o]))))))) (SV.aN [SV.agg (SV.int .i64 q 0::SV.str q []::SV.str q []::Jo),SV.bool q o]))) (fun(n0:Nat)=>SV.str o ((getD t).r n0))):=by kernel_rfl
theorem TW (t:f_):VC.holds (gT U2 155 Z [.str o t] (ad1 t))=((λP0:SV=>((Fk (32<=(t.length:Int)) (Bk (bH t) (ah P0 (SV.aN [(getD t).sv,SV.bool q q])) (ah P0 (SV.aN [dc,SV.bool q o]))) False))) (SV.aN [SV.agg (SV.int .i64 q 0::SV.str q []::SV.str q []::Jo),SV.bool q o])):=by kernel_rfl
theorem Cr (b:Int)(n:Nat):1<=(bA b n).length:=by unfold bA;split<;>simp
theorem aaA (h:cw s=q)(hl:dn s=q):(af s).length<s.length:=by have:=congrArg cl (JN h);rw[hl] at this;unfold nD at this;have hp:=Cr 192 (af s).length;simp only[cond_true,az] at this;omega
theorem lg (h:bw t=q):t.length=33:=by
 obtain⟨⟨h1,h2,h3⟩,h4⟩:=rZ.1 h;have:=congrArg cl (JN h1);rw[h2,h3] at this;unfold nD aq bA at this;simp only[cond_false,List.append_nil,h4] at this;simp only[show ¬ ((32:Nat)=1/\ai (af t) 0<128)from by omega,if_false,az,h4] at this
 simpa using this.symm
theorem Wm {n:Nat}(h:Cy n t=q):t.length<32:=by
 cases n with
 | zero=>simp[Cy] at h
 | succ n =>simp only[Cy,P,p_] at h;exact h.1
theorem qh (h:bH t=q):t.length<32:=Wm h
theorem jF {r:Nat->f_}: ∀ {n j:Nat},cF r n<=(j:Int)->j<n->r j=[]
 | 0,_,_,h=>absurd h (Q _)
 | n+1,j,h,hj=>by
   unfold cF at h;by_cases e:r n=[]
   ·rw[r_ e] at h;by_cases ej:j=n
    ·subst ej;exact e
    ·exact jF h (by omega)
   ·rw[s_ e] at h;omega
theorem sA {inl:f_->Bool}{r:Nat->f_}: ∀ {n j:Nat},j6 inl r n=q->j<n->r j=[]∨iU inl (r j)=q
 | 0,_,_,h=>absurd h (Q _)
 | n+1,j,h,hj=>by
   simp only[j6,P,W,p_] at h;by_cases ej:j=n
   ·subst ej;exact h.2
   ·exact sA h.1 (by omega)
theorem KQ {inl:f_->Bool}{r:Nat->f_}: ∀ {n j:Nat},j<n->r j≠[]->iU inl (r j)=o->j6 inl r n=o
 | 0,_,h,_,_=>absurd h (Q _)
 | n+1,j,hj,h0,h1=>by
   simp only[j6];by_cases ej:j=n
   ·subst ej;rw[h1,show G (r j=[])=o from o_ h0];simp
   ·rw[KQ (n:=n) (by omega) h0 h1];rfl
theorem nR (h:iU bH t=q):t.length<=33:=by
 simp only[iU,W] at h;rcases h with h | h
 ·have:=lg h;omega
 ·have:=qh h;omega
theorem Lp {l:Int}(h:iB x l=q):x.p.length<=12:=by simp only[iB,P,p_] at h;omega
theorem qo (h:kg x=q):x.p.length<=12/\x.v≠[]/\x.v.length<=80/\∀ j,j<16->x.r j=[]:=by simp only[kg,P,Bool.not_eq_true',p_,q_] at h;obtain⟨h1,h2,h3,h4⟩:=h;exact⟨Lp h1,h2,by omega,λj hj=>jF (n:=16) (by omega) hj⟩
theorem tA (h:nB inl x=q):x.p.length<=12/\x.v=[]/\(∀ j,1<=j->j<16->x.r j=[])/\cF x.r 16=1/\(bw (x.r 0)=q∨(inl (x.r 0)=q/\(getD (x.r 0)).k=3)):=by simp only[nB,P,W,p_] at h;obtain⟨h1,h2,h3,h4⟩:=h;exact⟨Lp h1,h2,λj h1 hj=>jF (n:=16) (by omega) hj,h3,h4⟩
theorem pX (h:dX inl x=q):x.p=[]/\x.v.length<=80/\j6 inl x.r 16=q/\2<=min (x.v.length:Int) 1+dI x.r 16:=by simp only[dX,P,p_] at h;obtain⟨h1,h2,h3,h4⟩:=h;exact⟨h1,by omega,h3,h4⟩
theorem C' (h:ri x=q):x.k=0/\x.p=[]/\x.v=[]/\∀ j,j<16->x.r j=[]:=by simp only[ri,P,p_,List.all_eq_true] at h;exact⟨h.1,h.2.1,h.2.2.1,λj hj=>h.2.2.2 j (List.mem_range.2 hj)⟩
theorem jB (h:jq inl x=q):(x.k=0/\ri x=q)∨(x.k=1/\kg x=q)∨(x.k=2/\nB inl x=q)∨(x.k=3/\dX inl x=q):=by
 unfold jq at h;split at h
 ·exact .inl ⟨by assumption,h⟩
 ·split at h
  ·exact .inr (.inl ⟨by assumption,h⟩)
  ·split at h
   ·exact .inr (.inr (.inl ⟨by assumption,h⟩))
   ·split at h
    ·exact .inr (.inr (.inr ⟨by assumption,h⟩))
    ·cases h
structure Nd.lZ (x:Nd):Prop where
 k:0<=x.k/\x.k<=3
 p:x.p.length<=12
 v:x.v.length<=80
 r: ∀ j,j<16->x.r j=[]∨iU bH (x.r j)=q
theorem gE (h:aZ x=q):x.lZ:=by
 rcases jB h with ⟨hk,h⟩ | ⟨hk,h⟩ | ⟨hk,h⟩ | ⟨hk,h⟩
 ·obtain⟨_,h1,h2,h3⟩:=C' h;exact⟨by omega,by rw[h1];simp,by rw[h2];simp,λj hj=>.inl (h3 j hj)⟩
 ·obtain⟨h1,_,h2,h3⟩:=qo h;exact⟨by omega,h1,h2,λj hj=>.inl (h3 j hj)⟩
 ·obtain⟨h1,h2,h3,_,h4⟩:=tA h;refine⟨by omega,h1,by rw[h2];simp,λj hj=> ?_⟩;by_cases e:j=0
  ·subst e;refine .inr ?_;simp only[iU,W];exact h4.imp id λh=>h.1
  ·exact .inl (h3 j (by omega) hj)
 ·obtain⟨h1,h2,h3,_⟩:=pX h;exact⟨by omega,by rw[h1];simp,h2,λj hj=>sA h3 hj⟩
theorem Nd.lZ.ref (h:x.lZ)(j:Nat)(hj:j<16):(x.r j).length<=33:=by
 rcases h.r j hj with h | h
 ·rw[h];simp
 ·exact nR h
theorem Nd.lZ.few (h:x.lZ):x.rB:=⟨by have:=h.p;omega,by have:=h.v;omega,λj hj=>by have:=h.ref j hj;omega⟩
theorem C0 {f g:f_->Bool}{r:Nat->f_}: ∀ {n:Nat},(∀ j,j<n->r j≠[]->f (r j)=g (r j))->j6 f r n=j6 g r n
 | 0,_=>rfl
 | n+1,h=>by
   simp only[j6];rw[C0 λj hj=>h j (by omega)];by_cases e:r n=[]
   ·simp[e]
   ·simp only[iU,h n (by omega) e]
theorem Mm {f g:f_->Bool}(h: ∀ j,j<16->x.r j≠[]->f (x.r j)=g (x.r j)):jq f x=jq g x:=by
 have e3:dX f x=dX g x:=by simp only[dX,C0 h]
 have e2:nB f x=nB g x:=by
  by_cases e:x.r 0=[]
  ·have hb:G (cF x.r 16=1)=o∨∃ j,1<=j/\j<16/\x.r j≠[]:=by
    by_cases hb:cF x.r 16=1
    ·exfalso;have hz: ∀ n,n<=16->(∀ j,j<n->x.r j=[])->cF x.r n=0:=by
      intro n;induction n with
      | zero=>intro _ _;rfl
      | succ n ih=>intro hn hj;rw[cF,r_ (hj n (by omega)),ih (by omega) λj hj'=>hj j (by omega)]
     have:=hz 16 (by omega) λj hj=>by
      by_cases e0:j=0
      ·subst e0;exact e
      ·exact jF (n:=16) (by omega) hj
     omega
    ·exact .inl (o_ hb)
   by_cases hb:cF x.r 16=1
   ·rcases ‹_∨_› with h1 | ⟨j,h1,h2,h3⟩
    ·exact absurd hb (m_ h1)
    ·exact absurd (jF (n:=16) (by omega) h2) h3
   ·simp only[nB,hb,decide_false,aO,aC]
  ·simp only[nB,h 0 (by decide) e]
 simp only[jq,e2,e3]
theorem DO (h:1<=aH s):cw s=q/\dn s=q/\aF s=[]/\aH s=q9 (af s):=by
 unfold aH at h ⊢;split at h
 ·omega
 ·rename_i hs
  cases h1:cw s<;>cases h2:dn s<;>cases h3:G (aF s=[])<;>simp only[h1,h2,h3,T,aC,cond_false] at h<;>first
   | omega
   | exact⟨rfl,rfl,l_ h3,by rw[s_ hs];rfl⟩
theorem IT (h:0<=aH s)(j:Nat)(hj:(getD s).r j≠[]):((getD s).r j).length<s.length:=by
 by_cases h1:1<=aH s
 ·obtain⟨g1,g2,_,_⟩:=DO h1;have hl:=aaA g1 g2;have hit:=tJ (af s);have key: ∀(r:Nat->f_),(∀ i,i<16->(r i).length<=(af s).length)->(dK r j).length<=(af s).length:=by
   intro r hr;by_cases h16:j<16
   ·have:dK r j=r j:=fF r j h16;rw[this];exact hr j h16
   ·have:dK r j=[]:=by unfold dK Dx;rw[b_,b! (by simp;omega)];rfl
    rw[this];simp
  have e:((getD s).r j).length<=(af s).length:=by
   unfold getD;split
   ·exact key bJ λi hi=>by rw[show bJ i=(λ_=>[]) i from fF (λ_=>[]) i hi];simp
   ·split
    ·refine key (bN (aj (af s) 1)) λi hi=> ?_;have:bN (aj (af s) 1) i=(λi=>if i=0 then aj (af s) 1 else []) i:=fF (λi=>if i=0 then aj (af s) 1 else []) i hi
     rw[this];show(if i=0 then aj (af s) 1 else []).length<=_
     split
     ·exact hit 1
     ·simp
    ·split
     ·refine key (cS (af s)) λi _=> ?_;unfold cS;split
      ·simp
      ·exact hit i
     ·exact key bJ λi hi=>by rw[show bJ i=(λ_=>[]) i from fF (λ_=>[]) i hi];simp
  omega
 ·exfalso;apply hj;have h0:aH s=0:=by omega
  unfold getD;rw[s_ (by omega),s_ (by omega),s_ (by omega)];show bJ j=[]
  by_cases h16:j<16
  ·exact fF (λ_=>[]) j h16
  ·unfold bJ Dx;rw[b_,b! (by simp;omega)];rfl
theorem Cj {f g:f_->Bool}(h: ∀ r:f_,r.length<t.length->f r=g r):Er f t=Er g t:=by
 unfold Er;by_cases h0:0<=aH t
 ·rw[Mm (f:=f) (g:=g) λj _ hr=>h _ (IT h0 j hr)]
 ·rw[o_ h0];rfl
theorem Ft: ∀(n m:Nat) (t:f_),t.length<n->t.length<m->Cy n t=Cy m t
 | 0,_,_,h,_=>absurd h (Q _)
 | _,0,_,_,h=>absurd h (Q _)
 | n+1,m+1,t,hn,hm=>by simp only[Cy];rw[Cj (t:=t) λr hr=>Ft n m r (by omega) (by omega)]
theorem yK (t:f_):bH t=(G (t.length<32)&&(bG t&& !decide ((getD t).k=0))):=by
 by_cases h:t.length<32
 ·unfold bH bG;rw[show Cy 32 t=(G (t.length<32)&&(Er (Cy 31) t&& !decide ((getD t).k=0)))from rfl]
  rw[Cj (t:=t) (f:=Cy 31) (g:=bH) λr hr=>Ft 31 32 r (by omega) (by omega)]
 ·rw[o_ h,aO];exact Bool.eq_false_iff.2 λh'=>h (qh h')
theorem F0 {f:FuncId}{fn:Func}(hf:z.funcs[f]?=I fn) (hn:(fn.name== "runtime.NumGoroutine")=o) (hb:fn.body.isSome=q) {g:Nd->Option (Prop×SV)}
  (H: ∀ x p v,g x=I (p,v)->p->∃ cfg args',Sx.Good z cfg/\(∀ E,SV.vals E args'=SV.vals E [x.sv])/\SV.fH 0 args'=q/\v.wf 0=q/\ay (eZ cfg f fn args' (λu=>ah u v))):ax z f (bn (fG g)):=by
 refine fj (Pz (n:=20) hf hn hb ?_);intro args p a h hp;obtain⟨⟨p0,v0⟩,hq,hpa⟩:=ct.1 h;obtain⟨x,hx,hg⟩:=mE hq;subst hx;injection hpa with h1 h2;subst h1;subst h2;obtain⟨cfg,args',c1,c2,c3,c4,c5⟩:=H x _ _ hg hp;exact⟨cfg,args',c1,c2,c3,c4,c5⟩
theorem Nd.rB.kind (h:x.rB)(k:Int):Nd.rB {k:=k,p:=x.p,v:=x.v,r:=fun(i:Nat)=>[x.r 0,x.r 1,x.r 2,x.r 3,x.r 4,x.r 5,x.r 6,x.r 7,x.r 8,x.r 9,x.r 10,x.r 11,x.r 12,x.r 13,x.r 14,x.r 15].getD i []} :=⟨h.p,h.v,λj hj=>by show([x.r 0,x.r 1,x.r 2,x.r 3,x.r 4,x.r 5,x.r 6,x.r 7,x.r 8,x.r 9,x.r 10,x.r 11,x.r 12,x.r 13,x.r 14,x.r 15].getD j []).length<=1000;rw[fF x.r j hj];exact h.r j hj⟩
theorem lM (x:Nd)(h:x.k=k)(E:Nat->Nat):SV.vals E [x.zR q k]=SV.vals E [x.sv]:=by subst h;rfl
theorem Ww (h:0<=k/\k<=3):k=0∨k=1∨k=2∨k=3:=by omega
theorem Ta:ax z 153 (bn (fG λx=>I ((0<=x.k/\x.k<=3)/\x.rB,.str o (cZ x)))):=by
 refine F0 Tryz.func153 (by kernel_rfl) (by kernel_rfl) λx p v h hp=> ?_;cases h;obtain⟨hk,hf⟩:=hp;rcases Ww hk with e | e | e | e
 ·exact⟨wG,[x.zR q 0],HN,lM x e,rfl,rfl,ay.of_eq (abE x _) ⟨trivial,λE=>by rw[cZ,r_ e]⟩⟩
 ·exact⟨wG,[x.zR q 1],HN,lM x e,rfl,rfl,ay.of_eq (abF x _) ⟨hf.kind 1,λE=>by rw[cZ,s_ (by omega),r_ e];rfl⟩⟩
 ·exact⟨wG,[x.zR q 2],HN,lM x e,rfl,rfl,ay.of_eq (abG x _) ⟨hf.kind 2,λE=>by rw[cZ,s_ (by omega),s_ (by omega),r_ e];rfl⟩⟩
 ·exact⟨wG,[x.zR q 3],HN,lM x e,rfl,rfl,ay.of_eq (abH x _) ⟨hf.kind 3,λE=>by rw[cZ,s_ (by omega),s_ (by omega),s_ (by omega)];rfl⟩⟩
section
variable {L : Nat} (hI : ax z 155 (bY (mb L)))
include hI
theorem FG:bp z (λf=>aD f (NH L)):=.cons hI (bO _) oX
theorem adA:Sx.Good z (UW L):=.of bR (FG hI) bq
theorem adq (x:Nd):Sx.Good z (UQ L x):=.of bR (FG hI) bq
theorem adf:ax z 187 (bn (fG λx=>I (Rel L (x.r 0),.bool o (nB bH x)))):=by
 refine F0 Tryz.func187 (by kernel_rfl) (by kernel_rfl) λx p v h hp=> ?_;cases h;refine⟨UW L,[x.sv],adA hI,λE=>rfl,rfl,rfl,ay.mS (af6 L x _) (by delta Bk;exact rfl) ?_⟩;have e:iB {k:=x.k,p:=x.p,v:=x.v,r:=fun(i:Nat)=>[x.r 0,x.r 1,x.r 2,x.r 3,x.r 4,x.r 5,x.r 6,x.r 7,x.r 8,x.r 9,x.r 10,x.r 11,x.r 12,x.r 13,x.r 14,x.r 15].getD i []:Nd} 1=iB x 1:=rfl;rw[e,fQ (fF x.r)];unfold nB;have nn: ∀ {b:Bool},(!b)=q->b=false:=λh=>by simpa using h
 have nf: ∀ {b:Bool},(!b)=o->b=true:=λh=>by simpa using h
 refine⟨trivial,λa=>dh ?_,λa=>⟨λb=>dh ?_,λb=>⟨trivial,λc=>dh ?_,λc=>⟨hp.2,λd=>dh ?_,λd=>⟨hp,λf=>dh ?_,λf=>dh ?_⟩⟩⟩⟩⟩
 ·rw[nn a];rfl
 ·rw[nf a,nn b];rfl
 ·rw[nf a,nf b,nn c];rfl
 ·rw[nf a,nf b,nf c,d];rfl
 ·rw[nf a,nf b,nf c,d,f];rfl
 ·rw[nf a,nf b,nf c,d,f];rfl
theorem RK:ax z 188 (bn (fG λx=>I (pS L x.r,.bool o (dX bH x)))):=by
 refine F0 Tryz.func188 (by kernel_rfl) (by kernel_rfl) λx p v h hp=> ?_;cases h;have hp:pS L x.r:=hp;refine⟨UQ L x,[x.sv],adq hI x,λE=>rfl,rfl,rfl,ay.mS (YG L x _) (by delta Bk Fk;exact rfl) ?_⟩;have nn: ∀ {b:Bool},(!b)=q->b=false:=λh=>by simpa using h
 have nf: ∀ {b:Bool},(!b)=o->b=true:=λh=>by simpa using h
 refine⟨λa=>dh ?_,λa=>⟨λb=>dh ?_,λb R=>⟨⟨0,⟨by omega,rfl⟩,rfl,BS (by simp[dI]),aa.refl _,aa.refl _,aa.refl _,aa.refl _,trivial⟩,λi hi=>⟨λc=> ?_,λc=> ?_⟩⟩⟩⟩
 ·unfold dX;rw[nn a];rfl
 ·have b:=l_ b;unfold dX;rw[nf a,o_ (show ¬ (x.v.length:Int)<=80 by omega)];rfl
 ·have c:=l_ c;have ei:i<16:=by omega
  rw[O,uU x.r ei];have hr:=hp i ei;have hfn:0<=dI x.r i/\dI x.r i<=i:=by
   have: ∀ n,0<=dI x.r n/\dI x.r n<=n:=by
    intro n;induction n with
    | zero=>exact⟨b9 _,b9 _⟩
    | succ n ih=>unfold dI;split<;>omega
   exact this i
  refine⟨by omega,λd=> ?_,λd=> ?_⟩
  ·have d: ¬ x.r i=[]:=m_ (nn d);have step:dI x.r (i+1)=dI x.r i+1:=by rw[dI,s_ d]
   refine⟨rfl,hr.2,λf=>⟨by omega,by omega,i+1,⟨⟨by omega,?_⟩,by omega⟩,by omega,BS (by omega),aa.refl _,aa.refl _,aa.refl _,aa.refl _,trivial⟩,λf=>⟨hr,λg=>⟨by omega,by omega,i+1,⟨⟨by omega,?_⟩,by omega⟩,by omega,BS (by omega),aa.refl _,aa.refl _,aa.refl _,aa.refl _,trivial⟩,λg=>dh ?_⟩⟩
   ·simp only[j6,hi.2,iU,f,a_,aX,T]
   ·simp only[j6,hi.2,iU,g,aX,T]
   ·have hm:j6 bH x.r 16=false:=KQ ei d (by rw[iU,f,g];rfl);unfold dX;rw[hm];simp
  ·have d:x.r i=[]:=l_ (nf d);have step:dI x.r (i+1)=dI x.r i:=by rw[dI,r_ d]
   refine⟨by omega,i+1,⟨⟨by omega,?_⟩,by omega⟩,by omega,BS (by omega),aa.refl _,aa.refl _,aa.refl _,aa.refl _,trivial⟩;simp only[j6,hi.2,d,decide_true,a_,T]
 ·have c:=m_ c;have hi1:=hi.1;have e:i=16:=by omega
  subst e;have b:=m_ b;refine dh ?_;unfold dX;rw[nf a,hi.2,n_ (show(x.v.length:Int)<=80 by omega)];rfl
theorem SM:bp z (λf=>aD f (WO L)):=.cons (adf hI) (aS _) (.cons (RK hI) (aS _) oX)
theorem Cn:Sx.Good z (rQ L):=.of bR (SM hI) bq
theorem NY:ax z 152 (bn (fG λx=>I (pS L x.r,.bool o (aZ x)))):=by
 refine F0 Tryz.func152 (by kernel_rfl) (by kernel_rfl) λx p v h hp=> ?_;cases h;have hp:pS L x.r:=hp;by_cases hk:0<=x.k/\x.k<=3
 ·have hm:pS L (fun(i:Nat)=>[x.r 0,x.r 1,x.r 2,x.r 3,x.r 4,x.r 5,x.r 6,x.r 7,x.r 8,x.r 9,x.r 10,x.r 11,x.r 12,x.r 13,x.r 14,x.r 15].getD i []):=λj hj=>by show Rel L ([x.r 0,x.r 1,x.r 2,x.r 3,x.r 4,x.r 5,x.r 6,x.r 7,x.r 8,x.r 9,x.r 10,x.r 11,x.r 12,x.r 13,x.r 14,x.r 15].getD j []);rw[fF x.r j hj];exact hp j hj
  rcases Ww hk with e | e | e | e
  ·refine⟨rQ L,[x.zR q 0],Cn hI,lM x e,rfl,rfl,ay.of_eq (Y3 L x _) ⟨trivial,dh ?_⟩⟩;rw[aZ,jq,r_ e];unfold ri;rw[e];congr 3
  ·refine⟨rQ L,[x.zR q 1],Cn hI,lM x e,rfl,rfl,ay.of_eq (Y4 L x _) ⟨trivial,dh ?_⟩⟩;rw[aZ,jq,s_ (by omega),r_ e];unfold kg;rw[fQ (fF x.r)];rfl
  ·refine⟨rQ L,[x.zR q 2],Cn hI,lM x e,rfl,rfl,ay.of_eq (Y5 L x _) ⟨hp 0 (by decide),dh ?_⟩⟩;rw[aZ,jq,s_ (by omega),s_ (by omega),r_ e];unfold nB;rw[fQ (fF x.r)];rfl
  ·refine⟨rQ L,[x.zR q 3],Cn hI,lM x e,rfl,rfl,ay.of_eq (Y6 L x _) ⟨hm,dh ?_⟩⟩;rw[aZ,jq,s_ (by omega),s_ (by omega),s_ (by omega),r_ e];unfold dX;have e1: ∀ n,n<=16->j6 bH (fun(i:Nat)=>[x.r 0,x.r 1,x.r 2,x.r 3,x.r 4,x.r 5,x.r 6,x.r 7,x.r 8,x.r 9,x.r 10,x.r 11,x.r 12,x.r 13,x.r 14,x.r 15].getD i []) n=j6 bH x.r n/\dI (fun(i:Nat)=>[x.r 0,x.r 1,x.r 2,x.r 3,x.r 4,x.r 5,x.r 6,x.r 7,x.r 8,x.r 9,x.r 10,x.r 11,x.r 12,x.r 13,x.r 14,x.r 15].getD i []) n=dI x.r n:=by
    intro n;induction n with
    | zero=>intro _;exact⟨rfl,rfl⟩
    | succ n ih =>intro hn;obtain⟨i1,i2⟩:=ih (by omega);have g:=fF x.r n (by omega);simp only[j6,dI,i1,i2,g,and_self]
   obtain⟨i1,i2⟩:=e1 16 (by omega);rw[i1,i2]
 ·refine⟨rQ L,[x.sv],Cn hI,λE=>rfl,rfl,rfl,ay.mS (Y7 L x _) (by delta Fk;exact rfl) ?_⟩;have hv:aZ x=false:=by rw[aZ,jq,s_ (by omega),s_ (by omega),s_ (by omega),s_ (by omega)]
  rw[hv];exact⟨λ_ _=>rfl,λa=>⟨λ_ _=>rfl,λb=>absurd ⟨by have:=m_ a;omega,by have:=m_ b;omega⟩ hk⟩⟩
theorem FH:bp z (λf=>aD f (NI L)):=.cons (NY hI) (aS _) (.cons Ta (aS _) oX)
theorem adB:Sx.Good z (UX L):=.of bR (FH hI) bq
end
end
section
open Go Sx
set_option maxRecDepth 20000
theorem TD: ¬ 0<=aH []:=by decide
theorem Bf {L:Nat}{X:Nd}(hX:getD s=X)(hk:0<=aH s)(hr:pS L X.r){V N:SV}(hV:ah V (.aN [X.sv,.int .i64 q 0]))(hN:ah N (.aN [dc,.int .i64 q 2])) :
  pS L X.r/\((!aZ X)=q->(bG s=q->ah N (.aN [(getD s).sv,.int .i64 q 0]))/\(bG s=o->ah N (.aN [dc,.int .i64 q 2]))) /\
   ((!aZ X)=o->((0<=X.k/\X.k<=3)/\X.rB)/\((!decide (cZ X=s))=q->(bG s=q->ah N (.aN [(getD s).sv,.int .i64 q 0]))/\(bG s=o->ah N (.aN [dc,.int .i64 q 2]))) /\
    ((!decide (cZ X=s))=o->(bG s=q->ah V (.aN [(getD s).sv,.int .i64 q 0]))/\(bG s=o->ah V (.aN [dc,.int .i64 q 2])))):=by
 have hB:bG s=(aZ X&&G (cZ X=s)):=by unfold bG Er;rw[hX,n_ hk];rfl
 refine⟨hr,λa=> ?_,λa=> ?_⟩
 ·have a:aZ X=false:=by simpa using a
  rw[hB,a];exact⟨(λh=>by cases h),λ_=>hN⟩
 ·have a:aZ X=true:=by simpa using a
  have hs:=gE a;refine⟨⟨hs.k,hs.few⟩,λb=> ?_,λb=> ?_⟩
  ·have b:G (cZ X=s)=false:=by simpa using b
   rw[hB,a,b];exact⟨(λh=>by cases h),λ_=>hN⟩
  ·have b:G (cZ X=s)=true:=by simpa using b
   rw[hB,a,b,hX];exact⟨λ_=>hV,λh=>by cases h⟩
attribute [local irreducible] aj af eU cw aF cS
theorem afJ:({k:=0,p:=[],v:=[],r:=fun(i:Nat)=>[[],[],[],[],[],[],[],[],[],[],[],[],[],[],[],[]].getD i []}:Nd)=e9:=rfl
theorem aee:(fun(i:Nat)=>[[],[],[],[],[],[],[],[],[],[],[],[],[],[],[],[]].getD i [])=(e9).r:=rfl
theorem afK (s:f_):({k:=1,p:=eU (af (aj (af s) 0)),v:=af (aj (af s) 1),r:=fun(i:Nat)=>[bJ 0,bJ 1,bJ 2,bJ 3,bJ 4,bJ 5,bJ 6,bJ 7,bJ 8,bJ 9,bJ 10,bJ 11,bJ 12,bJ 13,bJ 14,bJ 15].getD i []}:Nd)=oh s:=rfl
theorem aef (s:f_):(fun(i:Nat)=>[bJ 0,bJ 1,bJ 2,bJ 3,bJ 4,bJ 5,bJ 6,bJ 7,bJ 8,bJ 9,bJ 10,bJ 11,bJ 12,bJ 13,bJ 14,bJ 15].getD i [])=(oh s).r:=rfl
theorem afL (s:f_):({k:=2,p:=eU (af (aj (af s) 0)),v:=[],r:=fun(i:Nat)=>[bN (aj (af s) 1) 0,bN (aj (af s) 1) 1,bN (aj (af s) 1) 2,bN (aj (af s) 1) 3,bN (aj (af s) 1) 4,bN (aj (af s) 1) 5,bN (aj (af s) 1) 6,bN (aj (af s) 1) 7,bN (aj (af s) 1) 8,bN (aj (af s) 1) 9,bN (aj (af s) 1) 10,bN (aj (af s) 1) 11,bN (aj (af s) 1) 12,bN (aj (af s) 1) 13,bN (aj (af s) 1) 14,bN (aj (af s) 1) 15].getD i []}:Nd)=uT s:=rfl
theorem aeg (s:f_):(fun(i:Nat)=>[bN (aj (af s) 1) 0,bN (aj (af s) 1) 1,bN (aj (af s) 1) 2,bN (aj (af s) 1) 3,bN (aj (af s) 1) 4,bN (aj (af s) 1) 5,bN (aj (af s) 1) 6,bN (aj (af s) 1) 7,bN (aj (af s) 1) 8,bN (aj (af s) 1) 9,bN (aj (af s) 1) 10,bN (aj (af s) 1) 11,bN (aj (af s) 1) 12,bN (aj (af s) 1) 13,bN (aj (af s) 1) 14,bN (aj (af s) 1) 15].getD i [])=(uT s).r:=rfl
theorem lit_3 (s:f_):({k:=3,p:=[],v:=af (aj (af s) 16),r:=fun(i:Nat)=>[dK (cS (af s)) 0,dK (cS (af s)) 1,dK (cS (af s)) 2,dK (cS (af s)) 3,dK (cS (af s)) 4,dK (cS (af s)) 5,dK (cS (af s)) 6,dK (cS (af s)) 7,dK (cS (af s)) 8,dK (cS (af s)) 9,dK (cS (af s)) 10,dK (cS (af s)) 11,dK (cS (af s)) 12,dK (cS (af s)) 13,dK (cS (af s)) 14,dK (cS (af s)) 15].getD i []}:Nd)=i5 s:=rfl
theorem aeh (s:f_):(fun(i:Nat)=>[dK (cS (af s)) 0,dK (cS (af s)) 1,dK (cS (af s)) 2,dK (cS (af s)) 3,dK (cS (af s)) 4,dK (cS (af s)) 5,dK (cS (af s)) 6,dK (cS (af s)) 7,dK (cS (af s)) 8,dK (cS (af s)) 9,dK (cS (af s)) 10,dK (cS (af s)) 11,dK (cS (af s)) 12,dK (cS (af s)) 13,dK (cS (af s)) 14,dK (cS (af s)) 15].getD i [])=(i5 s).r:=rfl
theorem Yh (s:f_):aH s<=3:=by
 have hp:o9 (af s)<=3:=by unfold o9;cases (eo (aj (af s) 0)&&jN (af (aj (af s) 0)))<;>cases eI (af (aj (af s) 0))<;>cases eo (aj (af s) 1)<;>decide
 have hl:q9 (af s)<=3:=by
  unfold q9;cases dD (af s)with
  | false=>show(-1:Int)<=3;decide
  | true =>
    simp only[cond_true];split
    ·exact hp
    ·split
     ·cases eo (aj (af s) 16)<;>decide
     ·decide
 unfold aH;split
 ·decide
 ·cases (cw s&&(dn s&&G (aF s=[])))with
  | false=>show(-1:Int)<=3;decide
  | true=>exact hl
theorem VY (hk: ¬ 0<=aH s):bG s=false:=by unfold bG Er;rw[o_ hk];rfl
theorem IV {L:Nat}(hs:s.length<=L/\s.length<1099511627776)(hk:0<=aH s):pS L (getD s).r:=by
 intro j _;by_cases e:(getD s).r j=[]
 ·rw[e];have hp:0<s.length:=by
   cases s with
   | nil=>exact absurd hk TD
   | cons a r=>simp
  exact⟨.inl (by simp;omega),by simp⟩
 ·have:=IT hk j e;exact⟨.inl (by omega),by omega⟩
section
variable {L : Nat} (hI : ax z 155 (bY (mb L)))
include hI
theorem vL:ax z 127 (bY (wS L)):=by
 refine ee (n:=20) (fn:=a!) Tryz.func127 (by kernel_rfl) (by kernel_rfl) ?_;intro args p a h hp;unfold wS at h;split at h
 ·rename_i s;cases h;refine⟨UX L,adB hI,rfl,λb=>by cases b<;>exact rfl,ay.mS (TX L s) (by delta Bk Fk;exact rfl) ?_⟩
  have hp:s.length<=L/\s.length<1099511627776:=hp;have hN:ah (SV.aN [dc,.int .i64 q 2]) (.aN [dc,.int .i64 q 2]):=λ_=>rfl;refine⟨hp.2,λa=> ?_,λa=>⟨λb=> ?_,λb=>⟨λc=> ?_,λc=>⟨λd=> ?_,λd=> ?_⟩⟩⟩⟩
  ·have a:aH s=0:=l_ a;have hX:getD s=e9:=by unfold getD;rw[s_ (by omega),s_ (by omega),s_ (by omega)]
   have hr:=IV hp (by omega:0<=aH s);rw[hX] at hr;rw[afJ,aee];exact Bf (L:=L) (X:=e9) hX (by omega) hr (V:=.aN [dc,.int .i64 q 0]) (λ_=>rfl) hN
  ·have b:aH s=1:=l_ b;have hX:getD s=oh s:=by unfold getD;rw[r_ b]
   have hr:=IV hp (by omega:0<=aH s);rw[hX] at hr;rw[afK s,aef s];exact Bf (L:=L) (X:=oh s) hX (by omega) hr (V:=.aN [(oh s).zR q 1,.int .i64 q 0]) (λ_=>rfl) hN
  ·have c:aH s=2:=l_ c;have hX:getD s=uT s:=by unfold getD;rw[s_ (by omega),r_ c]
   have hr:=IV hp (by omega:0<=aH s);rw[hX] at hr;rw[afL s,aeg s];exact Bf (L:=L) (X:=uT s) hX (by omega) hr (V:=.aN [(uT s).zR q 2,.int .i64 q 0]) (λ_=>rfl) hN
  ·have d:aH s=3:=l_ d;have hX:getD s=i5 s:=by unfold getD;rw[s_ (by omega),s_ (by omega),r_ d]
   have hr:=IV hp (by omega:0<=aH s);rw[hX] at hr;rw[lit_3 s,aeh s];exact Bf (L:=L) (X:=i5 s) hX (by omega) hr (V:=.aN [(i5 s).zR q 3,.int .i64 q 0]) (λ_=>rfl) hN
  ·have a:=m_ a;have b:=m_ b;have c:=m_ c;have d:=m_ d;have hk: ¬ 0<=aH s:=λh0=>by have:=Yh s;omega
   exact λx=>⟨(λh=>by rw[VY hk] at h;cases h),λ_=>hN⟩
 ·cases h
theorem Sz:ax z 155 (bY (mb (L+1))):=by
 refine ee (n:=20) b7 (by kernel_rfl) (by kernel_rfl) ?_;intro args p a h hp;unfold mb at h;split at h
 ·rename_i t;cases h;refine⟨abV L,.of bR (bp.cons (vL hI) (bO _) oX) bq,rfl,λb=>by cases b<;>exact rfl,ay.mS (YL L t) (by delta Bk Fk;exact rfl) ?_⟩
  have hp:Rel (L+1) t:=hp;have hN:ah (SV.aN [dc,.bool q o]) (.aN [dc,.bool q o]):=λ_=>rfl;refine⟨λa=>⟨λb=> ?_,λ_=>hN⟩,λa=>⟨?_,λb=>⟨λc=>⟨λd=> ?_,λ_=>hN⟩,λc=>⟨λd=>λ_=>rfl,λd=> ?_⟩⟩,λb=>⟨λd=> ?_,λ_=>hN⟩⟩⟩
  ·have a:=l_ a;have:=qh b;omega
  ·have a:=m_ a;rcases hp.1 with h | h<;>omega
  ·rw[yK,c] at d;simp at d
  ·have a:=m_ a;rw[yK,b,c,n_ (show t.length<32 by omega)] at d;simp at d
  ·rw[yK,b] at d;simp at d
 ·cases h
end
theorem Wn:ax z 155 (bY (mb 0)):=by
 refine ee (n:=20) b7 (by kernel_rfl) (by kernel_rfl) ?_;intro args p a h hp;unfold mb at h;split at h
 ·rename_i t;cases h;have hp:Rel 0 t:=hp;have h32:32<=t.length:=by rcases hp.1 with h | h;exact absurd h (Q _);exact h
  refine⟨U2,adG,rfl,λb=>by cases b<;>exact rfl,ay.mS (TW t) (by delta Bk Fk;exact rfl) ?_⟩
  have hN:ah (SV.aN [dc,.bool q o]) (.aN [dc,.bool q o]):=λ_=>rfl;refine⟨λa=>⟨λb=> ?_,λ_=>hN⟩,λa=> ?_⟩
  ·have:=qh b;omega
  ·have a:=m_ a;omega
 ·cases h
theorem mY: ∀ L,ax z 155 (bY (mb L))
 | 0=>Wn
 | L+1=>Sz (mY L)
end
end Go.Proofs.YtoibaecagklkaaaGreatDoor
