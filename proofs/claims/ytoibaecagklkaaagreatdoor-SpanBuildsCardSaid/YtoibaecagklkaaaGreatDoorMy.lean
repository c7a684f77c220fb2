/- A part of the proof. -/
import Derived.Test.YtoibaecagklkaaaGreatDoorMx
open Bool renaming and_eq_true->Q,and_false->Z,eq_iff_iff->a_,false->F,not_eq_true'->a!,or_eq_true->ag,true->C
open Decidable renaming decide->M
open Go.Op renaming bytesLess->I
open Go.Proofs.Tryz renaming f13->bl,f15->bn,f17->b_,f22->cB,f57->b!,f94->cL,prog->H
open Int renaming toNat_natCast->cj
open List renaming drop->c4,filter_append->cl,foldl_append->c5,getD->c6,getD_eq_getElem?_getD->V,getElem?_append_left->c_,getElem?_eq_getElem->ct,length->O,length_append->R,length_cons->c!,length_eq_zero_iff->d_,length_take->d!,mem_cons->ef,mem_cons_of_mem->ei,mem_cons_self->Y,mem_filter->cx,mem_range->ej,nil->J,pairwise_cons->ek,range->cy,replicate->ep
open Nat renaming le_refl->T,le_trans->an,lt_irrefl->er,lt_succ_self->eu,not_lt_zero->X,succ_pos->ey,zero_add->ay,zero_le->W
namespace Go.Proofs.YtoibaecagklkaaaGreatDoor
open Go Sx
set_option maxRecDepth 20000
section
variable (y : D4 × Nd × h_) (x : UX)
abbrev aqk:=SB.sy (tq x.y) (bJ (th x.y) J) 4 133 C
abbrev BB:=x.root=gQ x.n x.f x.g
noncomputable def qK:Nat:=O (UX.ns x)
abbrev Ip:=jG 2 (uV x.y) x.y.g
abbrev Iu:=OR x.fr x.to
abbrev Ub:=nO (Cb y) 401 (qf y) (jP y) (pJ y)
abbrev ah4:=Bk (Iu x) (∃(a:Nat),br (qK x) a False) False
end
theorem al6 (x:UX):dw (C8 (oy 3 0 (gV (dJ (A3 (Pl.s 2 (gV (oe (jW (A3 (wI (wI (dJ (gV (m4 0 0 (oe vB (pW 0 (dJ (gV (oe (C8 (C8 (wJ BI))) Pl.t)))))))))))) Pl.t)))))))) (runM af1 13 bl xM x) ((fun(a:D4×h_->Nd)=>Bk (ko x.y.Fr x.root) (cE (aV (x.y.A.D (x.y.g x.root))) (Fk (BB x) (aV (Iu x)->(∃(a:Nat),br (qK x) a False)) False) (∃(b:D4×h_),cK (aiz b) (x.root=b.2) (x.fr=BW b) (x.to=BX b) (mK b=0) (aT (0=BS b) (oK b=0) (gy vk (kU b)) (fo (mQ (kU b) (uq b))) (fo (kD (kU b) (vj b))) (x.room=DF b) (aa (Ip x) (IF b)) (aa (aqk x) (C6 (w9 b))) (jY b.2 (∀(c:Nat×Nat),IX c b->(∃(d:D4×Nd×h_),aT (cI (XA (Cb d) (IP d)) (Wk.Small (qf d)) (fF (FI d) (zN d) (rS d) (Dm d)) (Wk.Fit (qf d) (aB (Dw d))) (401<=Dw d+401) (Nd.xJ (jP d)) (fk (13*Dw d) (pJ d))) (qx (a b) (jP d)) ((a b).p=(jP d).p) ((a b).v=(jP d).v) (dn 0 0 (a b) d) (dn 1 1 (a b) d) (dn 2 2 (a b) d) (dn 3 3 (a b) d) (aT (dn 4 4 (a b) d) (dn 5 5 (a b) d) (dn 6 6 (a b) d) (dn 7 7 (a b) d) (dn 8 8 (a b) d) (dn 9 9 (a b) d) (dn 10 10 (a b) d) (dn 11 11 (a b) d) (aT (dn 12 12 (a b) d) (dn 13 13 (a b) d) (dn 14 14 (a b) d) (dn 15 15 (a b) d) ([]=pJ d) (BW b=wQ d) (BX b=wS d) (aK (Mm b) (FI d) c.1 (zN d)) (aT (BS b=IZ d) (aK (oK b) (rS d) c.2 (Dm d)) (gy (T1 b) (qf d)) (gu (zN d) (Qc c b) (qf d)) (gz (Dm d) (aiv c b) (qf d)) (DF b=Da d) (aa (jG 2 (lF b).ad (w9 b).g) (SB.fmap (Cb d).ad (aaP d) none)) (aa (aqk x) (C6 (IP d))) (Bk (lX (Cb d) 401 (qf d) (jP d) (pJ d)) (∀(a:Nat×Nat),fF (cm (Ub d)) a.1 (cD (Ub d)) a.2->Fk (BB x) (Bk (Iu x) (∃(b:Nat),k9 (qK x<=b) (aK (cm (Ub d)) (qK x) a.1 b) (bH 2 (pg x.room 1) (eC (bF (Da d)) (SV.map 1)) 126) (eZ (cm (Ub d)) (aF a.1) (λa=>lT a (Ub d)) (bN (qK x) (aF b) 9 [xW (UX.ns x)]) 9) (jG 2 (Cb d).ad (IP d).g) (Ip x)) False) False) (∀(_:h_×h_),Fk (BB x) (ah4 x) False))))))) (∀(_:h_×h_),Fk (BB x) (ah4 x) False) (lF b)))) (I x.fr x.to||ew x.fr x.to)) (aV (M (BB x))->ah4 x)) (λa=>mD a.2 (lF a))):=⟨by kernel_rfl,by kernel_rfl⟩
def Oc (f g f' g':Nat->h_)(i:Nat):Bool:=M (f i=f' i)&&M (g i=g' i)
def m7 (n:Nat)(f g:Nat->h_)(n':Nat)(f' g':Nat->h_):Bool:=M ((n:Int)=(n':Int))&&(cy n).all (Oc f g f' g')
def dEn:List bh:=[.str λ_=>[],.str λ_=>[]]
def avR:List E6:=[.of (.slice dEn),.of (.slice dEn)]
def Ab (z:Bool)(o c n:Nat)(f g:Nat->h_)(key:Option Nat):Seen:=⟨key,z,o,n,c,[.str f,.str g]⟩
noncomputable def acT (n:Nat)(f g f' g':Nat->h_):iG:={bQ with cO:=λf=>av f lM,bU:=λh=>if h=17 then [(4,always (G3 5 n (Oc f g f' g')))] else []}
theorem auK (n:Nat)(f g f' g':Nat->h_):Sx.Good H (acT n f g f' g'):=.of bI iF aO
noncomputable def acL (n:Nat)(f g f' g':Nat->h_):iG:={bQ with cO:=λf=>av f lM,bU:=λh=>if h=57 then [(4,always (G3 13 n (Oc f g f' g')))] else []}
theorem auG (n:Nat)(f g f' g':Nat->h_):Sx.Good H (acL n f g f' g'):=.of bI iF aO
section
variable (n m k i : Nat) (x y z f : Nat-> h_)
abbrev ark:=dJ (wO aqv (Pl.s 6 PZ))
abbrev ain:=Bk (P2 n m) (ai fR (gb (m7 n x y m z f))) (cR (∀(a:Nat),MV n (Oc x y z f) a->Fk (rQ a n) (aC (mS a n) (cQ k (iD a<n)) (mS a m) (cQ i (iD a<m)) (aX (ju fR (m7 n x y m z f)) (dF a (λb=>aD (MV n (Oc x y z f) b) (aP n b n a) (gS a b))) (tc (ew (x (iD a)) (z (iD a))) (ew (y (iD a)) (f (iD a))) C))) (ju nM (m7 n x y m z f))) (λa=>MV n (Oc x y z f) a/\fy a))
end
theorem atp (n n':Nat)(f g f' g':Nat->h_)(z z':Bool)(o c o' c':Nat)(key key':Option Nat):dw ark (je (acT n f g f' g') 17 b_ [.cT 0 2 z o 0 n c,.cT 1 2 z' o' 0 n' c'] [Ab z o c n f g key,Ab z' o' c' n' f' g' key'] (.ret (.bool F (m7 n f g n' f' g')))) (ain n n' o o' f g f' g'):=⟨by kernel_rfl,by kernel_rfl⟩
theorem alS (n n':Nat)(f g f' g':Nat->h_)(z z':Bool)(o c o' c':Nat)(key key':Option Nat):dw ark (je (acL n f g f' g') 57 b! [.cT 0 2 z o 0 n c,.cT 1 2 z' o' 0 n' c'] [Ab z o c n f g key,Ab z' o' c' n' f' g' key'] (.ret (.bool F (m7 n f g n' f' g')))) (ain n n' o o' f g f' g'):=⟨by kernel_rfl,by kernel_rfl⟩
theorem Rm.ok {n:Nat}{f g:Nat->h_}{y:JG}(h:Rm n f g y){fr to:h_}(hf:fr.length<=1000)(ht:to.length<=1000):XA (Bf n f g y fr to) y:=by
 have hr:=nX h.E7;refine⟨λk hk=> ?_,λk hk=> ?_,λk hk=> ?_,hf,ht⟩
 all_goals have hk:k∈ y.Fr:=i_ hk
 ·obtain⟨h1,h2,_⟩:=lC _ _ _ (h.st.bf.dom k hk);have hin:vr n f g (fD (vr n f g) (sw n f g).length k).toNat∈ jy 13 (aQ n (λi=>ak (f i)) g):=(su _ _ rfl _).1 (F9 (by show _<(sw n f g).length;omega));exact an (vp hr hin).2.1 (by decide)
 ·exact h.st.dom k hk
 ·exact h.st.mP k hk
theorem Rm.root {n:Nat}{f g:Nat->h_}{y:JG}(h:Rm n f g y):ko y.Fr (gQ n f g)=true:=by have:=h.st.bf.root;rw[Eh] at this;exact k_ this
theorem Rm.none {n:Nat}{f g:Nat->h_}{y:JG}(h:Rm n f g y){k:h_}(hk:k.length≠32):ko y.Fr k=false:=by refine l_ λhm=>hk ?_;obtain⟨_,_,e⟩:=lC _ _ _ (h.st.bf.dom k hm);rw[← e];exact Jf _
theorem ald (n:Nat)(f g:Nat->h_):(gQ n f g).length=32:=Jf _
section
attribute [local irreducible] bg bM getD hasB oZ ak qy lX nO q9 sw gQ gF
set_option maxHeartbeats 1000000 in
theorem Vd (x:UX)(hx:Rl x):au (runM af1 13 bl xM x):=by
 refine au.xD (al6 x) (by delta Fk Bk NI aF eC bF aj bH aC az gK aX bN bJ cY aB cv aV br fo cI cK eZ fF k9 aT cE fk aU ew cD eO eX gy bG mD gz gu jY gD jg aK cm lT qx vk jG tq th uV ak2 kU lF w9 vj uq oK mK Du T1 Qc Mm IX IF BS DF BW BX aiv aiz C6 uT Da aaP IP qf Cb jP pJ Dm zN rS Dw FI IZ dn wQ wS aqk BB qK Ip Iu Ub ah4;exact rfl) ?_;obtain⟨n,f,g,y,fr,to,root,room⟩:=x;obtain⟨hh,hfr,hto,hroot⟩:=hx;dsimp only at hh hfr hto hroot ⊢;have eL:OR fr to=(I fr to||decide (fr=to)):=rfl;by_cases hr:root=gQ n f g
 ·subst hr;rw[hh.root];simp only[← eL,decide_true,a!,Bool.not_eq_false',Bool.true_eq_false,false_imp_iff,and_true,forall_const];refine⟨hh.st.dom _ (i_ hh.root),(λh1 h2=>by rw[h1] at h2;cases h2),λh1=> ?_⟩;have hok:=hh.ok hfr hto;obtain⟨s,w1,w2⟩:=avW hh.E7 hh.apart hh.st fr to;rw[Eh,show bg (ctext 13 (aQ n (λi=>ak (f i)) g))=gQ n f g from by unfold gQ;rfl] at w1
  unfold uZ at w1;cases hL:gF (Bf n f g y fr to) (gQ n f g)with
  | false=>rw[hL] at w1;cases w1
  | true =>
    rw[hL,cond_true] at w1;have hB:lX (Bf n f g y fr to) 401 (Wk.start.take (Bf n f g y fr to) (gQ n f g)) (getD ((Bf n f g y fr to).at (gQ n f g))) []=true:=by unfold lX;rw[w1];rfl
    have hS:nO (Bf n f g y fr to) 401 (Wk.start.take (Bf n f g y fr to) (gQ n f g)) (getD ((Bf n f g y fr to).at (gQ n f g))) []=s:=by unfold nO;rw[w1]
    have hg:bM ((Bf n f g y fr to).at (gQ n f g))=true:=by unfold gF at hL;rw[Q] at hL;exact hL.2
    have hfit:=K6 (Bf n f g y fr to) (gQ n f g);refine⟨(⟨Bf n f g y fr to,Wk.start,0,0,y,room⟩,gQ n f g),⟨hok,⟨λ_=>⟨Int.le_refl _,show(0:Int)<=1000 by decide⟩,W _,W _,W _⟩,T _,T _⟩,rfl,rfl,rfl,rfl,rfl,rfl,aa.SA λ_=>rfl,rfl,rfl,rfl,aa.fmap (λ_=>rfl) (λ_=>rfl),aa.refl _,λ_ c hc=> ?_,λh=>by rw[hL] at h;cases h⟩;refine⟨(⟨Bf n f g y fr to,Wk.start.take (Bf n f g y fr to) (gQ n f g),c.1,c.2,y,room⟩,getD ((Bf n f g y fr to).at (gQ n f g)),[]),⟨hok,hfit.small (by decide),hc,hfit,(by show 401<=0+401;decide),kj (sW hg),W _⟩,rfl,rfl,rfl,rfl,rfl,rfl,rfl,rfl,rfl,rfl,rfl,rfl,rfl,rfl,rfl,rfl,rfl,rfl,rfl,rfl,rfl,rfl,⟨rfl,rfl⟩,rfl,⟨rfl,rfl⟩,aa.refl _,aa.refl _,aa.refl _,rfl,aa.fmap (λ_=>rfl) (λ_=>rfl),aa.refl _,λ_ c2 hc2=>⟨λh2=>⟨c2.1,?_⟩,(λh2=>by rw[h1] at h2;cases h2)⟩,λh=>by rw[hB] at h;cases h⟩;dsimp only at hc2 ⊢;rw[hS,w2] at hc2 ⊢;exact⟨hc2.1,⟨rfl,rfl⟩,aa.refl _,aa.fmap (λ_=>rfl) (λ_=>rfl),aa.refl _⟩
 ·have hl:=hroot.resolve_left hr;rw[hh.none hl,l_ hr];exact⟨(λh=>by cases h),λ_ h=>by cases h⟩
end
theorem D7:aq H 13 (dI xM) :=jT (n:=20) Tryz.func13 (by kernel_rfl) (by kernel_rfl) xM λx hx=>⟨af1,ayB,rfl,Vd x hx⟩
end Go.Proofs.YtoibaecagklkaaaGreatDoor
namespace Go.Proofs.YtoibaecagklkaaaGreatDoor
open Go Sx
set_option maxRecDepth 20000
theorem Pj: ∀ {a b:h_},I b a=F->(I a b||decide (a=b))=C
 | [],[],_=>rfl
 | [],_::_,_=>rfl
 | _::_,[],h=>by cases h
 | a::r,b::s,h=>by
   obtain⟨h1,h2⟩:=AQ.1 h;rw[vM];by_cases e:a=b
   ·subst e;have:=Pj (h2 rfl);rw[ag,m_] at this;rcases this with h | h
    ·rw[h];simp
    ·rw[h];simp
   ·have:a<b:=UInt8.lt_of_le_of_ne h1 e;rw[k_ this];rfl
theorem YX {a b:h_}:(I a b||decide (a=b))=C↔I b a=false:=⟨LM,Pj⟩
theorem YW {a b:h_}(h:OR a b=C):I (ak b) (ak a)=false:=by
 unfold OR at h;rw[ag,m_] at h;rcases h with h | h
 ·exact lQ _ _ (Es h)
 ·subst h;exact qH _
theorem zl {fr to p:h_}:hasB fr to p=C↔I p (ak fr)=F/\I (ak to) p=false:=by unfold hasB;rw[Q,YX,a!]
theorem ap1 {p s:h_}:preB p s=C↔∃ u,s=p++u:=by
 unfold preB;rw[Q,m_,m_];constructor
 ·rintro⟨_,h⟩;exact⟨s.drop p.length,by rw[← h,d!,← h];simp[List.take_append_drop]⟩
 ·rintro⟨u,rfl⟩;exact⟨by simp,by simp⟩
theorem aee {fr to p:h_}:dj fr to p=C↔I (ak to) p=F/\(I p (ak fr)=F∨∃ u,ak fr=p++u):=by unfold dj;rw[Q,YX,ag,a!,ap1]
theorem apX {a b:h_}(h:ak a=ak b):a=b:=by rw[← AV a,h,AV]
theorem filter_none {α:Type}{p:α->Bool}{l:List α}(h: ∀ x,x∈ l->p x=F):l.filter p=[]:=List.filter_eq_nil_iff.2 λx hx=>by rw[h x hx];simp
theorem LD {α:Type}{p q:α->Bool}{l:List α}(h: ∀ x,x∈ l->p x=q x):l.filter p=l.filter q:=List.filter_congr h
theorem abA (mid:h_): ∀ {l:List (h_×h_)},(l.Pairwise λa b=>I a.1 b.1=C)->∃ l1 l2,l=l1++l2/\(∀ x,x∈ l1->I (ak x.1) (ak mid)=C)/\(∀ x,x∈ l2->I (ak x.1) (ak mid)=F)
 | [],_=>⟨[],[],rfl,(λ_ h=>by cases h),(λ_ h=>by cases h)⟩
 | a::l,h=>by
   cases ha:I (ak a.1) (ak mid)with
   | true =>
     obtain⟨l1,l2,e,h1,h2⟩:=abA mid (List.Pairwise.of_cons h);refine⟨a::l1,l2,by rw[e];rfl,λx hx=> ?_,h2⟩;rcases ef.1 hx with e | hx
     ·rw[e];exact ha
     ·exact h1 x hx
   | false =>
     refine⟨[],a::l,rfl,(λ_ h=>by cases h),λx hx=> ?_⟩;rcases ef.1 hx with e | hx
     ·rw[e];exact ha
     ·have:=Es ((ek.1 h).1 x hx);exact tY _ _ _ ha (lQ _ _ this)
def aum (mid:h_)(a:List (h_×h_)):List (h_×h_):=if 0<a.length/\(a.getD (a.length-1) ([],[])).1=mid then a.take (a.length-1)else a
theorem parts {fr mid to:h_}{l:List (h_×h_)}(h:NK l)(h1:OR fr mid=C)(h2:OR mid to=C):aum mid (cG fr mid l)++cG mid to l=cG fr to l:=by
 obtain⟨l1,l2,e,a1,a2⟩:=abA mid h.Fb;have p1:=YW h1;have p2:=YW h2;have eR:cG fr to l=l1.filter (λe=>hasB fr to (ak e.1))++l2.filter (λe=>hasB mid to (ak e.1)):=by unfold cG;rw[e,cl];congr 1;refine LD λx hx=> ?_;rw[a_,zl,zl];exact⟨λg=>⟨a2 x hx,g.2⟩,λg=>⟨tY _ _ _ p1 g.1,g.2⟩⟩
 have eQ:cG mid to l=l2.filter (λe=>hasB mid to (ak e.1)):=by
  unfold cG;rw[e,cl,filter_none λx hx=> ?_,List.nil_append];cases hb:hasB mid to (ak x.1)with
  | false=>rfl
  | true=>rw[zl,a1 x hx] at hb;cases hb.1
 have eP:cG fr mid l=l1.filter (λe=>hasB fr to (ak e.1))++l2.filter (λe=>hasB fr mid (ak e.1)):=by unfold cG;rw[e,cl];congr 1;refine LD λx hx=> ?_;rw[a_,zl,zl];have:=lQ _ _ (a1 x hx);exact⟨λg=>⟨g.1,tY _ _ _ g.2 p2⟩,λg=>⟨g.1,this⟩⟩
 have is: ∀ x,x∈ l2->hasB fr mid (ak x.1)=C->x.1=mid:=λx hx g=>by rw[zl] at g;have g1:=Pj (a2 x hx);rw[g.2,Bool.false_or,m_] at g1;exact(apX g1).symm
 have key:aum mid (cG fr mid l)=l1.filter (λe=>hasB fr to (ak e.1)):=by
  rw[eP];obtain⟨z,hm⟩: ∃ z,l2.filter (λe=>hasB fr mid (ak e.1))=z:=⟨_,rfl⟩
  rw[hm];cases z with
  | nil =>
    rw[List.append_nil];unfold aum;rw[p_];rintro⟨g1,g2⟩;have hmem:(l1.filter λe=>hasB fr to (ak e.1)).getD ((l1.filter λe=>hasB fr to (ak e.1)).length-1) ([],[])∈ l1.filter λe=>hasB fr to (ak e.1):=by rw[V,ct (by omega)];exact List.getElem_mem _
    have:=a1 _ (cx.1 hmem).1;rw[g2,qH] at this;cases this
  | cons x r =>
    have hx:x∈ l2/\hasB fr mid (ak x.1)=true:=cx.1 (by rw[hm];exact Y ..);have hr:r=[]:=by
     cases r with
     | nil=>rfl
     | cons y r =>
       have hy:y∈ l2/\hasB fr mid (ak y.1)=true:=cx.1 (by rw[hm];exact ei _ (Y ..));have hp:(l2.filter λe=>hasB fr mid (ak e.1)).Pairwise λa b=>I a.1 b.1=true:=by have:=h.Fb;rw[e,List.pairwise_append] at this;exact this.2.1.filter _
       rw[hm,ek] at hp;have:=hp.1 y (Y ..);rw[is x hx.1 hx.2,is y hy.1 hy.2,qH] at this;cases this
    subst hr;have ha:(l1.filter (λe=>hasB fr to (ak e.1))++[x]).length-1=(l1.filter λe=>hasB fr to (ak e.1)).length:=by rw[R];rfl
    unfold aum;rw[ha,o_]
    ·rw[List.take_left'];rfl
    ·refine⟨by rw[R];exact ey _,?_⟩;rw[V,List.getElem?_append_right (T _),Nat.sub_self];exact is x hx.1 hx.2
 rw[key,eR,eQ]
def asM:h_:=[255,255,255,255,255,255,255]
theorem agM: ∀ {p:h_} {n:Nat},(∀ b,b∈ p->b.toNat<16)->p.length<n->I p (ep n 15)=C
 | [],0,_,h=>absurd h (er 0)
 | [],n+1,_,_=>rfl
 | a::p,0,_,h=>absurd h (X _)
 | a::p,n+1,hb,h=>by
   have ha:=hb a (Y ..);rw[List.replicate_succ,vM,ag,Q,m_,m_];by_cases e:a=15
   ·exact .inr ⟨e,agM (λb hb'=>hb b (ei _ hb')) (by rw[c!] at h;omega)⟩
   ·refine .inl (UInt8.lt_iff_toNat_lt.2 ?_);have:a.toNat≠15:=λh=>e (UInt8.toNat_inj.1 h);show a.toNat<15;omega
theorem asN:ak asM=ep 14 15:=by decide +kernel
theorem aky {p:h_}(hb: ∀ b,b∈ p->b.toNat<16)(h:p.length<14):dj [] asM p=true:=by rw[aee,asN];refine⟨lQ _ _ (agM hb h),.inl ?_⟩;cases p<;>rfl
theorem auk {l:List (h_×h_)}(h:NK l):q9 [] asM (rowsOf l)=fJ (jy 13 (rowsOf l)):=by
 have hr:=J2 h;have:Bl [] asM 13 (rowsOf l) []=dH 13 (rowsOf l):=ajj hr λq ⟨x,hx,u,e⟩=>by have e:x.1=q++u:=e;refine aky (λb hb=>hr.nib x hx b (by rw[e];exact List.mem_append_left _ hb)) ?_;have:=hr.len x hx;rw[e,R] at this;omega
 unfold q9 qz;rw[this];rfl
theorem aBm {a b:Bool}(h:(!(a&&(b&&C)))=F):(a&&b)=true:=by revert h;cases a<;>cases b<;>decide
theorem aBl {a b:Bool}(h:(!(a&&(b&&C)))=C):(a&&b)=false:=by revert h;cases a<;>cases b<;>decide
def tC (vs:List SV)(l:List Seen):Option (Prop×fC):=match vs,l with
 | [_,_],[⟨_,_,_,n,_,[.str f,.str g]⟩,⟨_,_,_,n',_,[.str f',.str g']⟩]=>some (n<9223372036854775808,.ret (.bool F (m7 n f g n' f' g')))
 | _,_=>none
theorem W5 {n n':Nat}{f g f' g':Nat->h_}(hn:n<9223372036854775808)(z z':Bool)(o c o' c':Nat)(key key':Option Nat):au (je (acT n f g f' g') 17 b_ [.cT 0 2 z o 0 n c,.cT 1 2 z' o' 0 n' c'] [Ab z o c n f g key,Ab z' o' c' n' f' g' key'] (.ret (.bool F (m7 n f g n' f' g')))):=by
 refine au.xD (atp n n' f g f' g' z z' o c o' c' key key') (by delta Fk Bk I6 Ix Er NI tc cQ aj aC bt fR gb cJ aD cw aX aP nM gS fy i5 cR dF lu iD ew ju mS rQ P2 ain;exact rfl) ?_;simp only[cj,ay,true_and];refine⟨λh=>jA (by rw[m7,amd h];rfl),λh=>⟨⟨0,⟨W _,λj hj=>absurd hj (X _)⟩,rfl⟩,λi hi=>⟨λa=> ?_,λa=> ?_⟩⟩⟩
 ·have a:(i:Int)<(n:Int):=i_ a;have e:(n:Int)=(n':Int):=atG h;refine⟨by omega,by omega,by omega,by omega,λb=> ?_,λb=>⟨by omega,i+1,⟨Ah hi a (aBm b),by omega⟩,by omega⟩⟩;exact jA (by rw[m7,EV a (aBl b),Z])
 ·have a: ¬ (i:Int)<(n:Int):=j_ a;exact jA (by rw[m7,D0 hi a,ame h];rfl)
theorem alj:aq H 17 (bV avR tC):=by
 refine gi (n:=20) Tryz.func17 (by kernel_rfl) (by kernel_rfl) ?_;intro vs l q a h hq;unfold tC at h;split at h
 ·rename_i v v' key z o n c f g key' z' o' n' c' f' g';cases h;exact⟨_,auK n f g f' g',rfl,rfl,W5 hq z z' o c o' c' key key'⟩
 ·cases h
theorem Ru {n n':Nat}{f g f' g':Nat->h_}(hn:n<9223372036854775808)(z z':Bool)(o c o' c':Nat)(key key':Option Nat):au (je (acL n f g f' g') 57 b! [.cT 0 2 z o 0 n c,.cT 1 2 z' o' 0 n' c'] [Ab z o c n f g key,Ab z' o' c' n' f' g' key'] (.ret (.bool F (m7 n f g n' f' g')))):=by
 refine au.xD (alS n n' f g f' g' z z' o c o' c' key key') (by delta Fk Bk I6 Ix Er NI tc cQ aj aC bt fR gb cJ aD cw aX aP nM gS fy i5 cR dF lu iD ew ju mS rQ P2 ain;exact rfl) ?_;simp only[cj,ay,true_and];refine⟨λh=>jA (by rw[m7,amd h];rfl),λh=>⟨⟨0,⟨W _,λj hj=>absurd hj (X _)⟩,rfl⟩,λi hi=>⟨λa=> ?_,λa=> ?_⟩⟩⟩
 ·have a:(i:Int)<(n:Int):=i_ a;have e:(n:Int)=(n':Int):=atG h;refine⟨by omega,by omega,by omega,by omega,λb=> ?_,λb=>⟨by omega,i+1,⟨Ah hi a (aBm b),by omega⟩,by omega⟩⟩;exact jA (by rw[m7,EV a (aBl b),Z])
 ·have a: ¬ (i:Int)<(n:Int):=j_ a;exact jA (by rw[m7,D0 hi a,ame h];rfl)
theorem ac7:aq H 57 (bV avR tC):=by
 refine gi (n:=20) (fn:=b!) Tryz.func57 (by kernel_rfl) (by kernel_rfl) ?_;intro vs l q a h hq;unfold tC at h;split at h
 ·rename_i v v' key z o n c f g key' z' o' n' c' f' g';cases h;exact⟨_,auG n f g f' g',rfl,rfl,Ru hq z z' o c o' c' key key'⟩
 ·cases h
structure Xr where
 n:Nat
 f:Nat->h_
 g:Nat->h_
 z:Bool
 o:Nat
 c:Nat
 fr:h_
 to:h_
 m:Nat
 h:Nat->h_
 z':Bool
 o':Nat
 c':Nat
def Xr.sp (x:Xr):Sp:=⟨x.fr,x.to,x.m,x.h,x.z',x.o',x.c',λ_=>F,λ_=>0⟩
noncomputable def Xr.U (x:Xr):List h_:=fJ (jy 13 (aQ x.n (λi=>ak (x.f i)) x.g))
def Xr.bet (x:Xr):List Rw:=cG x.fr x.to (aQ x.n x.f x.g)
noncomputable def Xr.told (x:Xr):List Rw:=Xx (gQ x.n x.f x.g) x.sp
noncomputable def Xr.azF (x:Xr)(s:h_)(j:Nat):Bool:=!anP s (x.U.getD j [])
noncomputable def Xr.free (x:Xr)(i:Nat):Bool:=(cy x.U.length).all (x.azF (x.h i))
noncomputable def Xr.ask (x:Xr):Bool:=M (iT x.n x.f x.g=0)&&((sk (gQ x.n x.f x.g) x.sp).isSome&& !decide (x.told=x.bet))
noncomputable def Xr.hit (x:Xr):Bool:=x.ask&& !(cy x.m).all x.free
def Xr.args (x:Xr):List SV:=[.cT 0 2 x.z x.o 0 x.n x.c,.agg [.str F x.fr,.str F x.to],.cT 1 1 x.z' x.o' 0 x.m x.c']
def Xr.seen (x:Xr)(k k':Option Nat):List Seen:=[fX x.z x.o x.c x.n x.f x.g k,⟨k',x.z',x.o',x.m,x.c',[.str x.h]⟩]
theorem UE (L L':List Rw):m7 L.length (λi=>(L.getD i ([],[])).1) (λi=>(L.getD i ([],[])).2) L'.length (λi=>(L'.getD i ([],[])).1) (λi=>(L'.getD i ([],[])).2)=M (L=L'):=by
 rw[a_,m_];unfold m7 Oc;rw[Q,m_,List.all_eq_true];constructor
 ·rintro⟨h1,h2⟩;refine List.ext_getElem (by omega) λi i1 i2=> ?_;have:=h2 i (ej.2 i1);rw[Q,m_,m_] at this;simp only[V,ct i1,ct i2,Option.getD_some] at this;exact Prod.ext this.1 this.2
 ·rintro rfl;exact⟨rfl,λi _=>by simp⟩
namespace Xr
structure Ok (x:Xr):Prop where
 n:x.n<9223372036854775808
 few:x.sp.An
end Xr
def aAa:List E6:=[.of (.slice dE),.agg [.one,.one],.of (.slice [.str λ_=>[]])]
def aAP (vs:List SV)(l:List Seen):Option (Xr×Option Nat×Option Nat):=match vs,l with
 | [_,.agg [.str F fr,.str F to],_],[⟨k,z,o,n,c,[.str f,.str g]⟩,⟨k',z',o',m,c',[.str h]⟩]=>some (⟨n,f,g,z,o,c,fr,to,m,h,z',o',c'⟩,k,k')
 | _,_=>none
theorem awU {vs:List SV}{l:List Seen}{x:Xr}{k k':Option Nat}(h:aAP vs l=some (x,k,k')):filled aAa vs l=x.args/\l=x.seen k k':=by
 unfold aAP at h;split at h
 ·cases h;exact⟨rfl,rfl⟩
 ·cases h
end Go.Proofs.YtoibaecagklkaaaGreatDoor
namespace Go.Proofs.YtoibaecagklkaaaGreatDoor.Sx
open Go
def fC.vcs (c:Bool)(m:Mem)(nx:Nat)(K:SV->Mem->Nat->VC):fC->VC
 | .ret v=>K v m nx
 | .new v B=>K (v nx) ((nx,B)::m) (nx+1)
 | .all α f=>.all α λx=>(f x).vcs c m nx K
 | .req p a=>.imp p (a.vcs c m nx K)
 | .fork b f=>.and (.atom (b=c)) ((f c).vcs c m nx K)
theorem fC.Rh {c:Bool}{m:Mem}{nx:Nat}{K:SV->Mem->Nat->VC}: ∀ {a:fC},(a.vcs c m nx K).holds->(a.vc m nx K).holds
 | .ret _,h=>h
 | .new _ _,h=>h
 | .all _ f,h=>λx=>fC.Rh (a:=f x) (h x)
 | .req _ a,h=>λx=>fC.Rh (a:=a) (h x)
 | .fork b f,h=>dY.2 (by obtain⟨h1,h2⟩:=h;have h1:b=c:=h1;subst h1;exact fC.Rh (a:=f b) h2)
theorem fC.JA {c:Bool}{m:Mem}{nx:Nat}{K K':SV->Mem->Nat->VC}(hK: ∀ v m nx,(K v m nx).holds->(K' v m nx).holds): ∀ {a:fC},(a.vcs c m nx K).holds->(a.vcs c m nx K').holds
 | .ret _,h=>hK _ _ _ h
 | .new _ _,h=>hK _ _ _ h
 | .all _ f,h=>λx=>fC.JA (a:=f x) hK (h x)
 | .req _ a,h=>λx=>fC.JA (a:=a) hK (h x)
 | .fork _ f,h=>⟨h.1,fC.JA (a:=f c) hK h.2⟩
noncomputable def DV (c:Bool)(sh:List E6)(spec:List SV->List Seen->Option (Prop×fC)):PT:=λargs m nx K=>match Wb m sh args with
 | true=>G4 sh spec args m nx K
 | false=>(match wE m 0 sh args with
   | some (vs,p,l)=>(match spec vs l with
     | some (q,a)=>.and (.atom (p/\q)) (a.vcs c m nx K)
     | none=>.fail "arguments that nothing is said of")
   | none=>.fail "a slice that is not known")
theorem RR (c:Bool)(sh:List E6)(spec:List SV->List Seen->Option (Prop×fC)):bC (DV c sh spec):=by
 intro args m nx K K' hK h;unfold DV at h ⊢;split at h
 ·exact U3 sh spec _ _ _ _ _ hK h
 ·split at h
  ·split at h
   ·exact⟨h.1,fC.JA hK h.2⟩
   ·exact h
  ·exact h
theorem alD {P:Program}{f:FuncId}{c:Bool}{sh:List E6}{spec:List SV->List Seen->Option (Prop×fC)}(h:aq P f (bV sh spec)):aq P f (DV c sh spec):=by
 intro args m nx K hk hwf hargs Γ E w hs;unfold DV at hk;split at hk
 ·exact amy h args m nx K hk hwf hargs Γ E w hs
 ·have:(bV sh spec args m nx K).holds:=by
   unfold bV;split at hk
   ·rename_i vs p l hp;split at hk
    ·rename_i q a hq
     first
      | exact⟨hk.1,fC.Rh hk.2⟩
      | (rw[hp];simp only[hq];exact⟨hk.1,fC.Rh hk.2⟩)
    ·exact hk.elim
   ·exact hk.elim
  exact h args m nx K this hwf hargs Γ E w hs
end Go.Proofs.YtoibaecagklkaaaGreatDoor.Sx
namespace Go.Proofs.YtoibaecagklkaaaGreatDoor
open Go Sx
set_option maxRecDepth 20000
def abK (pt:PT):PT:=λargs m nx K=>pt args m nx λv m nx=>match v with
 | .bool _ b=>.and (.atom (b=C)) (K (.bool C C) m nx)
 | v=>K v m nx
theorem GU {pt:PT}(h:bC pt):bC (abK pt):=by
 intro args m nx K K' hK hh;refine h _ _ _ _ _ (λv m nx hv=> ?_) hh
 cases v<;>first
  | exact⟨hv.1,hK _ _ _ hv.2⟩
  | exact hK _ _ _ hv
theorem Q4 {P:Program}{f:FuncId}{pt:PT}(h:aq P f pt):aq P f (abK pt):=by
 intro args m nx K hk hwf hargs Γ E w hs;refine(h args m nx _ hk hwf hargs Γ E w hs).mono (λe w' hh=> ?_) (λ_ _ h=>h);obtain⟨E',sv,m',nx',h1,h2,h3,h4,h5⟩:=hh;cases sv with
 | none=>exact h5.elim
 | some v =>
   simp only[lift] at h5;split at h5
   ·rename_i l b;obtain⟨hb,h5⟩:=h5;have hb:b=true:=hb;subst hb;exact⟨E',some (.bool C C),m',nx',h1,h2,λv hv=>by cases hv;exact h3 (.bool l C) rfl,h4,h5⟩
   ·exact⟨E',_,m',nx',h1,h2,h3,h4,h5⟩
noncomputable def acU (n:Nat)(f f':Nat->h_):iG:={bQ with cO:=λf=>av f lM,bU:=λg=>if g=15 then [(4,always (G3 5 n λi=>decide (f i=f' i)))] else []}
theorem auL (n:Nat)(f f':Nat->h_):Sx.Good H (acU n f f'):=.of bI iF aO
theorem ajm {f:FuncId}{sh:List E6}{spec spec':List SV->List Seen->Option (Prop×fC)}(h:aq H f (bV sh spec))(hi: ∀ vs l q' a',spec' vs l=some (q',a')->q'->∃ q a,spec vs l=some (q,a)/\q/\∀ m nx K,(a'.vc m nx K).holds->(a.vc m nx K).holds):aq H f (bV sh spec'):=by
 intro args m nx K hk;refine h args m nx K ?_;unfold bV at hk ⊢;split at hk
 ·rename_i vs p l hp;split at hk
  ·rename_i q' a' hs;obtain⟨q,a,e,hq,g⟩:=hi vs l q' a' hs hk.1.2;simp only[e];exact⟨⟨hk.1.1,hq⟩,g m nx K hk.2⟩
  ·exact hk.elim
 ·exact hk.elim
structure NM (n:Nat)(f g:Nat->h_)(root:h_)(w:Sp):Prop where
 E7:iT n f g=0
 apart:kz (sw n f g).length (vr n f g)=C
 root:root=gQ n f g
 le:OR w.fr w.to=C
 len:w.n=(q9 w.fr w.to (aQ n (λi=>ak (f i)) g)).length
 mP: ∀ i,i<w.n->w.f i=(q9 w.fr w.to (aQ n (λi=>ak (f i)) g)).getD i []
 fr:w.fr.length<=1000
 to:w.to.length<=1000
theorem NM.res {n:Nat}{f g:Nat->h_}{root:h_}{w:Sp}(h:NM n f g root w):sk root w=some (cG w.fr w.to (aQ n f g)):=by obtain⟨he,h40⟩:=nW h.E7;have hi:=adv h.apart;have h1:=h.len;have h2:=h.mP;rw[h.root];unfold gQ;rw[vN] at h1 h2 hi ⊢;exact atB he (by rw[fI];exact h40) hi h.le h1 h2
theorem ajC {n:Nat}{f g:Nat->h_}(h:iT n f g=0)(fr to:h_){t:h_}(ht:t∈ q9 fr to (aQ n (λi=>ak (f i)) g)):t.length<=700:=(vp (nX h) (uG (Vb.1 ht))).2.1
theorem NM.few {n:Nat}{f g:Nat->h_}{root:h_}{w:Sp}(h:NM n f g root w):w.An:=⟨λi hi=>by rw[h.mP i hi];exact an (ajC h.E7 w.fr w.to (F9 (by rw[← h.len];exact hi))) (by decide),h.fr,h.to⟩
def aBI (L:List Rw):fC:=.all Nat λc=>.req (L.length<=c) (.new (λk=>.dr [.bY k 2 C 0 L.length c,.int .i64 C 0]) (.rows C L.length [nj L,nk L] F (c*2) 50))
noncomputable def xB (n:Nat)(f g:Nat->h_)(vs:List SV)(l:List Seen):Option (Prop×fC):=match asx vs l with
 | some (root,w,_)=>some (NM n f g root w,aBI (cG w.fr w.to (aQ n f g)))
 | none=>none
theorem Lh (n:Nat)(f g:Nat->h_):aq H 14 (bV abv (xB n f g)):=ajm abz λvs l q' a' h hq=>by
 unfold xB at h;split at h
 ·rename_i root w kk hx;cases h;refine⟨_,_,by unfold EP;rw[hx],hq.few,λm nx K hk=> ?_⟩;have e:Xx root w=cG w.fr w.to (aQ n f g):=by unfold Xx;rw[hq.res]
  unfold GQ;simp only[fC.vc];rw[dY,hq.res,e];exact hk
 ·cases h
noncomputable def J4 (vs:List SV)(l:List Seen):Option (Prop×fC):=match aAP vs l with
 | some (x,_,_)=>some (x.n<9223372036854775808/\NM x.n x.f x.g (gQ x.n x.f x.g) x.sp,.ret (.dr [.str C [],.str C [],.bool C F]))
 | none=>none
noncomputable def api (x:Xr):List (FuncId×PT):=(21,DV C UH QJ)::(14,bV abv (xB x.n x.f x.g))::(23,bV az9 Ni)::(57,abK (bV avR tC))::mX
theorem akt (x:Xr):aR H (λf=>av f (api x)):=.cons (alD avM) (RR _ _ _) (.cons (Lh x.n x.f x.g) (bR _ _) (.cons NV (bR _ _) (.cons (Q4 ac7) (GU (bR _ _)) gT)))
noncomputable def aw2 (x:Xr):iG:={bQ with cO:=λf=>av f (api x)}
theorem aze (x:Xr):Sx.Good H (aw2 x):=.of bI (akt x) aO
section
variable (x : Xr)
abbrev TA:=mC x.n x.fr x.to x.f x.g
abbrev BG:=aj True True True
abbrev aqD:=aj (Er x.z) (Er x.o) (b8 x.n x.n)
abbrev FN:=O (TA x)
end
theorem ato (n n':Nat)(f f':Nat->h_)(z z':Bool)(o o' c c':Nat)(key key':Option Nat):dw ark (je (acU n f f') 15 bn [.cT 0 1 z o 0 n c,.cT 1 1 z' o' 0 n' c'] [uY z o c n f key,uY z' o' c' n' f' key'] (.ret (.bool F (kZ n f n' f')))) (Bk (P2 n n') (ai fR (gb (kZ n f n' f'))) (cR (∀(a:Nat),L4 n a f f'->Fk (rQ a n) (aC (mS a n) (pL o a n) (mS a n') (pL o' a n') (aX (ju fR (kZ n f n' f')) (dF a (λb=>aD (L4 n b f f') (aP n b n a) (gS a b))) (ew (kY a f) (kY a f')))) (ju nM (kZ n f n' f'))) (λa=>L4 n a f f'/\fy a))):=⟨by kernel_rfl,by kernel_rfl⟩
theorem awm (x:Xr)(k k':Option Nat):dw Pl.t (je (aw2 x) 22 cB x.args (x.seen k k') (.ret (.dr [.str C [],.str C [],.bool C F]))) (az (aD (aqD x) True (dy x.n)) (aV (cJ (iT x.n x.f x.g) 0)) (gK True BG (aj (Er x.z') (Er x.o') (b8 x.m x.m))/\NM x.n x.f x.g (gQ x.n x.f x.g) (Sp.mk x.fr x.to x.m x.h x.z' (x.o'+0) x.c' (λ_=>F) (λ_=>0))) (∀(a:Nat),cN (FN x) a (aC (aj (aqD x) BG True) (gA x.n) (∀(a:Nat),a<x.n->bS (x.f a)) (gd x.fr) (gd x.to)) (∀(a:Nat),aJ (FN x) a (dx (aj (i9/\b8 (FN x) (FN x)) (i9/\b8 (FN x) (FN x)) True/\dy (FN x)) (aV (m7 (FN x) (λa=>(jg a (TA x)).1) (λa=>(jg a (TA x)).2) (FN x) (λa=>(jg a (TA x)).1) (λa=>(jg a (TA x)).2))) (cP fu fu nu) (cP fu fu nu))))):=⟨by kernel_rfl,by kernel_rfl⟩
theorem W4 {n n':Nat}{f f':Nat->h_}(hn:n<9223372036854775808)(z z':Bool)(o o' c c':Nat)(key key':Option Nat):au (je (acU n f f') 15 bn [.cT 0 1 z o 0 n c,.cT 1 1 z' o' 0 n' c'] [uY z o c n f key,uY z' o' c' n' f' key'] (.ret (.bool F (kZ n f n' f')))):=by
 refine au.xD (ato n n' f f' z z' o o' c c' key key') (by delta Fk Bk I6 Ix Er NI cQ aj aC bt fR gb cJ aD cw aX aP nM gS fy i5 cR dF lu iD ew ju mS rQ pL kY L4 P2;exact rfl) ?_;simp only[cj,ay];refine⟨λh=>jA (by rw[kZ,amd h];rfl),λh=>⟨⟨0,⟨W _,λj hj=>absurd hj (X _)⟩,rfl⟩,λi hi=>⟨λa=> ?_,λa=> ?_⟩⟩⟩
 ·simp only[m_] at a;have e:(n:Int)=(n':Int):=atG h;refine⟨by omega,⟨trivial,by omega⟩,by omega,⟨trivial,by omega⟩,λb=> ?_,λb=>⟨by omega,i+1,⟨Ah hi a (ame b),by omega⟩,by omega⟩⟩;exact jA (by rw[kZ,EV a (amd b),Z])
 ·simp only[n_] at a;exact jA (by rw[kZ,D0 hi a,ame h];rfl)
theorem ali:aq H 15 (bV avT vT):=by
 refine gi (n:=20) Tryz.func15 (by kernel_rfl) (by kernel_rfl) ?_;intro vs l q a h hq;unfold vT at h;split at h
 ·rename_i v v' key z o n c f key' z' o' n' c' f';cases h;exact⟨_,auL n f f',rfl,rfl,W4 hq z z' o o' c c' key key'⟩
 ·cases h
theorem afS {n:Nat}{f g:Nat->h_}(h:iT n f g=0):n<=1000/\∀ i,i<n->(f i).length<1099511627776:=by obtain⟨he,h40⟩:=nW h;refine⟨by omega,λi hi=> ?_⟩;have:=(he.key (f i,g i) (by unfold aQ;exact List.mem_map.2 ⟨i,ej.2 hi,rfl⟩)).2;have:(f i).length<=6:=this;omega
theorem afX (fr to:h_)(n:Nat)(f g:Nat->h_):(cG fr to (aQ n f g)).length<=n:=by have:=List.length_filter_le (λe:h_×h_=>hasB fr to (ak e.1)) (aQ n f g);rw[fI] at this;exact this
theorem an4:aq H 22 (bV aAa J4):=by
 refine gi (n:=20) Tryz.func22 (by kernel_rfl) (by kernel_rfl) ?_;intro vs l q a h hq;unfold J4 at h;split at h
 ·rename_i x k k' hx;cases h;obtain⟨e1,e2⟩:=awU hx;rw[e1,e2];refine⟨_,aze x,rfl,rfl,au.xD (awm x k k') (by delta Er fu aJ cP aj aC az gK fR cJ dy aD b8 aV dx cN bS nu fk i9 jg gA gd mC TA BG aqD FN;exact rfl) ?_⟩;obtain⟨hn,hv⟩:=hq;have hl:=afX x.fr x.to x.n x.f x.g;obtain⟨b1,b2⟩:=afS hv.E7;simp only[true_and,and_true,ay,T];exact⟨hn,k_ hv.E7,hv,λc hc=>⟨⟨b1,b2,hv.fr,hv.to⟩,λc' hc'=>⟨by omega,(UE _ _).trans (k_ rfl),λ_=>rfl⟩⟩⟩
 ·cases h
def v8 (t:List SV->Bool)(p q:PT):PT:=λargs m nx K=>match t args with
 | true=>p args m nx K
 | false=>q args m nx K
theorem yq {t:List SV->Bool}{p q:PT}(hp:bC p)(hq:bC q):bC (v8 t p q):=by
 intro args m nx K K' hK h;unfold v8 at h ⊢;split at h
 ·exact hp _ _ _ _ _ hK h
 ·exact hq _ _ _ _ _ hK h
theorem J1 {P:Program}{f:FuncId}{t:List SV->Bool}{p q:PT}(hp:aq P f p)(hq:aq P f q):aq P f (v8 t p q):=by
 intro args m nx K hk;unfold v8 at hk;split at hk
 ·exact hp args m nx K hk
 ·exact hq args m nx K hk
def asC (c:mg)(pre:c.G->Prop)(Fg:c.G->ng):mg:={c with pre:=pre,Fg:=Fg}
theorem zz {P:Program}{f:FuncId}{c:mg}{pre:c.G->Prop}{Fg:c.G->ng}(h:aq P f (dI c))(hi: ∀ x,pre x->c.pre x/\∀ g,((Fg x).CF g).holds->((c.Fg x).CF g).holds):aq P f (dI (asC c pre Fg)):=by
 intro args m nx K hk;refine h args m nx K ?_;obtain⟨x,h1,h2⟩:=hk;refine⟨x,(hi x h1).1,yO (λaW h=>m8 (λaW h=> ?_) h) h2⟩;cases hr:QC nx aW with
 | false=>simp only[hr] at h;exact h.elim
 | true=>simp only[hr] at h ⊢;exact(hi x h1).2 _ h
structure HoZ where
 n:Nat
 f:Nat->h_
 g:Nat->h_
 o:Nat
 c:Nat
def HoZ.ho (x:HoZ):HoG:=⟨x.n,x.f,x.g,F,x.o,x.c⟩
noncomputable def adw:mg:={G:=HoZ,n:=1,N:=4,pre:=λx=>x.n<9223372036854775808,args:=λx=>yx.args x.ho,mem:=λx=>yx.mem x.ho,Fg:=λx=>yx.Fg x.ho}
theorem aoE:aq H 12 (dI adw) :=jT (n:=20) Tryz.func12 (by kernel_rfl) (by kernel_rfl) adw λx hx=>⟨_,agt,rfl,LH (λ_ _ _ h=>agA h) x.ho hx⟩
noncomputable def agC:mg:=asC adw (λx=>x.n<9223372036854775808/\hoB x.n x.f x.g=C) λx=>.all JG λy=>.req (Rm x.n x.f x.g y) (.ret (.dr [.ptr 1 C 0,.str F (gQ x.n x.f x.g)]) [(1,pg 2000 2),(2,.fmap (ko y.Fr) (.ref 3 y.g) none),(3,y.A.bare)])
theorem YG {n:Nat}{f g:Nat->h_}(h:hoB n f g=C){y:JG}(hy:UZ (sw n f g).length (vr n f g) (bg (vr n f g 0)) y):Rm n f g y:=by unfold hoB at h;simp only[Q,m_] at h;exact⟨h.2.1,h.2.2,hy⟩
theorem agB (n:Nat)(f g:Nat->h_):bg (vr n f g 0)=gQ n f g:=by rw[Eh];rfl
theorem adx:aq H 12 (dI agC):=zz aoE fun(x:HoZ) hx=>⟨hx.1,λG h=>by show(Sx.fork (hoB x.n x.f x.g) _).holds;rw[dY,hx.2];show ∀ y,_->_;intro y hy;have:=h y (YG hx.2 hy);rw[← agB] at this;exact this⟩
noncomputable def XT:mg:=asC xM (λx=>Rl x/\x.root=gQ x.n x.f x.g/\OR x.fr x.to=C) λx=>.all Nat λc=>.req (x.ns.length<=c) (.ret (.dr [.bY 3 1 C 0 x.ns.length c,.int .i64 C 0]) (vq x.room x.y++[(3,.rows C x.ns.length [xW x.ns] F (c*1) 9)]))
noncomputable def XR:mg:=asC xM (λx=>Rl x/\x.root=gQ x.n x.f x.g/\OR x.fr x.to=F) λx=>.ret (.dr [.bW,.int .i64 C 1]) (vq x.room x.y)
noncomputable def afY:mg:=asC xM (λx=>Rl x/\¬ x.root=gQ x.n x.f x.g) λx=>.ret (.dr [.bW,.int .i64 C 4]) (vq x.room x.y)
theorem XU:aq H 13 (dI XT):=zz D7 fun(x:UX) hx=>⟨hx.1,λG h=>by show(Sx.fork (M (x.root=gQ x.n x.f x.g)) _).holds;rw[dY,k_ hx.2.1];show(Sx.fork (OR x.fr x.to) _).holds;rw[dY,hx.2.2];exact h⟩
theorem XS:aq H 13 (dI XR):=zz D7 fun(x:UX) hx=>⟨hx.1,λG h=>by show(Sx.fork (M (x.root=gQ x.n x.f x.g)) _).holds;rw[dY,k_ hx.2.1];show(Sx.fork (OR x.fr x.to) _).holds;rw[dY,hx.2.2];exact h⟩
theorem acC:aq H 13 (dI afY):=zz D7 fun(x:UX) hx=>⟨hx.1,λG h=>by show(Sx.fork (M (x.root=gQ x.n x.f x.g)) _).holds;rw[dY,l_ hx.2];exact h⟩
def GW (vs:List SV)(l:List Seen):Option (Prop×fC):=match asx vs l with
 | some (_root,w,_)=>some (w.n=0/\w.fr.length<=1000/\w.to.length<=1000,.ret (.dr [.bW,.int .i64 C 10]))
 | none=>none
theorem ama:aq H 14 (bV abv GW):=ajm abz λvs l q' a' h hq=>by
 unfold GW at h;split at h
 ·rename_i root w kk hx;cases h;obtain⟨h0,h1,h2⟩:=hq;refine⟨w.An,GQ root w,by unfold EP;rw[hx],⟨(λi hi=>by rw[h0] at hi;exact absurd hi (X _)),h1,h2⟩,λm nx K hk=> ?_⟩;have e:sk root w=none:=by unfold sk;rw[l_ (show ¬ 0<w.n by rw[h0];exact er 0),Bool.false_and,Z];rfl
  unfold GQ;simp only[fC.vc];rw[dY,e];exact hk
 ·cases h
def auZ:List SV->Bool
 | [_,_,.bW]=>C
 | _=>F
def aBk:List SV->Bool
 | [_,.str C _,_]=>C
 | _=>F
def toA:List SV->Bool
 | [_,_,.agg [_,.str _ [97]]]=>C
 | _=>F
def eF (i:Nat):h_:=[[97],[98]].getD i []
def eG (i:Nat):h_:=[[49],[50]].getD i []
noncomputable def apg:List (FuncId×PT):=(12,dI agC)::(13,v8 aBk (dI afY) (v8 toA (dI XR) (dI XT)))::(14,v8 auZ (bV abv GW) (bV abv (xB 2 eF eG)))::(23,bV az9 Ni)::(22,bV aAa J4)::mX
theorem akq:aR H (λf=>av f apg):=.cons adx (de _) (.cons (J1 acC (J1 XS XU)) (yq (de _) (yq (de _) (de _))) (.cons (J1 ama (Lh 2 eF eG)) (yq (bR _ _) (bR _ _)) (.cons NV (bR _ _) (.cons an4 (bR _ _) gT))))
noncomputable def anF:iG:={bQ with cO:=λf=>av f apg}
theorem aza:Sx.Good H anF:=.of bI akq aO
noncomputable def asn (cfg:iG)(f:Nat)(fn:Func)(args:List SV)(a:fC):VC:=lZ H (calling H cfg 40) [] Ny (cfg.bU f) cfg.rounds fn args [] 0 (λv m _=>a.fit v m)
section
variable (n : Nat) (y : List SV) (x : UX) (z : JG) (f : HoZ)
abbrev TB:=aa (gr 4 133 (bJ (th z) J) (tq z)) (SB.sy (tq x.y) (bJ (th x.y) J) 4 133 C)
abbrev aah:=UL (c6 (c4 0 y) (bG n+0) SV.eJ)
abbrev ahn:Nat->h_:=λa=>UL (c6 (c4 0 y) (aB (bG a)) SV.eJ)
noncomputable def TP:Nat->h_:=λa=>aU a (UX.ns x)
abbrev aqB:=jG 4 (uV x.y) x.y.g
noncomputable def ahD:h_:=gQ f.n f.f f.g
abbrev BM:=ff 98
abbrev aaN:=gK True BG (i9/\b8 (qK x) (qK x))
end
theorem al9:dw (jh 0 (jh 0 (pW 1 (pW 0 (pW 3 (pW 0 (pW 1 (pW 0 (uW 0 (uW 1 (Pl.s 2 (wO (dJ (yI 0 (dJ (yI 1 Pl.t)))) (uW 0 (dJ (yI 2 Pl.t))))))))))))))) (asn anF 11 Tryz.f11 [] (.ret (.bool C C))) ((fun(a:List SV)=>∃(b:HoZ),cM (dy b.n) (aV (hoB b.n b.f b.g)) (aj (0=b.o+0) (2=b.n) (2=b.c)) (bH 4 (SB.view F b.o b.n (gD b.f b.g)) (fz (SV.str C (ff 97)) (SV.str C (ff 49)) (SV.str C BM) (SV.str C (ff 50)) J) 50) (∀(c:JG),Rm b.n b.f b.g c->(∃(d:UX),az (aj (Rl d) (BB d) (aV (Iu d))) (ahD b=d.root) (BM=d.fr) (aC (ff 99=d.to) (2000=d.room) (aa (jG 4 (uV c) c.g) (Ip d)) (TB d c) (∀(e:Nat),aJ (qK d) e (aD (aaN d) (NM 2 eF eG (ahD b) (Sp.mk BM (ff 99) (qK d) (TP d) C 0 e (λ_=>F) (λ_=>0))) (∀(f:Nat),cN 1 f (az (aj True BG uh) bA (gA 1) (gA 1)) (∃(f:UX),az (aj (Rl f) (BB f) (Iu f=F)) (ahD b=f.root) (BM=f.fr) (aC (ff 97=f.to) (d.room=f.room) (aa (aqB d) (Ip f)) (TB f c) (∃(b:UX),aT (Rl b/\¬BB b) (ff 63=b.root) (BM=b.fr) (ff 99=b.to) (f.room=b.room) (aa (aqB f) (Ip b)) (TB b c) (aj (aaN d) (dy 2) (NM 2 (λb=>aah b a) (ahn a) (gQ 2 (λb=>aah b a) (ahn a)) (Xr.sp (Xr.mk 2 (λb=>aah b a) (ahn a) F 0 2 BM (ff 99) (qK d) (TP d) C 0 e)))) (pX 1 1 (aj (cw 1 0) (0<1) (Fk ((jg 0 (mC 2 BM (ff 99) eF eG)).1=BM) (cE (tn 1) (ai fR nM) (cE (tn 1) (dx (tn 1) (tn 1) fR nM) (Fk ((0:Int)<=2) (aj nT nT ((0:Int)<=2)/\ja (bT (ak BM) none (cc 13) 0 0) (aj (tn 1) (aC (aj True BG True) (gA 2) (∀(b:Nat),b<2->bS (aah b a)) (gA 1) (gA 1)) (∀(a:Nat),aJ 1 a (ai (nH IU) nM))) (ai fR nM)) (ai fR nM)) (uP J BM)) (uP J (ff 99)||decide ([]=ak (ff 99)))) (ai fR nM))) (ai fR nM)))))))))))) (pT 2 (SV.agg (pT 1 (SV.str C (ff 50)) (pT 0 (SV.str C BM) Mw))) (pT 0 (SV.agg (pT 1 (SV.str C (ff 49)) (pT 0 (SV.str C (ff 97)) Mw))) (times 2 (SV.cells (SV.agg Mw)))))):=⟨by kernel_rfl,by kernel_rfl⟩
end Go.Proofs.YtoibaecagklkaaaGreatDoor
namespace Go.Proofs.YtoibaecagklkaaaGreatDoor
open Go Sx
theorem Lw (m:Nat)(p:List Rw)(o:List h_):G7 m p o=(vu m p).foldl KQ o:=by
 unfold G7 vu;split
 ·rfl
 ·rw[c5];unfold tQ xF;split
  ·rw[p_ (by omega)];rfl
  ·rw[o_ (by omega)];rfl
theorem F8 {m:Nat}{l:List Rw}{P:Nat->List Rw}(o:List h_): ∀(i:Nat),(∀ j,j<i->P j=bz l j)->fT m P o i=(jR m l i).foldl KQ o
 | 0,_=>rfl
 | i+1,h=>by rw[fT,F8 o i λj hj=>h j (by omega),Lw,h i (eu i),lO,c5]
theorem LQ {r s:Rw}{t:List Rw}(hk: ¬ 0<cg r.1 ((s::t).getLastD r).1){i:Nat}(hi:i<16):Bx (r::s::t) i=bz (r::s::t) i:=by unfold Bx;rw[UP (by omega),dO,p_ hk]
theorem acv {m:Nat}{r s:Rw}{t:List Rw}(hk: ¬ 0<cg r.1 ((s::t).getLastD r).1)(o:List h_):fT m (Bx (r::s::t)) o 16=tQ (m+1) (r::s::t) o:=by unfold tQ;rw[F8 o 16 λj hj=>LQ hk hj,← sQ]
theorem ZN {r s:Rw}{t:List Rw}(h:xE (r::s::t))(i:Nat):Fs (r::s::t) i=eV (cg r.1 ((s::t).getLastD r).1) (r::s::t):=by show dW (l8 r.1 (r::s::t)) (r::s::t)=_;rw[JZ h,Rc h]
theorem aui {m:Nat}{r s:Rw}{t:List Rw}(h:xE (r::s::t))(hk:0<cg r.1 ((s::t).getLastD r).1)(o:List h_):fT m (Fs (r::s::t)) o 1=tQ (m+1) (r::s::t) o:=by unfold tQ;rw[R6 hk,fT,fT,Lw,ZN h]
end Go.Proofs.YtoibaecagklkaaaGreatDoor
namespace Go.Proofs.YtoibaecagklkaaaGreatDoor
open Go Sx
set_option maxRecDepth 20000
theorem Qv (l:List Rw):rdL l=l:=qI l
theorem Ng (l:List Rw):amA l:=⟨rfl,by omega⟩
theorem CZ {B L:List h_}{c:Nat}(h:L=B)(hc:B.length<=c):Tw B c L:=by subst h;exact⟨c,hc,⟨rfl,rfl⟩,aa.refl _⟩
theorem aeE {o:List h_}{t:h_}(h: ¬ 32<=t.length):xF o t=o:=p_ h
theorem avp {o:List h_}{t:h_}(h:MZ o.length (λj=>o.getD j []) t=C):xF o t=o:=by unfold xF KQ;rw[h,cond_true];split<;>rfl
theorem ap4 {o:List h_}{t:h_}(h32:32<=t.length)(h:MZ o.length (λj=>o.getD j []) t=F):xF o t=o++[t]:=by unfold xF KQ;rw[o_ h32,h,cond_false]
theorem ZX (o:List h_)(t:h_):(KQ o t).length<=o.length+1:=by unfold KQ;cases MZ o.length (λi=>o.getD i []) t<;>simp
theorem ZY: ∀(L o:List h_),(L.foldl KQ o).length<=o.length+L.length
 | [],o=>T _
 | t::L,o=>by have h1:=ZY L (KQ o t);have h2:=ZX o t;rw[List.foldl_cons,c!];omega
theorem ap3 {m:Nat}{l:List Rw}(hl:l≠[])(o:List h_):(xF o (ctext m l)).length+(dH m l).length<=o.length+(vu m l).length:=by
 have h:=ZX o (ctext m l);unfold vu xF;rw[p_ hl,R];by_cases e:32<=(ctext m l).length
 ·rw[o_ e,p_ (by omega),List.length_singleton];omega
 ·rw[p_ e,o_ (by omega),List.length_nil];omega
section
attribute [local irreducible] tQ xF ctext dW l8
theorem ase {m t:Nat}{P:Nat->List Rw}{o:List h_}{cs:Nat->Nat}(hm:m<=13)(ht:t<=16)(ho:dZ m (P t))(hn:(P t).length<=1000)(hb:(fT m P o t).length+(vu m (P t)).length<=100000):asd m P o cs t:=by
 intro c hc;have e:fT m P o (t+1)=G7 m (P t) (fT m P o t):=rfl;generalize fT m P o t=B at *;refine⟨λh=> ?_,λh=> ?_⟩
 ·have h:P t=[]:=d_.1 (by have:=i_ h;omega);rw[h] at e;have e:fT m P o (t+1)=B:=e;unfold auC av3;rw[e];exact⟨c,⟨hc,by omega⟩,⟨rfl,rfl⟩,aa.refl _⟩
 ·have h:P t≠[]:=λe=>by rw[e] at h;cases h
  have e:fT m P o (t+1)=tQ m (P t) (xF B (ctext m (P t))):=by rw[e];unfold G7;rw[p_ h]
  have hl:=ap3 (m:=m) h B;have h0:0<(P t).length:=List.length_pos_iff.2 h;rw[Qv];refine⟨⟨⟨Ng _,trivial⟩,⟨by rw[qI];exact ho,h0,hn,hm⟩⟩,⟨λh32=>⟨⟨⟨⟨rfl,by omega⟩,trivial,trivial⟩,by omega⟩,λhi=>⟨⟨by omega,trivial,by omega,by omega⟩,by omega,λc' hc'=> ?_⟩,λhi=>CZ (avp (by simpa using hi)) hc⟩,λh32=>CZ (aeE (by have:=j_ h32;omega)) hc⟩,λc7 h7=>⟨⟨P t,cs t,_,c7⟩,⟨ho,hn,hm,h7,by show(xF B (ctext m (P t))).length+(dH m (P t)).length<=100000;omega⟩,⟨rfl,rfl⟩,⟨rfl,rfl⟩,tB,aa.refl _,λc8 h8=> ?_⟩⟩
  ·have en:=ap4 (i_ h32 |> λh=>by omega) (by simpa using hi:MZ B.length (λj=>B.getD j []) (ctext m (P t))=F);rw[en,R];exact⟨c',hc',⟨rfl,rfl⟩,Sx.aa.tO (by rw[R];rfl) (Nat.mul_one c') λj hj=>by
    show _=(B++[ctext m (P t)]).getD j [];by_cases hjb:j<B.length
    ·rw[o_ hjb,V,V,c_ hjb]
    ·have:j=B.length:=by omega
     subst this;simp[l9]⟩
  ·unfold auC av3;rw[e];exact⟨c8,⟨h8,by omega⟩,⟨rfl,rfl⟩,aa.refl _⟩
theorem auW {m:Nat}{l:List Rw}{i:Nat}(hi:i<16):(jR m l i).length+(vu m (bz l i)).length<=(dH (m+1) l).length:=by
 have: ∀ k,i+1+k<=16->(jR m l (i+1)).length<=(jR m l (i+1+k)).length:=λk=>by
  induction k with
  | zero=>intro _;exact T _
  | succ k ih =>intro h;have:=ih (by omega);rw[← Nat.add_assoc,lO m l (i+1+k),R];omega
 have:=this (16-(i+1)) (by omega);rw[show i+1+(16-(i+1))=16 by omega,← sQ,lO,R] at this;exact this
theorem YP {l:List Rw}(h:l.length<=1000)(i:Nat):(bz l i).length<=1000:=by
 have: ∀ k,(bz l i).length<=rA l (i+1+k):=λk=>by
  induction k with
  | zero=>show _<=rA l i+_;omega
  | succ k ih=>show _<=rA l (i+1+k)+_;omega
 exact an (this 0) (an (Eo l _) h)
theorem ajl {q:Prop}{m:Nat}{x:BeG}(hx:x.Pre (m+1)){P:Nat->List Rw}{n:Nat}(hn:n<=16)(hP:q->∀ i,i<n->P i=bz x.l i)(he:q->fT m P x.o n=tQ (m+1) x.l x.o):atF q m x P n:=by intro y hy;have hk:=hx.k;have ho:=hx.o;have hP:=hP hy.1;refine⟨CZ rfl hx.c,uH.of (N:=n) (λi r hi hr=>⟨?_,hr⟩) (λc hc=>CZ (he hy.1).symm hc) n 0 (by omega)⟩;have hb:=auW (m:=m) (l:=x.l) (i:=i) (by omega);have hl:=ZY (jR m x.l i) x.o;rw[← F8 (P:=P) x.o i λj hj=>hP j (by omega)] at hl;have e:=hP i hi;exact ase (by omega) (by omega) (by rw[e];exact mW hx.ok i) (by rw[e];exact YP hx.n i) (by rw[e];omega)
end
theorem auj {l:List Rw}(h: ¬ l.length<2): ∃ r s t,l=r::s::t:=by
 match l,h with
 | [],h=>exact absurd (Nat.zero_lt_succ _) h
 | [_],h=>exact absurd (eu _) h
 | r::s::t,_=>exact⟨r,s,t,rfl⟩
theorem amE {m:Nat}{l:List Rw}(h:l.length<2)(o:List h_):tQ (m+1) l o=o:=by
 have:dH (m+1) l=[]:=by
  unfold dH;refine zg λi _=>o_ ?_
  match l,h with
  | [],_=>rfl
  | [_],_=>rfl
  | _::_::_,h=>exact absurd h (by simp)
 unfold tQ;rw[this];rfl
theorem Rd {q:Prop}{l:List Rw}(hn:l.length<=1000)(hq:q): ∀(n:Nat) (cs:List Nat) (c:Nat),n+cs.length=16->cs.length<=c->(∀ i,i<cs.length->(Bx l i).length<=cs.getD i 0)->Xk l (agG q (Bx l) (λi=>dW [UInt8.ofNat i] l) 16) n cs c
 | 0,cs,c,h,hc,hl=>by
   have S: ∀ B:SB,aa B B:=aa.refl;have h:cs.length=16:=by omega
   unfold Xk agG;exact⟨(c,λi=>cs.getD i 0),⟨hq,by omega,λi hi=>hl i (by omega)⟩,rfl,by omega,uH.of (N:=16) (λi r hi hr=>⟨⟨rfl,rfl⟩,hr⟩) (uH.of (N:=15) (λi r hi hr=>⟨S _,hr⟩) (S _) 15 0 (by omega)) 16 0 (by omega)⟩
 | n+1,cs,c,h,hc,hl=>by
   refine⟨⟨⟨Ng _,trivial,trivial⟩,hn⟩,λk hk c' hc'=>Rd hn hq n (cs++[k]) c' (by simp;omega) (by simp;omega) λi hi=> ?_⟩;rw[Qv] at hk;by_cases e:i<cs.length
   ·have:=hl i e;simpa [V,c_ e] using this
   ·have e:i=cs.length:=by simp at hi;omega
    subst e;simpa [Bx,V] using hk
theorem U9 (m:Nat)(x:BeG)(hx:x.Pre (m+1)):au (runM (acI m x) 94 cL (NR (m+1)) x):=by
 refine au.xD (asY m x) (by delta Fk Bk NI aM aJ aj az cM aD aX gE aB jH ff fk gp gA uh FC IK GF;exact rfl) ?_;have hn:=hx.n;refine⟨λh=>CZ (amE (by have:=i_ h;omega) _) hx.c,λh=> ?_⟩;obtain⟨r,s,t,hl⟩:=auj (l:=x.l) (by have:=j_ h;omega);have hr:xE (r::s::t):=hl▸ hx.ok.Fb;have eg:(x.l.getD 0 ([],[])).1=r.1:=by rw[hl];rfl
 have h1:r.1.length<m+1:=hx.ok.len r (by rw[hl];exact Y ..);have hk:=hx.k;have ec:l8 r.1 x.l=r.1.take (cg r.1 ((s::t).getLastD r).1):=by rw[hl];exact JZ hr
 have hc:=(tI r.1 ((s::t).getLastD r).1).1;have hz:l8 r.1 x.l=[]↔¬ 0<cg r.1 ((s::t).getLastD r).1:=by rw[ec,← d_,d!];omega
 rw[Qv,eg];refine⟨⟨⟨Ng _,trivial⟩,by rw[hl];exact ey _,hn,by omega⟩,⟨λhq=>⟨⟨⟨Ng _,trivial,trivial⟩,hn⟩,λk hk c hc=> ?_⟩,λhq=> ?_⟩,ajl hx (by omega) (λq i hi=> ?_) λq=> ?_,ajl hx (T _) (λq i hi=> ?_) λq=> ?_⟩
 ·have e:Fs x.l 0=dW (l8 r.1 x.l) x.l:=by unfold Fs;rw[eg]
  refine⟨(c,λ_=>k),⟨by simpa using hq,hc,λi hi=> ?_⟩,rfl,by omega,⟨by rw[e],rfl⟩,by rw[e];exact aa.refl _⟩;rw[show i=0 by omega,e];exact hk
 ·exact Rd hn (by simpa using hq) 16 [] 0 rfl (T _) λi hi=>absurd hi (X _)
 ·have q:0<cg r.1 ((s::t).getLastD r).1:=Classical.byContradiction λe=>q (hz.2 e);rw[show i=0 by omega,hl,ZN hr,dO,o_ q,o_ rfl]
 ·have q:0<cg r.1 ((s::t).getLastD r).1:=Classical.byContradiction λe=>q (hz.2 e);rw[hl];exact aui hr q x.o
 ·rw[hl];exact LQ (hz.1 q) hi
 ·rw[hl];exact acv (hz.1 q) x.o
theorem ajB {m:Nat}(h:aq H 94 (dI (NR m))):aq H 94 (dI (NR (m+1))) :=jT (n:=20) Tryz.func94 (by kernel_rfl) (by kernel_rfl) (NR (m+1)) λx hx=>⟨acI m x,.of bI (aR.cons h (de _) (.cons (MC m) (bR _ _) sZ)) aO,by rfl,U9 m x hx⟩
end Go.Proofs.YtoibaecagklkaaaGreatDoor
namespace Go.Proofs.YtoibaecagklkaaaGreatDoor
open Go Sx
set_option maxRecDepth 20000
section
variable (n : Nat) (s : h_) (x h : Bt) (B : SB) (y : Nat × Wk × Bool × Nat × Nat) (f g : Nat × Wk × Bool × Nat × Nat-> SB) (z : Nat × Int) (A : Wk × Bool × Nat × Nat) (o : Nat × Wk × Bool × Nat × Nat-> h_)
abbrev aeN:List (h_×h_):=if aV (p5 (Sp.full x.g.w) x.x x.p)then x.g.s.fs++[(cC (cat x.p x.x.p),x.x.v)] else x.g.s.fs
abbrev WO:=l9 (dS (lR 0 x) (lR 1 x) (lR 2 x) (lR 3 x) (lR 4 x) (lR 5 x) (lR 6 x) (lR 7 x) (dS (lR 8 x) (lR 9 x) (lR 10 x) (lR 11 x) (lR 12 x) (lR 13 x) (lR 14 x) (lR 15 x) J)) (Int.toNat (NI y.1))
abbrev M6:=cat x.p x.x.p
abbrev nU:=y.2.1
abbrev Tz:=aj (bH 8 (azB (Lk.with x.g y.2) 8 9) (Lk.vs (Lk.with x.g y.2) 8 9) 155) (gz y.2.2.2.2 (f y) (nU y)) (gu y.2.2.2.1 (g y) (nU y))
abbrev aqi:=jk (NI y.1) (∃(a:Nat×Wk×Bool×Nat×Nat),cM (Ch n x a) (aP 16 a.1 16 y.1) (bt (NI y.1) (NI a.1)) (aK (cD (nU y)) (cD (nU a)) y.2.2.2.2 a.2.2.2.2) (aC (aK (cm (nU y)) (cm (nU a)) y.2.2.2.1 a.2.2.2.1) (eX (nU y)=eX (nU a)) (y.2.2.1=a.2.2.1) (gz a.2.2.2.2 (f y) (nU a)) (gu a.2.2.2.1 (g y) (nU a))))
abbrev wW:=NI y.1
abbrev rP:=y.2.2.2
abbrev LW:=cD (nU y)
abbrev LX:=cm (nU y)
abbrev TF:=IV x=F
abbrev zI:=rI z.1 1
abbrev vh:=A.2.2
abbrev ahy:=O x.p
abbrev BZ:=0+O (WQ x)
abbrev ahH:=aj (gG B) (gL (BZ x) (BZ x) 2 (BZ x) 32 (BZ x)) (∀(a:Nat),aJ (aB (BZ x)) a (∃(b:Nat),aD (TF x) (O (aeN x)<=b) (aC (aK (aB (BZ x)) (O (aeN x)) a b) (0<O (aeN x)) (bt (eX (Ca x)) (rH (Ca x).lk)) (TF x) (gz b (gY (aB (BZ x)) (bG a) 50 (gD (λa=>dg a (BZ x) a (BZ x) (jg a (WQ x)).1 s) (λa=>dg a (BZ x) a (BZ x) (jg a (WQ x)).2 (LU x)))) (Wk.p4 (Sp.full (o6 x)) (Ca x) x.x x.p)))))
abbrev aqJ:=∀(a:Wk×Bool×Nat×Nat),Bt.Post n x a->jk (wW y) (∃(b:Nat×Wk×Bool×Nat×Nat),aC (Ch n h b/\aP 16 b.1 16 y.1) (bt (wW y) (wW b)) ((o6 x).fr=(o6 h).fr) ((o6 x).to=(o6 h).to) (aT (az (DI x=DI h) ((o6 x).o=(o6 h).o) (yJ x=yJ h) (rL (o6 x) (o6 h))) (aK (yJ x) (yJ h) (Dj x) (Dj h)) (aK (cD a.1) (LW b) (vh a).2 (rP b).2) (aK (cm a.1) (LX b) (vh a).1 (rP b).1) (eX a.1=eX (nU b)) (a.2.1=b.2.2.1) (cv (cD a.1) (bG (vh a).2) (kD b.2.1 (rP b).2) 50 (gD (λb=>(ov b a.1).1) (λb=>(ov b a.1).2))) (gu (rP b).1 (cY (cm a.1) (aF a.2.2.1) (λb=>lT b a.1) 9) b.2.1) (eZ (yJ x) (aF (Dj x)) (λa=>wT a (o6 x)) (Lk.hs h.g) 9)))
abbrev P5:=0+O (WQ x)
abbrev axt:=gV (iE (gV vB) vB (wJ (m4 0 0 (gV (wI (wI (wI (oy 1 0 (gV (iE (gV vB) vB (uS (dJ (A3 (Pl.s 2 Pl.k))))))))))))))
abbrev TV:=SB.view (DI x) (o6 x).o (yJ x) (bJ (o6 x).f J)
abbrev ahM:=fk (ahy x+13) s/\(lR (Int.toNat (wW y)) x≠J->s=ki x.x x.p (Int.toNat (wW y)))
abbrev T3:=O (aeN x)
abbrev ahV:=lU (ahy x) (bx (PI x))
abbrev aif:=aV (oZ (M6 x))->s=cC (M6 x)
abbrev ar1:=bN (FH x) (aF (zL x)) 9 [wU (Ca x)]
abbrev arx:=∃(a:Wk×Bool×Nat×Nat),cI (Bt.Post (aB n) x a) (aK (Dt x) (cD a.1) (zM x) (vh a).2) (aK (FH x) (cm a.1) (zL x) (vh a).1) (bt (FG x) (eX a.1)) (C=a.2.1) (gz (vh a).2 B a.1) (gu (vh a).1 (ar1 x) a.1)
abbrev aio:=∃(a:Nat),aC (TF x/\T3 x<=a) (aK (Dt x) (T3 x) (zM x) a) (bt (eX (Ca x)) (rH (Ca x).lk)) (TF x) (aa B (kD (Wk.p4 (Sp.full (o6 x)) (Ca x) x.x x.p) a))
abbrev aip:=az True (P5 x<=Dt x) (2*P5 x*32<=281474976710656) (dy (P5 x))
abbrev ait:=A4 5 (m4 0 0 P9)
abbrev aaY:=br z.1 (oL x) (lB (λa=>wT a (o6 x)) (o y) z.1 (oL x) z.2)
abbrev arU:=cY (oL x) (aF (Dj x)) (λa=>wT a (o6 x)) 9
abbrev arW:=uO (A4 5 (m4 0 0 Us))
abbrev Uq:=Pl.n vB (Pl.s 2 Qm)
abbrev arZ:=gV (jW Qm)
end
theorem awz (m:Nat)(q:Bt):dw (dJ (iE ait ait (iE (jQ 1 uy uy) (Pl.n (Pl.n (rF 1 6 (Pl.n (wP 1 12 12 Uq Uq) (Pl.s 14 Uq)) Uq) (Pl.s 6 Uq)) (Pl.s 6 Uq)) (iE (dJ arW) (jQ 0 (Pl.n (oy 1 0 Qm) (oy 0 0 Qm)) (jQ 1 (jW arW) (jQ 0 (jW arW) (jQ 2 (dJ axt) (jQ 3 (dJ arZ) (iE (rF 1 1 (jW arZ) arZ) ait (Pl.s 5 (gV (iE P9 vB (uS (pW 0 (A3 (jW axt))))))))))))) ait)))) (runM (anh m q) 91 Tryz.f91 (O3 (m+1)) q) ((fun(a:Nat×Wk×Bool×Nat×Nat->Nd)=>(fun(b:SB)=>(fun(c:Nat×Wk×Bool×Nat×Nat->SB)=>(fun(d:Nat×Wk×Bool×Nat×Nat->SB)=>(fun(e:Nat×Int->Nd)=>(fun(f:Nat×Wk×Bool×Nat×Nat->h_)=>(fun(g:SB)=>(fun(h:SB)=>aY (dD (FG q)) (arx m q g) (aM 400 (FG q+1) (arx m q g) (gX (ahV q) (bS (M6 q)) (∃(a:h_),aj (aif a q) (cC (M6 q)=a) (C=oZ (M6 q))) (∃(a:h_),aj (aif a q) ([]=a) (F=oZ (M6 q))) (oZ (M6 q))/\(∀(i:h_),aif i q->gE (LU q) (Bk (oZ (M6 q)) (gX (ahV q) (aj (gd (zX q)) (gd (zY q)) (bS (M6 q))) (aD (gG h) (aC (gG b) (aip q/\(∀(a:Nat),cN (P5 q) a (gG h) (ahH i q b))) (gG b) (aip q) (∀(a:Nat),aJ (P5 q) a (ahH i q h))) (aC (gG b) (gG h) (gG b) (aip q) (∀(a:Nat),aJ (P5 q) a (ahH i q h)))) (aio q g) (hasB (zX q) (zY q) (M6 q))) (aio q g)) (aio q g)/\(∀(b:Nat),TF q/\T3 q<=b->(∃(a:Nat×Wk×Bool×Nat×Nat),az (Ch m q a) (0=wW a) (aK (T3 q) (LW a) b (rP a).2) (aC (aK (FH q) (LX a) (zL q) (rP a).1) (rH (Ca q).lk=eX (nU a)) (F=a.2.2.1) (cv (T3 q) (bG b) (kD (nU a) (rP a).2) 50 (jK (aeN q) (aeN q))) (gu (rP a).1 (ar1 q) (nU a))))/\(∀(b:Nat×Wk×Bool×Nat×Nat),Ch m q b->aM (wW b) 16 (aj (yE (ahy q) 1) (k8 2 (ahV q/\(∃(a:h_),aj (ahM a q b) (M6 q=a) (Tz q b c d))) (∃(a:h_),aj (ahM a q b) (cat q.p (fq (wW b))=a) (Tz q b c d)) q.x) (∀(g:h_),ahM g q b->aj (Ix (wW b) 16) (mu 16 (wW b)) (ja (WO q b) (aqi m q b c d) (cE (aj (gd (zX q)) (gd (zY q)) (bS g)) (aqi m q b c d) (az (Ix (wW b) 16) (mu 16 (wW b)) (yC (WO q b)) (Bk (cS (WO q b)) (∃(e:Bt),Bt.Pre m e/\aT (zX q=zX e) (zY q=zY e) (az (DI q=DI e) (IM q=IM e) (oL q=oL e) (rL (o6 q) (o6 e))) (aK (oL q) (oL e) (Dj q) (Dj e)) (aK (LW b) (Dt e) (rP b).2 (zM e)) (aK (LX b) (FH e) (rP b).1 (zL e)) (eX (nU b)=FG e) (b.2.2.1=IV e) (aT (qx (a b) e.x) ((a b).p=PI e) ((a b).v=LU e) (gq 0 0 (a b) e) (gq 1 1 (a b) e) (gq 2 2 (a b) e) (gq 3 3 (a b) e) (gq 4 4 (a b) e) (aT (gq 5 5 (a b) e) (gq 6 6 (a b) e) (gq 7 7 (a b) e) (gq 8 8 (a b) e) (gq 9 9 (a b) e) (gq 10 10 (a b) e) (gq 11 11 (a b) e) (gq 12 12 (a b) e) (aT (gq 13 13 (a b) e) (gq 14 14 (a b) e) (gq 15 15 (a b) e) (g=e.p) (aa (TV q) (TV e)) (aa (arU q) (Lk.hs e.g)) (gz (zM e) (c b) (Ca e)) (gu (zL e) (d b) (Ca e)) (aqJ m e q b))))) (cK (Ix (wW b) 16) (mu 16 (wW b)) (cW (WO q b)/\aV (cH (WO q b))) (I6 (rI (oL q) 1)) (∃(a:Nat×Int),az (aaY q b a f) (rI (oL q) 1=zI a) (-1=a.2) (Tz q b c d)) (∀(a:Nat×Int),aaY q b a f->Fk (0<=zI a) (aj (cw (oL q) (zI a)) (fO (oL q) (zI a)) (Fk (wT (dR (zI a)) (o6 q)=af (WO q b)) (iJ (zI a) 1/\(∃(e:Nat×Int),cM (aaY q b e f) (e.1<a.1) (zI a-1=zI e) (zI a=e.2) (Tz q b c d))) (iJ (zI a) 1/\(∃(e:Nat×Int),cM (aaY q b e f) (e.1<a.1) (zI a-1=zI e) (a.2=e.2) (Tz q b c d))))) (aM a.2 0 (∃(a:Wk×Bool×Nat×Nat),cI (Bt.Post (aB m) q a) (aK (LW b) (cD a.1) (rP b).2 (vh a).2) (aK (LX b) (cm a.1) (rP b).1 (vh a).1) (eX (nU b)=eX a.1) (C=a.2.1) (gz (vh a).2 (c b) a.1) (gu (vh a).1 (d b) a.1)) (cK (cw (oL q) a.2) (cQ (IM q) (dR a.2<oL q)) (bS ((o6 q).f (dR a.2))/\aV (bM ((o6 q).f (dR a.2)))) (cw (oL q) a.2) (cQ (IM q) (dR a.2<oL q)) (∃(f:Lk×h_),cI (aa4 f) (zX q=(kN f).fr) (zY q=(kN f).to) (az (DI q=(kN f).z) (IM q=(kN f).o) (oL q=FM f) (rL (o6 q) (kN f))) (aK (oL q) (FM f) (Dj q) f.1.hc) (aK (LW b) (IL f) (rP b).2 (Dr f)) (aT (aK (LX b) (x7 f) (rP b).1 f.1.c1) (eX (nU b)=eX (qa f)) (b.2.2.1=f.1.b) ((o6 q).f (dR a.2)=f.2) (aa (TV q) (aaH f)) (aa (arU q) (Lk.hs f.1)) (gz (Dr f) (c b) (qa f)) (gu f.1.c1 (d b) (qa f)) (∀(c:Nat),cN (xg f) c (dB (nJ (kq (e a)) 138)) (∃(d:Bt),Bt.Pre m d/\aT ((kN f).fr=zX d) ((kN f).to=zY d) (aaV d f) (aa3 d f) (aK (IL f) (Dt d) (Dr f) (zM d)) (aK (xg f) (FH d) c (zL d)) (eX (qa f)=FG d) (f.1.b=IV d) (aT (qx (e a) d.x) ((e a).p=PI d) ((e a).v=LU d) (gq 0 0 (e a) d) (gq 1 1 (e a) d) (gq 2 2 (e a) d) (gq 3 3 (e a) d) (gq 4 4 (e a) d) (aT (gq 5 5 (e a) d) (gq 6 6 (e a) d) (gq 7 7 (e a) d) (gq 8 8 (e a) d) (gq 9 9 (e a) d) (gq 10 10 (e a) d) (gq 11 11 (e a) d) (gq 12 12 (e a) d) (aT (gq 13 13 (e a) d) (gq 14 14 (e a) d) (gq 15 15 (e a) d) (g=d.p) (aa (TV q) (TV d)) (eZ (FM f) (aF f.1.hc) (λa=>wT a (kN f)) (Lk.hs d.g) 9) (cv (IL f) (bG (Dr f)) (kD (Ca d) (zM d)) 50 (aiw f)) (eZ (xg f) (aF c) (λa=>aU a (aeO f)) (mQ (Ca d) (zL d)) 9) (aqJ m d q b)))))))))))))) (dj (zX q) (zY q) g))))) (∃(a:Wk×Bool×Nat×Nat),cI (Bt.Post (aB m) q a) (aK (LW b) (cD a.1) (rP b).2 (vh a).2) (aK (LX b) (cm a.1) (rP b).1 (vh a).1) (eX (nU b)=eX a.1) (b.2.2.1=a.2.1) (gz (vh a).2 (c b) a.1) (gu (vh a).1 (d b) a.1))))))) (IV q)) (nJ (kq q.x) 138)) (bN (Dt q) (bG (zM q)) 50 (jK (WQ q) (WQ q)))) (λa=>af (WO q a))) (λa=>getD ((o6 q).f (dR a.2)))) (λa=>bN (LX a) (aF (rP a).1) 9 [wU (nU a)])) (λa=>bN (LW a) (bG (rP a).2) 50 (jK (nU a).fs (nU a).fs))) (SB.cells (aG (aA (zX q)) (aA (zY q)) (SV.cT 0 1 (DI q) (IM q) 0 (oL q) (o6 q).c) (dh 1 1 (oL q) (Dj q)) (dh 2 2 (Dt q) (zM q)) (dh 3 1 (FH q) (zL q)) (bF (FG q+1)) (gb (IV q)) J) 8 155)) (λa=>getD (WO q a))):=⟨by kernel_rfl,by kernel_rfl⟩
theorem avK:aq H 89 (bZ WY):=Xq agf λvs q' a' h hq=>by
 unfold WY at h;split at h
 ·rename_i s;cases h;have:=hq.1;refine⟨_,Yy s,rfl,⟨by omega,hq.1⟩,λm nx K hk=> ?_⟩;unfold Yy;simp only[fC.vc];rw[dY,hq.2];exact hk
 ·cases h
theorem asa:aq H 142 (bZ QG):=Xq Ya λvs q' a' h hq=>by
 unfold QG at h;split at h
 ·rename_i t;cases h;refine⟨_,SE t,rfl,hq.1,λm nx K hk=> ?_⟩;unfold SE;simp only[fC.vc];rw[dY,hq.2];exact hk
 ·cases h
section
variable {m : Nat} {q : Wl}
end
end Go.Proofs.YtoibaecagklkaaaGreatDoor
