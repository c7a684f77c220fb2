/- A part of the proof. -/
import Derived.Test.YtoibaecagklkaaaGreatDoorMv
import Derived.RecoverIn
open Bool renaming and_false->Y,false->I,false_and->an,false_eq_true->c5,not_eq_false'->bn,not_eq_true'->bW,true->F,true_eq_false->c6
open Decidable renaming decide->O
open Go.Proofs.Tryz renaming f12->b_,f147->b!,f182->c_,f206->c!,f45->cl,f46->ct,f83->cx,f95->d_,func147->d!,prog->J
open Int renaming toNat_natCast->cy
open List renaming all_eq_true->cB,getD_eq_getElem?_getD->a_,getElem?_eq_getElem->a!,getElem_mem->ec,getElem_of_mem->ei,length->M,length_append->ej,length_map->ep,length_take->ey,mem_cons_of_mem->eA,mem_cons_self->bf,mem_flatMap->cL,mem_map->eB,mem_range->T,mem_singleton->eI,nil->W,range->Z
open Nat renaming le_refl->V,lt_succ_self->eK,not_lt_zero->X,succ_pos->eL,zero_add->ag,zero_le->S
open UInt8 renaming ofNat->bl
namespace Go.Proofs.YtoibaecagklkaaaGreatDoor
open Go Sx
variable {i m n:Nat}{D:Nat->Bool}{us:Nat->Int}{f g:Nat->h_}
section
open Go Sx
set_option maxRecDepth 20000
section
variable (n : Nat) (g : RcG) (z o : Nat × (Nat-> Int)) (x : Xz) (f : JG) (y : List h_ × Nat) (A : RdG) (h : AdG)
abbrev aeT:=gr 4 133 (bJ x.A.mP [jV 6 1 x.A.fb x.A.nb x.A.cb,pQ z.2,pQ x.A.hd]) x.A.D
abbrev PG:=g.g (aU (pY z.1) y.1)
abbrev ag9:=jV 6 1 x.A.fb x.A.nb x.A.cb
abbrev tq:=f.A.D
abbrev th:=f.A.mP
abbrev Z5:=gr 4 133 (bJ (th f) W) (tq f)
abbrev PO:=SB.rows F h.n (bJ h.f W) F (aF h.c) 9
abbrev ahf:=bh.str x.A.mP
abbrev Ir:=qw [h.f 0]
abbrev TI:=x.A.D
abbrev aho:=jG 5 (Ow (λa=>aU a y.1) n) g.g
abbrev TN:=UZ h.n h.f (bg (h.f 0)) f
abbrev aqz:=SB.rows F A.n (bJ A.f W) F (aF A.c) 9
abbrev T7:=g.g (x.A.rf (x.A.fb (PG g z y)) (pY o.1))
abbrev Un:=NI (x.A.nb (PG g z y))
abbrev ahU:=oD z<=Un g o x y/\Rn (TI x) z.2 (16*Int.toNat (oD o)+z.1)
abbrev arf:=gr 4 133 [ahf x,ag9 x,pQ x.A.us,pQ x.A.hd] (TI x)
abbrev aid:=br z.1 (qM y) (Rn (TI x) z.2 (16*z.1))
abbrev uV:=ko f.Fr
end
theorem aBJ (x:AdG):dw (m4 0 0 (oe (jh 4 (jh 0 (pW 0 (jQ 1 uy (iE (uW 1 MA) uy (wO (uW 1 (dJ (iE uy (uW 1 (Pl.s 4 Mg)) MA))) (Pl.s 3 Ml))))))) Pl.t)) (runM amX 46 ct ajp x) (∃(a:RdG),cX (br a.n 1000 (∀(b:Nat),b<a.n->gd (a.f b))) (aK x.n a.n x.c a.c) (Bk (TK a) (∀(b:Xz),TM b a->az (cw x.n 0) (0<x.n) (True/\ofQ [x.f 0]) (∃(c:RcG),cI (az (gA c.n) (Ce c.f c.n c.A c.g) (aV (bw c.f c.n c.root)) (Clo c.n c.f)) (Ir x=c.root) (x.room=c.room) (aa (SB.fmap (bw a.f a.n) (iO.aW (Fa 1 (OT 0 [(0,pg x.room 1),(1,vk),(2,PO x)] (aqz a) (PO x) [(0,2)]) 3) (iO.ref 2 b.g)) none) (jG 3 (bw c.f c.n) c.g)) (aa (arf b) (SB.sy c.A.D (bJ c.A.mP [jV 4 1 c.A.fb c.A.nb c.A.cb,pQ c.A.us,pQ c.A.hd]) 4 133 F)) (aa (mz b.A.n2 b.A.D2 [fW.str b.A.rf]) (SB.ni c.A.D2 c.A.n2 [fW.str c.A.rf] F)) (∀(a:List h_×Nat),aaK c a->iJ c.room (NI 0)/\lS (qM a) (c.room-NI 0) (∃(a:JG),hJ (TN a x)) (cR (∀(d:Nat),aJ d (qM a) (jH d (NI (qM a)) (gX (cw (qM a) (NI d)) (iD d<qM a) (dF d (λb=>nK (br b (qM a) (aP (qM a) b (qM a) d)) (gS d b) (jG 5 (kQ (Ow (λb=>aU b a.1) d) (aU (iD d) a.1)) (Jc c.g (aU (iD d) a.1) (c.g (aU (iD d) a.1)))) (aho b c a))) False (bw c.f c.n (aU (iD d) a.1))) ((∃(c:Nat×(Nat->Int)),nK (aid c b a) (0=oD c) (arf b) (aeT c b))/\(∀(e:Nat×(Nat->Int)),aid e b a->lS (qM a) (oD e) (gX (cw (qM a) (oD e)) (pY e.1<qM a) (aj (aV (b.A.D (PG c e a))) (∃(d:Nat×(Nat->Int)),nK (ahU c d e b a) (0=oD d) (aeT e b) (aeT d b)) (∀(f:Nat×(Nat->Int)),ahU c f e b a->aM (oD f) (Un c e b a) (gX (Ix (oD f) (Un c e b a)) (aV (b.A.D2 (b.A.fb (PG c e a)))/\pY f.1<b.A.n2 (b.A.fb (PG c e a))) (aC (aV (b.A.D (T7 c e f b a))) (dD (f.2 (T7 c e f b a))) (aV (b.A.D (T7 c e f b a))) (dD (oD f)) (∃(d:Nat×(Nat->Int)),nK (ahU c d e b a/\aP (Int.toNat (Un c e b a)) d.1 (Int.toNat (Un c e b a)) f.1) (bt (oD f) (oD d)) (gr 4 133 [ahf b,ag9 b,pQ (λd=>og d (T7 c e f b a) (f.2 (T7 c e f b a)+1) (f.2 d)),pQ b.A.hd] (TI b)) (aeT d b))) False (Ow (λb=>aU b a.1) d (b.A.rf (b.A.fb (PG c e a)) (pY f.1)))) (jk (oD e) (∃(c:Nat×(Nat->Int)),nK (aid c b a/\aP (qM a) c.1 (qM a) e.1) (bt (oD e) (oD c)) (aeT f b) (aeT c b))))) False (bw c.f c.n (aU (pY e.1) a.1))) (Bk (Ow (λb=>aU b a.1) d (Ir x)) (az (aV (b.A.D (c.g (Ir x)))) (dD (b.A.hd (c.g (Ir x)))) (aV (b.A.D (c.g (Ir x)))) (∃(f:JG),k9 (TN f x) (Ir x=bg (x.f 0)) (bH 2 (pg x.room 1) (eC (bF c.room) (SV.map 1)) 126) (aa (gr 4 133 [ahf b,ag9 b,pQ e.2,pQ (λa=>og a (c.g (Ir x)) (b.A.hd (c.g (Ir x))+1) (b.A.hd a))] (TI b)) (Z5 f)) (aho d c a) (jG 3 (uV f) f.g))) False))))) (λb=>nK (b<=qM a) (fy b) vk (aho b c a)))))) (∃(a:JG),hJ (TN a x))) (PO x) (aqz a)):=⟨by kernel_rfl,by kernel_rfl⟩
theorem ajX (e:Nat->h_)(i:Nat)(h:h_):kQ (Ow e i) (e i) h=Ow e (i+1) h:=by unfold kQ Ow;rw[List.range_succ,List.any_append,List.any_cons,List.any_nil,Bool.or_false];congr 1;exact decide_eq_decide.2 ⟨Eq.symm,Eq.symm⟩
theorem aot (Fr:List h_)(h:h_):Ow (λq=>Fr.getD q []) Fr.length h=ko Fr h:=by
 unfold Ow ko;rw[Bool.eq_iff_iff,List.any_eq_true,m_];constructor
 ·rintro⟨q,hq,e⟩;rw[T] at hq;rw[m_] at e;rw[← e];show Fr.getD q []∈ Fr;rw[a_,a! hq];exact ec hq
 ·intro hm;obtain⟨q,hq,e⟩:=ei hm;refine⟨q,T.2 hq,k_ ?_⟩;show Fr.getD q []=h;rw[a_,a! hq];exact e
theorem alp (g:h_->Nat)(s t:h_):Jc g s (g s) t=g t:=by
 unfold Jc;by_cases e:t=s
 ·rw[k_ e,e];rfl
 ·rw[l_ e];rfl
theorem Rn.le {b b':Nat}(h:Rn D us b)(hb:b<=b'):Rn D us b':=⟨λa ha=>by have:=h.all a ha;omega⟩
theorem Rn.up {b:Nat}(h:Rn D us b){a:Nat}(ha:D a=F):Rn D (λj=>if j=a then us a+1 else us j) (b+1):=⟨λj hj=>by
 have h1:=h.all a ha;have h2:=h.all j hj;show 0<=(if j=a then us a+1 else us j)/\(if j=a then us a+1 else us j)<=_
 by_cases e:j=a
 ·rw[o_ e];omega
 ·rw[p_ e];omega⟩
theorem zf (f:Nat->h_): ∀(n i:Nat),i<n->bw f n (bg (f i))=F
 | 0,_,h=>absurd h (X _)
 | n+1,i,h=>by
   by_cases e:i=n
   ·subst e;simp[bw]
   ·have:=zf f n i (by omega);simp[bw,this]
theorem aut {n:Nat->Nat}{ay:List fW}:aa (.ni D n ay I) (.ni D n ay F) :=⟨rfl,λ_ _ ha=>⟨ha,λ_ _ h=>h,λ_=>rfl⟩⟩
theorem F9 {Fr:List h_}(h:i<Fr.length):Fr.getD i []∈ Fr:=by rw[a_,a! h];exact ec h
theorem adC {mP:Nat->h_}{fb nb cb:Nat->Nat}{hd:Nat->Int}{k k':Nat}{ro:Bool}:aa (.sy D [.str mP,.iP k 1 F fb nb cb,.int .i64 us,.int .i64 hd] 4 133 I) (.sy D [.str mP,.iP k' 1 F fb nb cb,.int .i64 us,.int .i64 hd] 4 133 ro):=by
 refine adb rfl (V _) λb hb k c1 c2 h1 h2 E=> ?_
 match k,h1,h2 with
 | 0,h1,h2=>injection h1 with h1;injection h2 with h2;subst h1;subst h2;rfl
 | 1,h1,h2=>injection h1 with h1;injection h2 with h2;subst h1;subst h2;rfl
 | 2,h1,h2=>injection h1 with h1;injection h2 with h2;subst h1;subst h2;rfl
 | 3,h1,h2=>injection h1 with h1;injection h2 with h2;subst h1;subst h2;rfl
 | k+4,h1,_=>simp at h1
theorem adB {A:It}{c2 c3 c4:bh}:aa (.sy A.D [.str A.mP,c2,c3,c4] 4 133 I) A.bare:=by
 refine adb rfl (by show 1<=4;omega) λb hb k c1 c2 h1 h2 E=> ?_
 match k,h1,h2 with
 | 0,h1,h2=>injection h1 with h1;injection h2 with h2;subst h1;subst h2;rfl
 | k+1,_,h2=>simp at h2
theorem ajq (x:AdG)(hx:ajp.pre x):au (runM amX 46 ct ajp x):=by
 refine au.xD (aBJ x) (by delta Fk Bk I6 Ix NI aM aJ aF eC bF aj bH aC az dK dD bt jk iJ cw bJ aV br cI gX aP k9 gS fy i5 cR jH dF oD cX og dR lS pY lu fk aU iD hJ qw aK nK gr jV mz gA gd vk jG TK TM pQ qM aaK aeT PG ag9 tq th Z5 PO ahf Ir TI aho TN aqz T7 Un ahU arf aid uV;exact rfl) ?_;obtain⟨h0,hn,hroom,hmax,hlen,hread,hclo⟩:=hx;have hgood:(O (0<x.n)&&I0 x.n x.f)=true:=by rw[k_ h0,hread];rfl
 have ef:flat [x.f 0]=x.f 0:=by unfold flat;simp
 simp only[cy,ag,true_and,m_,n_,ef];refine⟨⟨x.n,x.f,x.c⟩,⟨hn,hlen⟩,⟨rfl,rfl⟩,aa.refl _,λ_ y hG=> ?_,λh=>by rw[hgood] at h;cases h⟩;have hroot:bw x.f x.n (bg (x.f 0))=true:=zf _ _ _ h0;have hl0:=hlen 0 h0;refine⟨⟨Int.le_refl _,by omega⟩,h0,⟨by rw[ef];show(x.f 0).length<_;omega,by show 1<_;decide⟩,⟨x.n,x.f,y.A,y.g,x.room,bg (x.f 0)⟩,⟨hn,hG,hroot,hclo⟩,rfl,rfl,aa.fmap (λ_=>rfl) (λ_=>rfl),adC,aut,λz ⟨hB,hzc⟩=> ?_⟩;have hL:=hB.len;dsimp only at hL hB ⊢;refine⟨⟨by omega,by omega⟩,λh=>absurd h (by omega),λ_=>⟨⟨0,S _,rfl,aa.SA λ_=>rfl⟩,λi hi=>⟨λhlt=> ?_,λhge=> ?_⟩⟩⟩
 ·have hlt':i<z.1.length:=by omega
  have hd:=hB.dom _ (F9 hlt');refine⟨⟨by omega,hlt⟩,hlt',λ_=>⟨⟨by omega,by omega⟩,i+1,⟨by omega,by omega⟩,by omega,aa.fmap (λh=>ajX (λq=>z.1.getD q []) i h) λh=> ?_⟩,λh=>by rw[hd] at h;cases h⟩;exact congrArg (λv=>(iO.ref 5 λ_=>v).val h) (alp y.g _ h)
 ·obtain rfl:i=z.1.length:=by omega
  have hE: ∀ h,Ow (λq=>z.1.getD q []) z.1.length h=ko z.1 h:=aot _;refine⟨⟨(0,y.A.us),⟨S _,⟨λa ha=>by have:=hG.us a ha;dsimp only;omega⟩⟩,rfl,aa.refl _⟩,λw ⟨hw,hU⟩=>⟨λhlt=> ?_,λhge2=> ?_⟩⟩
  ·have hlt':w.1<z.1.length:=by omega
   have hd:=hB.dom _ (F9 hlt');have hT:y.A.mP (y.g (z.1.getD w.1 []))=K9 x.n x.f (z.1.getD w.1 []):=hG.mP _ hd;have hnb:y.A.nb (y.g (z.1.getD w.1 []))=nV (K9 x.n x.f (z.1.getD w.1 [])):=(hG.nb _ hd).trans (congrArg nV hT);have h16:nV (K9 x.n x.f (z.1.getD w.1 []))<=16:=HE _ 16;refine⟨⟨by omega,hlt⟩,hlt',λ_=>⟨hG.dom _ hd,⟨(0,w.2),⟨by dsimp only;omega,hU⟩,rfl,aa.refl _⟩,λv ⟨hv,hV⟩=>⟨λhj=> ?_,λhj=> ?_⟩⟩,λh=>by rw[hd] at h;cases h⟩
   ·have hj':v.1<y.A.nb (y.g (z.1.getD w.1 [])):=by omega
    obtain⟨r1,r2,r3⟩:=hG.row _ hd (by omega);have hr:y.A.rf (y.A.fb (y.g (z.1.getD w.1 []))) v.1=lJ (K9 x.n x.f (z.1.getD w.1 [])) v.1:=by rw[r3 v.1 hj',hT]
    have hin:lJ (K9 x.n x.f (z.1.getD w.1 [])) v.1∈ z.1:=hB.clo w.1 hlt' hlt' v.1 (by omega);have ha:=hG.dom _ (hB.dom _ hin);rw[hr];have hb:=hV.all _ ha;refine⟨⟨by omega,hj⟩,⟨r1,by omega⟩,λ_=>⟨ha,⟨by omega,by omega⟩,ha,⟨by omega,by omega⟩,(v.1+1,λj=>if j=y.g (lJ (K9 x.n x.f (z.1.getD w.1 [])) v.1)then v.2 (y.g (lJ (K9 x.n x.f (z.1.getD w.1 [])) v.1))+1 else v.2 j),⟨⟨by dsimp only;omega,hV.up ha⟩,by dsimp only;omega⟩,by dsimp only;omega,aa.refl _⟩,λh=>by rw[hE,ko,k_ hin] at h;cases h⟩
   ·exact⟨⟨by omega,by omega⟩,(w.1+1,v.2),⟨⟨by dsimp only;omega,hV.le (by dsimp only;omega)⟩,by dsimp only;omega⟩,by dsimp only;omega,aa.refl _⟩
  ·have hz:=hG.us _ (hG.dom _ hroot);exact⟨λ_=>⟨hG.dom _ hroot,⟨by omega,by omega⟩,hG.dom _ hroot,⟨z.1,y.A,y.g⟩,⟨hB,λh hh=>hG.dom _ (hB.dom h hh),λh hh=>hG.mP _ (hB.dom h hh)⟩,aa.refl _,aa.fmap hE λ_=>rfl,adB⟩,λh=>by rw[hE,ko,k_ hB.root] at h;cases h⟩
theorem axJ:aq J 46 (dI ajp) :=jT (n:=20) Tryz.func46 (by kernel_rfl) (by kernel_rfl) ajp λx hx=>⟨_,ayv,rfl,ajq x hx⟩
def node7 (f:Nat->h_)(i:Nat):Bool:=!decide ((700:Int)<((f i).length:Int))
def aCb (n:Nat)(f:Nat->h_):Bool:=O ((n:Int)<=45)&&(Z n).all (node7 f)
structure aB6 (n:Nat)(t:Nat->Bool)(i:Nat):Prop where
 up:MV n t i
 le:i<=46
def axA (z:Bool)(o c n:Nat)(f:Nat->h_)(key:Option Nat):Seen:=⟨key,z,o,n,c,[.str f]⟩
def shT:List E6:=[.of (.slice dP)]
def apK (f:Nat->h_)(i k:Nat):Bool:=!(O (bg (f k)=bg (f i))&& !decide (f k=f i))
def apR (f:Nat->h_)(i:Nat):Bool:=(Z i).all (apK f i)
def kz (n:Nat)(f:Nat->h_):Bool:=(Z n).all (apR f)
def aow (f:Nat->h_)(i c:Nat):SB:=.rows F i [.str λq=>bg (f q)] I (c*1) 9
noncomputable def axP (n:Nat)(f:Nat->h_):aN :={α:=Nat×Nat,pre:=λ_ y=>iC n (apR f) y.1/\y.1<=y.2,nF:=λ_ y=>n-y.1,fresh:=1,slots:=λst y=>[(4,.int .i64 I y.1),(3,.bY st.nx 1 F 0 y.1 y.2)],mem:=λst y=>[(st.nx,aow f y.1 y.2)]}
noncomputable def axQ (i:Nat)(f:Nat->h_):aN :={α:=Nat,pre:=λ_ k=>iC i (apK f i) k,nF:=λ_ k=>i-k,fresh:=0,slots:=λ_ k=>[(6,.int .i64 I k)],mem:=λ_ _=>[]}
noncomputable def amY (n:Nat)(f:Nat->h_):iG:={bQ with cO:=λf=>av f mX,bU:=λh=>if h=45 then [(3,always (axP n f)),(7,λst=>match slot st.tmps 4 with
 | some (.int _ _ i)=>some (one (axQ i.toNat f))
 | _=>none)] else []}
theorem ayx (n:Nat)(f:Nat->h_):Sx.Good J (amY n f):=.of bI gT aO
theorem awe (n:Nat)(f:Nat->h_)(z:Bool)(o c:Nat)(key:Option Nat):dw (wO uy (Pl.s 2 (iE aqv (wP 1 6 1 PZ PZ) (Pl.s 3 qe)))) (je (amY n f) 45 cl [.cT 0 1 z o 0 n c] [axA z o c n f key] (.ret (.bool I (kz n f)))) ((∃(a:Nat×Nat),cM (iC n (apR f) a.1) (nS a) (mL a) (a.1=0) (fo (aow f a.1 a.2)))/\(∀(a:Nat×Nat),iC n (apR f) a.1/\nS a->Fk (ya n a) (aC (qR n a) (qU o n a) (True/\ofQ [f (fZ a)]) (∃(b:Nat),iC (iM a) (apK f (iM a)) b/\fy b) (∀(b:Nat),iC (iM a) (apK f (iM a)) b->jH b (eD a) (aj (fE b (eD a)) (iD b<a.1) (Fk (bg (kY b f)=qw [f (fZ a)]) (aC (mS b n) (pL o b n) (qR n a) (qU o n a) (aX (ju fR (kz n f)) (dF b (λc=>aD (iC (iM a) (apK f (iM a)) c) (aP (iM a) c (iM a) b) (gS b c))) (ew (kY b f) (f (fZ a))))) (dF b (λc=>aD (iC (iM a) (apK f (iM a)) c) (aP (iM a) c (iM a) b) (gS b c))))) (LR a/\(∀(b:Nat),cN (jc a) b (kP a) (∃(c:Nat×Nat),az (aD (iC n (apR f) c.1) (nS c) (vg n c a)) (j8 a c) (DB b a c) (eZ (jc a) (aF b) (λb=>dg b a.1 b a.1 (bg (f b)) (qw [f (fZ a)])) (cY c.1 (aF c.2) (λa=>bg (f a)) 9) 9)))))) (ju nM (kz n f)))):=⟨by kernel_rfl,by kernel_rfl⟩
theorem XI (h:kz n f=F){k:Nat}(hi:i<n)(hk:k<i)(e:bg (f k)=bg (f i)):f k=f i:=by have h1:=cB.1 h i (T.2 hi);have h2:=cB.1 h1 k (T.2 hk);unfold apK at h2;rw[k_ e,Bool.true_and,Bool.not_not] at h2;exact i_ h2
theorem F3 (h:kz n f=F){k:Nat}(hi:i<n)(hk:k<n)(e:bg (f k)=bg (f i)):f k=f i:=by
 rcases Nat.lt_trichotomy k i with g | g | g
 ·exact XI h hi g e
 ·rw[g]
 ·exact(XI h hk g e.symm).symm
theorem asD (h:kz n f=F)(hi:i<n):K9 n f (bg (f i))=f i:=by obtain⟨h1,h2,h3⟩:=lC f n _ (zf f n i hi);exact F3 h hi (by omega) h3
theorem XH (n:Nat)(f:Nat->h_)(hn:n<=100000)(hf: ∀ i,i<n->(f i).length<1099511627776)(z:Bool)(o c:Nat)(key:Option Nat):au (je (amY n f) 45 cl [.cT 0 1 z o 0 n c] [axA z o c n f key] (.ret (.bool I (kz n f)))):=by
 refine au.xD (awe n f z o c key) (by delta Fk Bk I6 Ix Er NI aM aJ cQ aF aj aC az cM bt fR gb dy aD cw aX bN bJ cY aB b8 gZ cv aV fo eZ dg eD j8 mL kP aP cN nM gS fy i5 jH fE dF lu iD ew qw iM gL ju mS pL kY jc nS vg qR DB ya fZ qU LR;exact rfl) ?_;have ef: ∀ i,flat [f i]=f i:=λi=>by unfold flat;simp
 simp only[cy,ag,true_and,m_,n_,bW,bn,ef];refine⟨⟨(0,0),⟨iC.zero _ _,V _⟩,rfl,rfl,rfl⟩,λx ⟨h1,h2⟩=>⟨λh=> ?_,λh=>jA (h1.done h).symm⟩⟩;obtain⟨i,c⟩:=x;dsimp only at h1 h2 h ⊢;have hlt:i<n:=by omega
 have hi:=hf i hlt;refine⟨⟨by omega,h⟩,hlt,⟨by rw[ef];exact Nat.lt_trans hi (by decide),by show 1<_;decide⟩,⟨0,iC.zero _ _,rfl⟩,λk hk=>⟨λhj=> ?_,λhj=> ?_⟩⟩
 ·have hlt2:k<i:=by omega
  have hkn:k<n:=by omega
  refine⟨⟨by omega,hj⟩,hlt2,λhe=>⟨⟨by omega,by omega⟩,hkn,⟨by omega,h⟩,hlt,λhne=>jA ?_,λhse=>⟨⟨by omega,by omega⟩,k+1,⟨hk.next hj ?_,by omega⟩,by omega⟩⟩,λhne=>⟨⟨by omega,by omega⟩,k+1,⟨hk.next hj ?_,by omega⟩,by omega⟩⟩
  ·cases ha:kz n f with
   | false=>rfl
   | true=>exact absurd (F3 ha hlt hkn he) hne
  ·unfold apK;rw[k_ hse,Bool.not_true,Y];rfl
  ·unfold apK;rw[l_ hne,an];rfl
 ·refine⟨⟨V _,by omega,by omega⟩,λc' hc'=>⟨⟨by omega,by omega⟩,(i+1,c'),⟨⟨h1.next h (hk.done hj),hc'⟩,by dsimp only;omega⟩,by dsimp only;omega,⟨rfl,rfl⟩,?_⟩⟩
  refine tM rfl rfl rfl λk c1 c2 e1 e2 q hq E=> ?_
  match k,e1,e2 with
  | 0,e1,e2 =>
    injection e1 with e1;injection e2 with e2;subst e1;subst e2;simp only[bh.at,SV.val];by_cases hqi:q<i
    ·rw[o_ hqi]
    ·obtain rfl:q=i:=by omega
     rw[p_ hqi,Nat.sub_self];rfl
  | k+1,e1,_=>simp at e1
def JP (vs:List SV)(l:List Seen):Option (Prop×fC):=match vs,l with
 | [_],[⟨_,_,_,n,_,[.str f]⟩]=>some (n<=100000/\(∀ i,i<n->(f i).length<1099511627776),.ret (.bool I (kz n f)))
 | _,_=>none
theorem amz:aq J 45 (bV shT JP):=by
 refine gi (n:=20) Tryz.func45 (by kernel_rfl) (by kernel_rfl) ?_;intro vs l q a h hq;unfold JP at h;split at h
 ·rename_i v key z o n c f;cases h;exact⟨_,ayx n f,rfl,rfl,XH n f hq.1 hq.2 z o c key⟩
 ·cases h
structure HoG where
 n:Nat
 f:Nat->h_
 g:Nat->h_
 z:Bool
 o:Nat
 c:Nat
noncomputable def sw (n:Nat)(f g:Nat->h_):List h_:=fJ (jy 13 (aQ n (λi=>ak (f i)) g))
noncomputable def vr (n:Nat)(f g:Nat->h_)(q:Nat):h_:=(sw n f g).getD q []
noncomputable def hoB (n:Nat)(f g:Nat->h_):Bool:=Hx n f g&&(O (iT n f g=0)&&kz (sw n f g).length (vr n f g))
noncomputable def yx:mg :=
 {G:=HoG,n:=1,N:=4,pre:=λx=>x.n<9223372036854775808,args:=λx=>[.cT 0 2 x.z x.o 0 x.n x.c],mem:=λx=>[(0,.view x.z x.o x.n [.str x.f,.str x.g])],
  Fg:=λx=>.fork (hoB x.n x.f x.g) λb=>match b with
   | true=>.all JG λy=>.req (UZ (sw x.n x.f x.g).length (vr x.n x.f x.g) (bg (vr x.n x.f x.g 0)) y) (.ret (.dr [.ptr 1 F 0,.str I (bg (vr x.n x.f x.g 0))]) [(1,pg 2000 2),(2,.fmap (ko y.Fr) (.ref 3 y.g) none),(3,y.A.bare)])
   | false=>.ret (.dr [.eJ,.str F []]) []}
noncomputable def agP:List (FuncId×PT):=(19,bV UH Oh)::(26,bV UH KH)::(45,bV shT JP)::(46,dI ajp)::mX
theorem ad0:aR J (λf=>av f agP):=.cons auu (bR _ _) (.cons apH (bR _ _) (.cons amz (bR _ _) (.cons axJ (de _) gT)))
noncomputable def acM:iG:={bQ with cO:=λf=>av f agP}
theorem agt:Sx.Good J acM:=.of bI ad0 aO
section
variable (n : Nat) (z f : Nat-> h_) (x : HoG) (y : JG)
noncomputable def aaS:Bool:=hoB x.n x.f x.g
noncomputable def tf:Nat:=M (sw n z f)
noncomputable def Mv:h_:=vr x.n x.f x.g 0
abbrev aeU:=aV (aaS x)->(∃(a:JG),hJ (UZ (tf x.n x.f x.g) (vr x.n x.f x.g) (bg (Mv x)) a))
abbrev RK:=fJ (jy 13 (aQ x.n (λa=>ak (x.f a)) x.g))
abbrev ag7:=UZ (tf x.n x.f x.g) (vr x.n x.f x.g) (bg (Mv x)) y
abbrev ahh:=SB.view x.z x.o x.n (gD x.f x.g)
abbrev aqx:=aj (Er x.z) (Er x.o) (b8 x.n x.n)/\True
abbrev ahz:=not (Hx x.n x.f x.g)
abbrev aqC:=br 0 100000 (∀(a:Nat),a<0->tn 0)
abbrev aqW:List (Nat×SB):=[(3,gW 2 (SV.agg (pT 1 (SV.map 2) (pT 0 (SV.int IntKind.i64 (F&&F) 2000) (eC (bq 0) SV.mo)))) 126),(2,vk),(1,cY (M (RK x)) (aF n) (λa=>aU a (RK x)) 9),(0,ahh x)]
abbrev Mt:=M (RK x)
end
theorem awq (x:HoG):dw (uW 1 (A4 4 (oy 1 0 (oe (jW Ml) Pl.t)))) (runM acM 12 b_ yx x) (aj (aqx x/\True) (aqx x/\dy x.n) (bE (iT x.n x.f x.g) 0 (∀(a:Nat),aJ (Mt x) a (aY (aj (aD i9 (b8 (Mt x) (Mt x)) True) (Mt x<=100000) (∀(a:Nat),a<Mt x->bS (aU a (RK x)))) (aeU x) (aX (aeU x) (∃(b:AdG),k9 (cI (0<b.n) (gA b.n) (NI b.n<=b.room) (b.room<=1000000) (∀(a:Nat),a<b.n->gd (b.f a)) (aV (I0 b.n b.f)) (Clo b.n b.f)) (aK (Mt x) b.n a b.c) (2000=b.room) (∀(c:JG),TN c b->Bk (aaS x) (∃(d:JG),k9 (ag7 x d) (bg (b.f 0)=bg (Mv x)) (b.room=2000) (aa (Z5 c) (Z5 d)) (SB.fmap (uV c) (iO.aW (Fa 3 (OT 0 (aqW a x) (PO b) (cY (M (RK x)) (aF a) (λa=>aU a (RK x)) 9) (OT 0 (aqW a x) vk vk [(1,2),(2,1),(0,3)])) 4) (iO.ref 3 c.g)) none) (jG 3 (uV d) d.g)) False) (cY (M (RK x)) (aF a) (λa=>aU a (RK x)) 9) (PO b)) (kz (Mt x) (λa=>aU a (RK x)))) (ahz x))) (bE (iT x.n x.f x.g) 1 (aD uh aqC (Bk (ahz x) (aeU x) (aeU x))) (aD uh aqC (Bk (ahz x) (aeU x) (aeU x)))))):=⟨by kernel_rfl,by kernel_rfl⟩
theorem apt (l:List Rw):aps l=l:=qI l
theorem asp {l:List Rw}(h:dZ m l)(h0:l≠[])(h1:l.length<=1000)(hm:m<=13):Rws m l.length (λi=>(l.getD i ([],[])).1) λi=>(l.getD i ([],[])).2 :=⟨by rw[qI];exact h,List.length_pos_iff.2 h0,h1,hm⟩
theorem aoW (a:h_):Op.bytesLess a []=false:=by cases a<;>rfl
theorem asT {f g:Nat->h_}: ∀(i:Nat),(∀ j,0<j->j<i->f j≠[])->0<i->Aj f g i=if f 0=[] then g 0 else []
 | 1,_,_=>rfl
 | i+2,h,_=>by rw[Aj,p_ (h (i+1) (eL _) (eK _))];exact asT (i+1) (λj h1 h2=>h j h1 (by omega)) (eL _)
theorem avL (h:xE (aQ n f g)){j:Nat}(h0:0<j)(hj:j<n):f j≠[]:=λe=>by
 have h1:=List.pairwise_iff_getElem.1 h 0 j (by rw[fI];omega) (by rw[fI];exact hj) h0;have h2:(aQ n f g)[j]'(by rw[fI];exact hj)=(f j,g j):=by simp[aQ]
 rw[h2] at h1;have h1:Op.bytesLess _ (f j)=true:=h1;rw[e,aoW] at h1;cases h1
theorem auX (l:List Rw)(i:Nat):(bz l i).length<=l.length:=by
 unfold bz;split
 ·exact S _
 ·exact S _
 ·have:=List.length_filter_le (λr:Rw=>qt i r.1);split
  ·split
   ·unfold eV;rw[ep];exact V _
   ·exact S _
  ·unfold eV;rw[ep];exact this _
theorem ar6 {l:List Rw}(h:bz l i=[])(j:Nat):uz m l (i+1) j=uz m l i j:=by
 rw[← Qz];split
 ·rename_i e;subst e;unfold uz;rw[p_ (Nat.lt_irrefl _),h];rfl
 ·rfl
theorem ZA (m n:Nat)(f g:Nat->h_)(h:Rws (m+1) n f g)(z:Bool)(o c:Nat)(key:Option Nat):au (je (acP m n f g) 147 b! [.cT 0 2 z o 0 n c] [fX z o c n f g key] (.ret (gR (m+1) (aQ n f g)).sv)):=by
 refine au.xD (aww m n f g z o c key) (by delta Fk Bk I6 Ix Er NI fu dQ fM aM aJ fq cQ bq kI aj bH aC az bE cM bt aA eY ja fz aD cw aX aB b8 br aP gS fy i5 cR fE dF lS cE lu aG pH qN mJ nJ fk kO tu lI iD My yF iX i9 mS rQ pL kY gp nK pX gA uh nR Il LZ aag aal;exact rfl) ?_;obtain⟨hr,h0,hn,hm⟩:=h;have hl:=fI n f g;have hg0:=HP (f:=f) (g:=g) h0;have hf0:(f 0).length<=100000:=by have:=hr.len (f 0,g 0) (by unfold aQ;exact eB.2 ⟨0,T.2 h0,rfl⟩);have:(f 0).length<m+1:=this;omega
 simp only[cy,ag,V,true_and,and_true,m_,n_,apt,bW,bn];refine⟨λh=>by omega,λ_=>⟨λh1=> ?_,λh1=>⟨⟨h0,hn,hf0⟩,?_⟩⟩⟩
 ·obtain rfl:n=1:=by omega
  exact⟨by omega,h0,by omega,h0,λ_=>rfl⟩
 ·obtain⟨r,s,t,e⟩: ∃ r s t,aQ n f g=r::s::t:=by
   cases e:aQ n f g with
   | nil=>rw[e] at hl;simp at hl;omega
   | cons r u=>cases u with
     | nil=>rw[e] at hl;simp at hl;omega
     | cons s t=>exact⟨r,s,t,rfl⟩
  have er:(f 0,g 0)=r:=by rw[← hg0,e];rfl
  have ef:f 0=r.1:=congrArg Prod.fst er;have eg:g 0=r.2:=congrArg Prod.snd er;have hR:xE (r::s::t):=by rw[← e];exact hr.Fb
  have hcom:l8 (f 0) (aQ n f g)=r.1.take (cg r.1 ((s::t).getLastD r).1):=by rw[ef,e];exact JZ hR
  have hk:=(tI r.1 ((s::t).getLastD r).1).1;have hkid:=λi=>mW hr i;have hkl:=λi=>auX (aQ n f g) i;refine⟨λhc=> ?_,λhc=> ?_⟩
  ·have hK:0<cg r.1 ((s::t).getLastD r).1:=Nat.pos_of_ne_zero λh=>hc (by rw[hcom,h];rfl);have eu:dW (l8 (f 0) (aQ n f g)) (aQ n f g)=bz (aQ n f g) 0:=by rw[hcom,e,Rc hR,dO,o_ hK,o_ rfl]
   have en:bz (aQ n f g) 0≠[]:=by rw[e,dO,o_ hK,o_ rfl];exact List.cons_ne_nil _ _
   rw[eu];refine⟨hn,λc _=>⟨asp (hkid 0) en (by have:=hkl 0;omega) (by omega),?_⟩⟩;have ek:gR (m+1) (aQ n f g)=⟨2,l8 (f 0) (aQ n f g),[],cV (qv m (bz (aQ n f g) 0))⟩:=by rw[hcom,e,agb hK,dO,o_ hK,o_ rfl]
   rw[ek];exact λ_=>rfl
  ·have hK: ¬ 0<cg r.1 ((s::t).getLastD r).1:=λh=>by have:=congrArg M (hcom.symm.trans hc);rw[ey,List.length_nil] at this;omega
   have hv:Aj f g n=if r.1=[] then r.2 else []:=by rw[asT n (λj h1 h2=>avL hr.Fb h1 h2) h0,ef,eg]
   have eu: ∀ i:Nat,i<16->dW [bl ((i:Int)%256).toNat] (aQ n f g)=bz (aQ n f g) i:=λi hi=>by
    have:((i:Int)%256).toNat=i:=by omega
    rw[this,UP (by omega),e,dO,p_ hK]
   refine⟨⟨0,S _,rfl,aa.cells (λ_=>rfl) rfl⟩,λi hi=>⟨λhin=> ?_,λhin=>⟨⟨0,S _,rfl,?_⟩,λj hj=>⟨λhj'=> ?_,λhj'=> ?_⟩⟩⟩⟩
   ·have hin:i<n:=by omega
    refine⟨by omega,hin,λhf=>⟨by omega,hin,by omega,i+1,⟨hin,by omega⟩,rfl,?_⟩,λhf=>⟨by omega,i+1,⟨hin,by omega⟩,rfl,?_⟩⟩
    ·rw[Aj,o_ hf];exact aa.refl _
    ·rw[Aj,p_ hf];exact aa.refl _
   ·obtain rfl:i=n:=by omega
    exact aa.cells (λ_=>rfl) rfl
   ·have hj':j<16:=by omega
    rw[eu j hj'];refine⟨hn,λc _=>⟨λhp=>⟨asp (hkid j) (λh=>by rw[h] at hp;exact absurd hp (by decide)) (by have:=hkl j;omega) (by omega),by omega,hj',by omega,j+1,⟨hj',by omega⟩,rfl,?_⟩,λhp=>⟨by omega,j+1,⟨hj',by omega⟩,rfl,?_⟩⟩⟩
    ·simp only[Qz];exact aa.refl _
    ·have:bz (aQ n f g) j=[]:=List.eq_nil_of_length_eq_zero (by omega);rw[show uz m (aQ n f g) (j+1)=uz m (aQ n f g) j from funext (ar6 this)]
     exact aa.refl _
   ·obtain rfl:j=16:=by omega
    have ek:gR (m+1) (aQ n f g)=⟨3,[],Aj f g n,iq (uz m (aQ n f g) 16)⟩:=by rw[hv,e,N4 hK]
    rw[ek];exact λ_=>rfl
theorem awl (s:h_)(R:SV->Prop):VC.holds (eS anb 206 c! [.str I s] R)=((O ((↑s.length:Int)<(32:Int))=F->R (SV.str I s))/\(O ((↑s.length:Int)<(32:Int))=I->s.length<(1152921504606846976:Nat)/\(32:Nat)<(1152921504606846976:Nat)/\R (SV.str I (aS (bg s))))):=by kernel_rfl
theorem auF:Sx.Good J anb:=.of bI sY aO
theorem anZ:aq J 206 (aI EJ):=by
 refine iH auF (n:=20) (fn:=c!) Tryz.func206 (by kernel_rfl) (by kernel_rfl) ?_;intro args p r h hp;unfold EJ at h;split at h
 ·rename_i s;cases h;refine⟨rfl,rfl,au.of_eq (awl s _) ⟨λa=> ?_,λa=>⟨hp,by omega,?_⟩⟩⟩
  ·have a:=i_ a;exact dc (by rw[j5,o_ (by omega)])
  ·have a:=j_ a;exact dc (by rw[j5,p_ (by omega)])
 ·cases h
theorem ai1:aq J 146 (bZ W3):=Xq (agj (xP 9223372036854775808)) λvs q' a' h hq=>by obtain⟨x,hx,hg⟩:=AP h;subst hx;cases hg;refine⟨_,ZW x.again,rfl,⟨HA hq.2.1,hq.2.2⟩,λm nx K hk=> ?_⟩;unfold ZW;simp only[fC.vc];rw[dY,(qX (o8 x):aZ x.again=aZ x),hq.1,(EG (o8 x):eM x.again=eM x)];exact hk
theorem aBd {l:List Rw}(h:dZ (m+1) l):(gR (m+1) l).p.length<=m:=by
 show(nv _ l).p.length<=m;unfold nv;split
 ·exact S _
 ·rename_i r;have:=h.len r (bf ..);exact Nat.le_of_lt_succ this
 ·rename_i r s t;have:=h.len r (bf ..);split
  ·show(List.take _ _).length<=m;rw[ey];omega
  ·exact S _
theorem Rws.ne (h:Rws m n f g):aQ n f g≠[]:=λe=>by have:=fI n f g;rw[e] at this;have:=h.n0;simp at *;omega
theorem Rws.pos (h:Rws m n f g): ∃ k,m=k+1:=by
 cases m with
 | zero =>have:=h.ok.len (f 0,g 0) (by unfold aQ;exact eB.2 ⟨0,T.2 h.n0,rfl⟩);exact absurd this (X _)
 | succ k=>exact⟨k,rfl⟩
theorem Vf (m n:Nat)(f g:Nat->h_)(h:Rws m n f g)(z:Bool)(o c:Nat)(key:Option Nat):au (je (acJ m) 95 d_ [.cT 0 2 z o 0 n c] [fX z o c n f g key] (.ret (.str I (ctext m (aQ n f g))))):=by
 refine au.xD (as1 m n f g z o c key) (by delta Er aj aA aD dA b8 aV dx nR;exact rfl) ?_;obtain⟨k,rfl⟩:=h.pos;have hs:=o8 (gR (k+1) (aQ n f g));have hv:=jB h.m h.ok h.ne;have hm:=h.m;have hp:=aBd h.ok;refine⟨⟨⟨⟨rfl,rfl,by omega⟩,trivial⟩,h⟩,⟨(qX hs).trans hv,λj hj=> ?_,?_⟩,dc (EG hs)⟩
 ·rw[show(gR (k+1) (aQ n f g)).again.r j=_ from hs.r j hj]
  exact CC (by omega) h.ok j hj
 ·show(gR (k+1) (aQ n f g)).p.length<_;omega
theorem aeX (m n:Nat)(f g:Nat->h_)(h:Rws m n f g)(z:Bool)(o c:Nat)(key:Option Nat):au (je (acS m) 182 c_ [.cT 0 2 z o 0 n c] [fX z o c n f g key] (.ret (.str I (qv m (aQ n f g))))):=by refine au.xD (aAE m n f g z o c key) (by delta Er aj aA aD dA b8 dx nR;exact rfl) ?_;have hl:=rj h.m h.ok h.ne;exact⟨⟨⟨⟨rfl,rfl,by omega⟩,trivial⟩,h⟩,by omega,dc (by unfold qv;rw[p_ h.ne])⟩
theorem alc (h:aq J 182 (asl m)):aq J 147 (WZ (m+1)):=by
 refine gi (n:=20) (fn:=b!) d! (by kernel_rfl) (by kernel_rfl) ?_;intro vs l q a hh hq;unfold tA at hh;split at hh
 ·cases hh;exact⟨acP m _ _ _,.of bI (aR.cons h (bR _ _) sZ) aO,rfl,rfl,ZA m _ _ _ hq _ _ _ _⟩
 ·cases hh
theorem Qu (h:aq J 147 (WZ m)):aq J 95 (EI m):=by
 refine gi (n:=20) Tryz.func95 (by kernel_rfl) (by kernel_rfl) ?_;intro vs l q a hh hq;unfold tA at hh;split at hh
 ·cases hh;exact⟨acJ m,.of bI (aR.cons h (bR _ _) (.cons ai1 (bK _) sZ)) aO,rfl,rfl,Vf m _ _ _ hq _ _ _ _⟩
 ·cases hh
theorem asm (h:aq J 95 (EI m)):aq J 182 (asl m):=by
 refine gi (n:=20) Tryz.func182 (by kernel_rfl) (by kernel_rfl) ?_;intro vs l q a hh hq;unfold tA at hh;split at hh
 ·cases hh;exact⟨acS m,.of bI (aR.cons h (bR _ _) (.cons anZ (aE _) sZ)) aO,rfl,rfl,aeX m _ _ _ hq _ _ _ _⟩
 ·cases hh
theorem QI: ∀ m,aq J 147 (WZ m)
 | 0=>by
   refine gi (n:=20) (fn:=b!) d! (by kernel_rfl) (by kernel_rfl) ?_;intro vs l q a hh hq;unfold tA at hh;split at hh
   ·cases hh;obtain⟨k,hk⟩:=hq.pos;cases hk
   ·cases hh
 | m+1=>alc (asm (Qu (QI m)))
theorem MC (m:Nat):aq J 95 (EI m):=Qu (QI m)
def FY (l:List h_)(c:Nat):SB:=.rows F l.length [xW l] I c 9
def KQ (o:List h_)(t:h_):List h_:=bif MZ o.length (λi=>o.getD i []) t then o else o++[t]
def tQ (m:Nat)(l:List Rw)(o:List h_):List h_:=(dH m l).foldl KQ o
structure BeG where
 l:List Rw
 c:Nat
 o:List h_
 co:Nat
structure BeG.Pre (m:Nat)(x:BeG):Prop where
 ok:dZ m x.l
 n:x.l.length<=1000
 k:m<=13
 c:x.o.length<=x.co
 o:x.o.length+(dH m x.l).length<=100000
def NR (m:Nat):mg :=
 {G:=BeG,n:=2,N:=3,pre:=λx=>x.Pre m,args:=λx=>[.bY 0 2 F 0 x.l.length x.c,.bY 1 1 F 0 x.o.length x.co],
  mem:=λx=>[(0,.rows F x.l.length [nj x.l,nk x.l] F (x.c*2) 50),(1,FY x.o x.co)],
  Fg:=λx=>.all Nat λc=>.req ((tQ m x.l x.o).length<=c) (.ret (.bY 2 1 F 0 (tQ m x.l x.o).length c) [(2,FY (tQ m x.l x.o) c)])}
noncomputable def azr (m:Nat):List (FuncId×PT):=(94,dI (NR m))::(95,EI m)::CP
def xF (o:List h_)(t:h_):List h_:=if 32<=t.length then KQ o t else o
def G7 (m:Nat)(p:List Rw)(o:List h_):List h_:=if p=[] then o else tQ m p (xF o (ctext m p))
def fT (m:Nat)(P:Nat->List Rw)(o:List h_):Nat->List h_
 | 0=>o
 | i+1=>G7 m (P i) (fT m P o i)
def Fs (l:List Rw):Nat->List Rw:=λ_=>dW (l8 (l.getD 0 ([],[])).1 l) l
def Bx (l:List Rw):Nat->List Rw:=λi=>dW [bl i] l
def axm (st:Sx.St):List Nat:=match slot st.tmps 1 with
 | some (.bY k _ _ _ _ _)=>[k]
 | _=>[]
def axe (st:Sx.St):Nat:=match slot st.tmps 8 with
 | some (.int _ _ i)=>i.toNat
 | _=>0
def agF (L:List h_):aN :={α:=Nat,pre:=λ_ c=>L.length<=c,nF:=λ_ _=>0,fresh:=1,slots:=λst c=>[(1,.bY st.nx 1 F 0 L.length c)],mem:=λst c=>[(st.nx,FY L c)],drop:=axm}
def azg (L:List h_)(i:Nat):aN :={α:=Nat,pre:=λ_ c=>L.length<=c,nF:=λ_ _=>17-i,fresh:=1,slots:=λst c=>[(8,.int .i64 F i),(1,.bY st.nx 1 F 0 L.length c)],mem:=λst c=>[(st.nx,FY L c)],drop:=axm}
def agw (m:Nat)(o:List h_)(P:Nat->List Rw)(i:Nat):aN:=azg (fT m P o i) i
def aek (st:Sx.St):Nat:=match slot st.tmps 5 with
 | some (.bY _ _ _ _ n _)=>n
 | some (.slc _ _ n _ _)=>n
 | _=>0
def akT (P:Nat->List Rw)(k:Nat)(cs:Nat->Nat)(n:Nat):List SV:=(Z n).map λi=>.bY (k+i) 2 F 0 (P i).length (cs i)
def avn (P:Nat->List Rw)(k:Nat)(cs:Nat->Nat)(n:Nat):Mem:=(Z n).map λi=>(k+i,.rows F (P i).length [nj (P i),nk (P i)] I (cs i*2) 50)
def aoO (q:Prop)(P:Nat->List Rw)(n:Nat):aN :=
 {α:=Nat×(Nat->Nat),pre:=λ_ y=>q/\n<=y.1/\∀ i,i<n->(P i).length<=y.2 i,nF:=λ_ _=>0,fresh:=n+1,slots:=λst y=>[(5,.slc st.nx 0 n I y.1)],
  mem:=λst y=>(st.nx,.cells (akT P (st.nx+1) y.2 n) y.1 22)::avn P (st.nx+1) y.2 n}
def aAK (l:List Rw):Nat->aN
 | 1=>aoO (l8 (l.getD 0 ([],[])).1 l≠[]) (Fs l) 1
 | _=>aoO (l8 (l.getD 0 ([],[])).1 l=[]) (Bx l) 16
noncomputable def ax7 (m:Nat)(x:BeG):B6:=[(105011,λ_=>some ⟨[1,16],aek,aAK x.l⟩),(12,λst=>match aek st with
  | 1=>some ⟨[0,1],axe,agw m x.o (Fs x.l)⟩
  | _=>some ⟨[0,1,2,3,4,5,6,7,8,9,10,11,12,13,14,15,16],axe,agw m x.o (Bx x.l)⟩),
 (116018,λst=>match aek st,slot st.tmps 8 with
   | 1,some (.int _ _ (.ofNat i))=>some (one (agF (xF (fT m (Fs x.l) x.o i) (ctext m (Fs x.l i)))))
   | _,some (.int _ _ (.ofNat i))=>some (one (agF (xF (fT m (Bx x.l) x.o i) (ctext m (Bx x.l i)))))
   | _,_=>none)]
noncomputable def acI (m:Nat)(x:BeG):iG:={bQ with cO:=λf=>av f (azr m),bU:=λh=>if h=94 then ax7 m x else []}
noncomputable def am1:iG:={bQ with cO:=λf=>av f ((144,akL)::CO)}
def rdL (l:List Rw):List Rw:=aQ l.length (λj=>(l.getD j ([],[])).1) λj=>(l.getD j ([],[])).2
def alh (ro:Bool)(l:List Rw)(c:Nat):SB:=.rows F l.length [nj l,nk l] ro (c*2) 50
def av3 (L:List h_)(c:Nat)(L':List h_)(c':Nat):Prop:=(L.length=L'.length/\c=c')/\aa (FY L c) (FY L' c')
def amA (l:List Rw):Prop:=F=F/\0+l.length<=l.length
def agG (q:Prop)(P Q:Nat->List Rw)(n:Nat)(cs:List Nat)(c:Nat):Prop:=∃ y:Nat×(Nat->Nat),(q/\n<=y.1/\∀ i,i<n->(P i).length<=y.2 i)/\c=y.1/\y.1=c*1/\uH (λi r=>((Q i).length=(P i).length/\cs.getD i 0=y.2 i)/\r) 0 n (uH (λi r=>aa (alh I (Q i) (cs.getD i 0)) (alh I (P i) (y.2 i))/\r) 0 (n-1) (aa (alh I (Q (n-1)) (cs.getD (n-1) 0)) (alh I (P (n-1)) (y.2 (n-1)))))
def Xk (l:List Rw)(z:List Nat->Nat->Prop):Nat->List Nat->Nat->Prop
 | 0,cs,c=>z cs c
 | n+1,cs,_=>((amA l/\True/\True)/\l.length<=1000)/\∀ x,(dW [bl cs.length] (rdL l)).length<=x->∀ c,cs.length+1<=c->Xk l z n (cs++[x]) c
def auC (m:Nat)(P:Nat->List Rw)(o:List h_)(t:Nat)(L:List h_)(c:Nat):Prop:=∃ y,((fT m P o (t+1)).length<=y/\17-(t+1)<17-t)/\av3 L c (fT m P o (t+1)) y
def Tw (B:List h_)(c:Nat)(L:List h_):Prop:=∃ y,L.length<=y/\av3 B c L y
def asd (m:Nat)(P:Nat->List Rw)(o:List h_)(cs:Nat->Nat)(t:Nat):Prop:=∀ c,(fT m P o t).length<=c->(O (((P t).length:Int)=0)=F->auC m P o t (fT m P o t) c)/\(O (((P t).length:Int)=0)=I->((amA (P t)/\True)/\Rws m (P t).length (λj=>((P t).getD j ([],[])).1) λj=>((P t).getD j ([],[])).2)/\((O (32<=((ctext m (rdL (P t))).length:Int))=F->(((F=F/\0+(fT m P o t).length<=(fT m P o t).length)/\True/\True)/\(fT m P o t).length<9223372036854775808)/\((!MZ (fT m P o t).length (λj=>(fT m P o t).getD j []) (ctext m (rdL (P t))))=F->(0+(fT m P o t).length<=(fT m P o t).length/\True/\2*((fT m P o t).length+1)*16<=281474976710656/\(fT m P o t).length+1<9223372036854775808)/\c=c*1/\∀ c',(fT m P o t).length+1<=c'->∃ y,(xF (fT m P o t) (ctext m (P t))).length<=y/\((fT m P o t).length+1=(xF (fT m P o t) (ctext m (P t))).length/\c'=y)/\aa (.rows F ((fT m P o t).length+1) [.str λj=>if j<(fT m P o t).length then(fT m P o t).getD j [] else l9 [ctext m (rdL (P t))] (j-(fT m P o t).length)] I (c'*1) 9) (FY (xF (fT m P o t) (ctext m (P t))) y))/\((!MZ (fT m P o t).length (λj=>(fT m P o t).getD j []) (ctext m (rdL (P t))))=I->Tw (fT m P o t) c (xF (fT m P o t) (ctext m (P t)))))/\(O (32<=((ctext m (rdL (P t))).length:Int))=I->Tw (fT m P o t) c (xF (fT m P o t) (ctext m (P t)))))/\∀ c7,(xF (fT m P o t) (ctext m (P t))).length<=c7->∃ x:BeG,x.Pre m/\((P t).length=x.l.length/\cs t=x.c)/\((xF (fT m P o t) (ctext m (P t))).length=x.o.length/\c7=x.co)/\aa (alh I (P t) (cs t)) (alh F x.l x.c)/\aa (FY (xF (fT m P o t) (ctext m (P t))) c7) (FY x.o x.co)/\∀ c8,(tQ m x.l x.o).length<=c8->auC m P o t (tQ m x.l x.o) c8)
def atF (q:Prop)(m:Nat)(x:BeG)(P:Nat->List Rw)(n:Nat):Prop:=∀ y:Nat×(Nat->Nat),(q/\n<=y.1/\∀ i,i<n->(P i).length<=y.2 i)->Tw x.o x.co (fT m P x.o 0)/\uH (λt r=>asd m P x.o y.2 t/\r) 0 n (∀ c,(fT m P x.o n).length<=c->Tw (fT m P x.o n) c (tQ (m+1) x.l x.o))
section
variable (y : Pl) (x : BeG)
abbrev aaB:=Pl.n (dJ Pl.k) (jh 0 Pl.t)
abbrev Dg:=Pl.n (jW aaB) (jQ 0 (Pl.n (rF 0 0 (oy 0 0 aaB) aaB) (dJ aaB)) (jQ 0 (dJ Pl.k) (rF 0 0 (dJ Pl.k) (gV (jW aaB)))))
abbrev FC:=M x.l
abbrev IK:=(gp 0 x.l).1
abbrev aaE:=wJ Pl.k
abbrev A3:=gV (gV y)
abbrev wI:=A3 (A3 y)
abbrev uS:=wJ (wJ y)
abbrev GF:=rdL x.l
end
theorem asY (m:Nat)(x:BeG):dw (Pl.n aaE (jQ 0 (Pl.n (jQ 1 BI qe) (jQ 31 BI (oe vB (uS (uS (uS (uS (uS (uS (uS (m4 0 0 (A3 (wI Us))))))))))))) (iE (iE (jW azZ) Dg aaE) (jW azZ) (iE Dg Dg (iE Dg Dg (iE Dg Dg (iE Dg Dg (iE Dg Dg (iE Dg Dg (iE Dg Dg (iE Dg Dg aaE))))))))))) (runM (acI m x) 94 Tryz.f94 (NR (m+1)) x) (jH (FC x) 2 (Tw x.o x.co (tQ (aB m) x.l x.o)) (az (cM (amA x.l) True (0<FC x) (gA (FC x)) (fk 100000 (IK x))) (gE (l8 (IK x) (GF x)) (aD (amA x.l) uh (gA (FC x))/\(∀(a:Nat),aJ (M (dW (l8 (IK x) (GF x)) (GF x))) a (∀(b:Nat),aJ 1 b (agG (l8 (IK x) x.l≠W) (Fs x.l) (λ_=>dW (l8 (IK x) (GF x)) (GF x)) 1 [a] b)))) (Xk x.l (agG (l8 (IK x) x.l=[]) (Bx x.l) (λa=>dW (ff (bl a)) (GF x)) 16) 16 W 0)) (atF (l8 (IK x) x.l≠W) m x (Fs x.l) 1) (atF (l8 (IK x) x.l=[]) m x (Bx x.l) 16))):=⟨by kernel_rfl,by kernel_rfl⟩
structure axG (n:Nat)(f g:Nat->h_):Prop where
 pos:0<(sw n f g).length
 le:(sw n f g).length<=1000
 len: ∀ i,i<(sw n f g).length->(vr n f g i).length<=1000
 read:I0 (sw n f g).length (vr n f g)=F
 clo:kz (sw n f g).length (vr n f g)=F->Clo (sw n f g).length (vr n f g)
theorem LH (H: ∀ n f g,iT n f g=0->axG n f g)(x:HoG)(hx:yx.pre x):au (runM acM 12 b_ yx x):=by
 refine au.xD (awq x) (by delta Fk Bk Er NI aJ aF eC bq aj aC bE dy aY aD aX bN bJ cY gW b8 aV br cI k9 bS fk pT aU tn hJ i9 gD aK gr gA uh gd vk jG tq th Z5 PO TN uV aaS tf Mv aeU RK ag7 ahh aqx ahz aqC aqW Mt;exact rfl) ?_;have hx:x.n<9223372036854775808:=hx;have no0: ∀ {P:Prop},iT x.n x.f x.g≠0->hoB x.n x.f x.g=F->P:=λh e=>by unfold hoB at e;rw[l_ h,an,Y] at e;cases e
 have no1: ∀ {P:Prop},Hx x.n x.f x.g=I->hoB x.n x.f x.g=F->P:=λh e=>by unfold hoB at e;rw[h,an] at e;cases e
 simp only[ag,V,true_and,and_true,m_,n_,bW,bn];refine⟨hx,λh0 c hc=> ?_,λh0=>⟨λ_=>⟨⟨S _,λi hi=>absurd hi (X _)⟩,λ_=>no0 h0,λ_=>no0 h0⟩,λ_=>⟨⟨S _,λi hi=>absurd hi (X _)⟩,λ_=>no0 h0,λ_=>no0 h0⟩⟩⟩;have hH:=H _ _ _ h0;have e1:fJ (jy 13 (aQ x.n (λi=>ak (x.f i)) x.g))=sw x.n x.f x.g:=rfl;have e2:(λi=>(sw x.n x.f x.g).getD i [])=vr x.n x.f x.g:=rfl;rw[e1];have hle:=hH.le;refine⟨⟨by omega,λi hi=>Nat.lt_of_le_of_lt (hH.len i hi) (by decide)⟩,λhf=>no1 hf,λhf=>⟨λha e=> ?_,λha=>⟨⟨(sw x.n x.f x.g).length,vr x.n x.f x.g,c,2000⟩,⟨hH.pos,hH.le,by show((sw x.n x.f x.g).length:Int)<=2000;omega,by show(2000:Int)<=1000000;decide,hH.len,hH.read,hH.clo ha⟩,⟨rfl,rfl⟩,rfl,?_,λy hy=>⟨λ_=>⟨y,hy,rfl,rfl,aa.fmap (λ_=>rfl) (λ_=>rfl),aa.refl _⟩,λe=> ?_⟩⟩⟩⟩
 ·have ha:kz (sw x.n x.f x.g).length (vr x.n x.f x.g)=false:=ha;unfold hoB at e;rw[ha,Y,Y] at e;cases e
 ·exact tB
 ·have ha:kz (sw x.n x.f x.g).length (vr x.n x.f x.g)=true:=ha;unfold hoB at e;rw[hf,k_ h0,ha] at e;cases e
theorem aoC (H: ∀ n f g,iT n f g=0->axG n f g):aq J 12 (dI yx) :=jT (n:=20) Tryz.func12 (by kernel_rfl) (by kernel_rfl) yx λx hx=>⟨_,agt,rfl,LH H x hx⟩
theorem Ox (r:Nat->h_): ∀ k j,j<fP r k->∃ i,i<k/\cH (r i)=F/\iU r k j=af (r i)
 | 0,_,h=>absurd h (X _)
 | k+1,j,h=>by
   simp only[fP,iU] at h ⊢;cases hb:cH (r k)with
   | false =>rw[hb] at h;obtain⟨i,h1,h2,h3⟩:=Ox r k j h;exact⟨i,by omega,h2,h3⟩
   | true =>
     rw[hb] at h;have h:j<fP r k+1:=h;by_cases e:j=fP r k
     ·exact⟨k,by omega,hb,by rw[cond_true,o_ e]⟩
     ·obtain⟨i,h1,h2,h3⟩:=Ox r k j (by omega);exact⟨i,by omega,h2,by rw[cond_true,p_ e];exact h3⟩
theorem NU: ∀(m:Nat) (l:List Rw),dZ m l->∀ t,t∈ dH m l->∃ m' l',m'<m/\dZ m' l'/\l'≠[]/\t=ctext m' l'/\∀ u,u∈ dH m' l'->u∈ dH m l
 | 0,_,_,t,h=>by cases h
 | m+1,l,hl,t,h=>by
   unfold dH at h;obtain⟨i,hi,h⟩:=cL.1 h;by_cases e:bz l i=[]
   ·rw[o_ e] at h;cases h
   ·rw[p_ e] at h;have up: ∀ u,u∈ dH m (bz l i)->u∈ dH (m+1) l:=λu hu=>by unfold dH;exact cL.2 ⟨i,hi,by rw[p_ e];exact List.mem_append_right _ hu⟩
    rcases List.mem_append.1 h with h | h
    ·by_cases s:(ctext m (bz l i)).length<32
     ·rw[o_ s] at h;cases h
     ·rw[p_ s,eI] at h;exact⟨m,bz l i,eK _,mW hl i,e,h,up⟩
    ·obtain⟨m',l',h1,h2,h3,h4,h5⟩:=NU m (bz l i) (mW hl i) t h;exact⟨m',l',by omega,h2,h3,h4,λu hu=>up u (h5 u hu)⟩
theorem ak6 {l:List Rw}(hm:m<=13)(h:dZ m l)(hl:l≠[]){j:Nat}(hj:j<nV (ctext m l)): ∃ u,u∈ dH m l/\lJ (ctext m l) j=bg u:=by
 unfold nV at hj;unfold lJ;rw[sV (jB hm h hl)] at hj ⊢;obtain⟨i,hi,hb,e⟩:=Ox _ 16 j hj
 match m,h with
 | 0,h =>
   match l,hl,h with
   | r::_,_,h=>exact absurd (h.len r (bf ..)) (X _)
 | m+1,h =>
   rw[Hj m l hi] at hb e;by_cases k0:bz l i=[]
   ·rw[o_ k0] at hb;cases hb
   ·rw[p_ k0] at hb e;by_cases s:(ctext m (bz l i)).length<32
    ·have:=ru hb;unfold j5 at this;rw[o_ s] at this;omega
    ·refine⟨ctext m (bz l i),?_,e.trans (tv s).2.1⟩;unfold dH;refine cL.2 ⟨i,T.2 hi,?_⟩;rw[p_ k0,p_ s];exact List.mem_append_left _ (eI.2 rfl)
theorem vp {l:List Rw}(h:dZ 13 l){t:h_}(ht:t∈ jy 13 l):bM t=F/\t.length<=700/\∀ j,j<nV t->∃ u,u∈ jy 13 l/\lJ t j=bg u:=by
 have one: ∀ m l',m<=13->dZ m l'->l'≠[]->t=ctext m l'->(∀ u,u∈ dH m l'->u∈ jy 13 l)->bM t=F/\t.length<=700/\∀ j,j<nV t->∃ u,u∈ jy 13 l/\lJ t j=bg u:=λm l' hm h' hne e up=>by subst e;refine⟨(mV (jB hm h' hne)).1,rj hm h' hne,λj hj=> ?_⟩;obtain⟨u,hu,e⟩:=ak6 hm h' hne hj;exact⟨u,up u hu,e⟩
 unfold jy at ht;rcases List.mem_cons.1 ht with e | hb
 ·by_cases hl:l=[]
  ·subst hl;have e:t=eM iL:=e;subst e;have h0:nV (eM iL)=0:=by decide +kernel
   exact⟨by decide +kernel,by decide +kernel,λj hj=>by rw[h0] at hj;exact absurd hj (X _)⟩
  ·exact one 13 l (V _) h hl e λu hu=>eA _ hu
 ·obtain⟨m',l',h1,h2,h3,h4,h5⟩:=NU 13 l h t hb;exact one m' l' (by omega) h2 h3 h4 λu hu=>eA _ (h5 u hu)
theorem agA (h:iT n f g=0):axG n f g:=by
 have hr:=nX h;have hin: ∀ i,i<(sw n f g).length->vr n f g i∈ jy 13 (aQ n (λi=>ak (f i)) g):=λi hi=>(su _ _ rfl _).1 (F9 hi);have at': ∀ u,u∈ jy 13 (aQ n (λi=>ak (f i)) g)->∃ q,q<(sw n f g).length/\vr n f g q=u:=λu hu=>by obtain⟨q,hq,e⟩:=ei ((su _ _ rfl _).2 hu);refine⟨q,hq,?_⟩;show(fJ _).getD q []=u;rw[a_,a! hq];exact e
 refine⟨?_,?_,λi hi=>Nat.le_trans (vp hr (hin i hi)).2.1 (by decide),?_,λ_ k hk j hj=> ?_⟩
 ·obtain⟨q,hq,_⟩:=at' _ (bf ..);omega
 ·have h1:=Js _ (jy 13 (aQ n (λi=>ak (f i)) g)) rfl;have h2:=JR 13 (aQ n (λi=>ak (f i)) g);have h3:=(nW h).2;rw[fI] at h2;have h4:(jy 13 (aQ n (λi=>ak (f i)) g)).length=(dH 13 (aQ n (λi=>ak (f i)) g)).length+1:=rfl;unfold sw;omega
 ·unfold I0;exact cB.2 λi hi=>(vp hr (hin i (T.1 hi))).1
 ·obtain⟨g1,g2,_⟩:=lC _ _ k hk;obtain⟨u,hu,e⟩:=(vp hr (hin (fD (vr n f g) (sw n f g).length k).toNat (by omega))).2.2 j hj;obtain⟨q,hq,rfl⟩:=at' u hu;unfold K9;rw[e];exact zf _ _ q hq
theorem aoD:aq J 12 (dI yx):=aoC λ_ _ _ h=>agA h
structure D4 where
 w:Sp
 s:Wk
 c1:Nat
 c2:Nat
 y:JG
 room:Int
structure XA (w:Sp)(y:JG):Prop where
 f: ∀ h,w.ad h=F->(w.at h).length<=1000
 dom: ∀ h,w.ad h=F->y.A.D (y.g h)=F
 mP: ∀ h,w.ad h=F->y.A.mP (y.g h)=w.at h
 fr:w.fr.length<=1000
 to:w.to.length<=1000
def It.afQ (A:It):SB:=.sy A.D [.str A.mP] 4 133 F
def awQ (w:Sp)(s:Wk)(kn kf c1 c2:Nat):SB:=.cells [.str I w.fr,.str I w.to,.func (.func 47) [.ptr 4 F 0] [],.map 1,.bY kn 1 F 0 s.ns.length c1,.int .i64 I s.lk,.bY kf 2 F 0 s.fs.length c2] 7 92
def D4.own (g:D4):Mem:=[(4,pg g.room 5),(5,.fmap g.w.ad (.ref 6 g.y.g) none)]
def D4.mem (g:D4):Mem:=[(0,awQ g.w g.s 2 3 g.c1 g.c2),(1,Nb g.s),(2,mQ g.s g.c1),(3,kD g.s g.c2)]++g.own++[(6,g.y.A.afQ)]
def D4.back (g:D4)(s:Wk)(c1 c2:Nat):Mem:=[(0,awQ g.w s 7 8 c1 c2),(1,Nb s),(7,mQ s c1),(8,kD s c2)]++g.own
def az6 (v:SV)(g:D4)(s:Wk):ng:=.all (Nat×Nat) λc=>.req (s.ns.length<=c.1/\s.fs.length<=c.2) (.ret v (g.back s c.1 c.2))
def afa (f:SV->SV):ng:=.all (h_×h_) λy=>.ret (f (.iface 87 (.ptr 9 F 0))) [(9,.cells [.str I y.1,.str I y.2] 2 207)]
def sbC (A:Type)(args:A->List SV)(pre:D4->A->Prop)(Fg:D4->A->ng):mg :={G:=D4×A,n:=7,N:=10,pre:=λx=>XA x.1.w x.1.y/\x.1.s.Small/\(x.1.s.ns.length<=x.1.c1/\x.1.s.fs.length<=x.1.c2)/\pre x.1 x.2,args:=λx=>.ptr 0 F 0::args x.2,mem:=λx=>x.1.mem,Fg:=λx=>Fg x.1 x.2}
def ai4 (g:D4)(h:h_):ng:=.fork (gF g.w h) λb=>match b with
 | true=>az6 (.dr [(getD (g.w.at h)).sv,.cj]) g (g.s.take g.w h)
 | false=>afa λv=>.dr [jm,v]
def Ja:mg:=sbC h_ (λh=>[.str I h]) (λ_ _=>True) ai4
def alk (g:D4)(t:h_):ng:=.fork (cS t) λb=>match b with
 | true=>az6 (.dr [(getD t).sv,.cj]) g g.s
 | false=>.fork (cH t) λb=>match b with
   | true=>ai4 g (af t)
   | false=>afa λv=>.dr [jm,v]
def Aa:mg:=sbC h_ (λt=>[.str I t]) (λ_ t=>t.length<9223372036854775808) alk
section
variable (y : Nat × Nat) (x : D4 × h_)
abbrev ak2:List h_:=if Wk.used x.1.s x.2=0 then x.1.s.ns++[Sp.at x.1.w x.2] else x.1.s.ns
abbrev kU:=x.1.s
abbrev lF:=x.1.w
abbrev TD:=x.1.y.A.mP (x.1.y.g x.2)
abbrev w9:=x.1.y
abbrev vj:=x.1.c2
abbrev uq:=x.1.c1
abbrev oK:=cD (kU x)
abbrev mK:=cm (kU x)
abbrev Du:=(kU x).fs
abbrev T1:=eO (kQ (kU x).ud x.2) (qh (kU x).us x.2 (Wk.used (kU x) x.2+1))
abbrev Qc:=cY (M (ak2 x)) (aF y.1) (λa=>aU a (ak2 x)) 9
abbrev aaF:=dflt ((kU x).ud x.2) ((kU x).us x.2)
abbrev Mm:=M (ak2 x)
abbrev ari:=∀(a:Nat->Nat),rJ (getD (TD x)) a=rG (mD x.2 (lF x)) a
abbrev Uk:=bN (oK x) (bG (vj x)) 50 (jK (Du x) (Du x))
abbrev IX:=fF (Mm x) y.1 (oK x) y.2
abbrev arH:=aa (eO (kQ (kU x).ud x.2) (qh (kU x).us x.2 (aaF x+1))) (T1 x)
abbrev axv:=C8 (jh 0 (A4 3 (rF 1 0 BI Qm)))
end
theorem atq (x:D4×h_):dw (Pl.n (rF 1 0 (Pl.n (Pl.s 2 axv) (dJ axv)) Ml) (dJ Ml)) (runM y7 83 cx Ja x) ((fun(a:SV)=>Bk ((lF x).ad x.2) (gX (aV ((w9 x).A.D ((w9 x).g x.2))) (uN (TD x)/\bS (TD x)) (bE (aaF x) 0 (gL (mK x) (mK x) 2 (mK x) 16 (mK x)/\(∀(a:Nat),aJ (aB (mK x)) a (aY (dD (aaF x)) (∃(b:Nat×Nat),cI (IX b x) (ari x) (aK (aB (mK x)) (Mm x) a b.1) (vj x=b.2) (arH x) (eZ (aB (mK x)) (aF a) (λa=>dg a (mK x) a (mK x) (lT a (kU x)) (TD x)) (Qc b x) 9) (aa (Uk x) (bN (oK x) (bG b.2) 50 (jK (Du x) (Du x))))) (Exists C2) (gF (lF x) x.2)))) (aY (dD (aaF x)) (∃(a:Nat×Nat),cI (IX a x) (ari x) (aK (mK x) (Mm x) (uq x) a.1) (vj x=a.2) (arH x) (eZ (mK x) (aF (uq x)) (λa=>lT a (kU x)) (Qc a x) 9) (aa (Uk x) (bN (oK x) (bG a.2) 50 (jK (Du x) (Du x))))) (Exists C2) (gF (lF x) x.2))) (jY x.2 (∃(a:Nat×Nat),hJ (IX a x)) (∃(b:h_×h_),zH a/\bH 2 (vC b) (eC ahx (aA x.2)) 207) (lF x)) (bM (TD x))) (jY x.2 (∃(a:Nat×Nat),hJ (IX a x)) (∃(b:h_×h_),zH a/\bH 2 (vC b) (eC ahr (aA x.2)) 207) (lF x))) lI):=⟨by kernel_rfl,by kernel_rfl⟩
section
attribute [local irreducible] bM getD
theorem W6 {x:D4×h_}(hw:XA x.1.w x.1.y)(hs:x.1.s.Small)(hc:x.1.s.ns.length<=x.1.c1/\x.1.s.fs.length<=x.1.c2):au (runM y7 83 cx Ja x):=by
 refine au.xD (atq x) (by delta Fk Bk I6 fu aJ aF eC bq aj bH aC az bE dK dD aA fz dy aY bN bJ cY aB b8 gZ cv aV br cI eZ dg gX fF ff bS aG fk aU kO tu lI hJ gL rJ rG uN C2 vC zH lp ahr ahx cD eO jK bG mD jY aK cm lT ak2 kU lF TD w9 vj uq oK mK Du T1 Qc aaF Mm ari Uk IX arH;exact rfl) ?_;obtain⟨⟨w,s,c1,c2,y,room⟩,t⟩:=x;dsimp only at hw hs hc ⊢;have hu:=hs.u t;have hn:=hs.ns;have eu:dflt (s.ud t) (s.us t)=s.used t:=rfl;have el:gF w t=(w.ad t&&bM (w.at t)):=rfl;obtain⟨hc1,hc2⟩:=hc;have ez:=atW.zero;simp only[eu,ag];cases hA:w.ad t with
 | false =>rw[hA] at el;simp only[el,an,c5,false_imp_iff,forall_const,true_and];exact⟨(_,_),ez,xS⟩
 | true =>
   have hf:=hw.f t hA;have eT:=hw.mP t hA;rw[hA] at el;rw[eT];simp only[hw.dom t hA,c6,false_imp_iff,forall_const,true_and,and_true];refine⟨⟨by omega,by omega⟩,λhB=> ?_,λhB=> ?_⟩
   ·rw[hB] at el;simp only[el,Bool.and_self,c6,false_imp_iff,forall_const,and_true];refine⟨λh0=>⟨⟨V _,by omega,by omega⟩,λc hcc=>⟨⟨by omega,by omega⟩,?_⟩⟩,λh0=>⟨⟨by omega,by omega⟩,?_⟩⟩
    ·have h0:=i_ h0;rw[o_ h0];exact⟨(c,c2),⟨by rw[ej];exact hcc,hc2⟩,λ_=>rfl,⟨by rw[ej];rfl,rfl⟩,rfl,aa.refl _,Wz,aa.refl _⟩
    ·have h0:=j_ h0;rw[p_ h0];exact⟨(c1,c2),⟨hc1,hc2⟩,λ_=>rfl,⟨rfl,rfl⟩,rfl,aa.refl _,aa.refl _,aa.refl _⟩
   ·rw[hB] at el;simp only[el,Y,c5,false_imp_iff,forall_const,true_and];exact⟨(_,_),ez,xS⟩
end
theorem alm:aq J 83 (dI Ja) :=jT (n:=20) Tryz.func83 (by kernel_rfl) (by kernel_rfl) Ja λx hx=>⟨y7,Ov,rfl,W6 hx.1 hx.2.1 hx.2.2.1⟩
noncomputable def adS:List (FuncId×PT):=(83,dI Ja)::mX
theorem SS:aR J (λf=>av f adS):=.cons alm (de _) gT
noncomputable def af0:iG:={bQ with cO:=λf=>av f adS}
theorem ayy:Sx.Good J af0:=.of bI SS aO
end
section
open Go Sx
set_option maxRecDepth 20000
section
variable (n : Nat) (y : Nat × Nat) (x : D4 × h_) (f : Pl) (z : JG)
abbrev vi:=af x.2
abbrev oI:=getD x.2
abbrev P6:List h_:=if Wk.used (kU x) (vi x)=0 then(kU x).ns++[Sp.at (lF x) (vi x)] else(kU x).ns
abbrev IF:=jG 6 (lF x).ad (w9 x).g
abbrev BS:=eX (kU x)
abbrev DF:=x.1.room
abbrev BW:=(lF x).fr
abbrev BX:=(lF x).to
abbrev aiv:=bN (oK x) (bG y.2) 50 (gD (λa=>(jg a (Du x)).1) (λa=>(jg a (Du x)).2))
abbrev aiz:=gK (XA (lF x) (w9 x)) (Wk.Small (kU x)) (fF (mK x) (uq x) (oK x) (vj x))
abbrev aa2:=fF (M (P6 x)) y.1 (oK x) y.2
abbrev C6:=It.afQ z.A
abbrev yI:=Pl.c I n f
end
theorem afB (x:D4×h_):dw (jQ 0 (yI 0 (jh 0 (jQ 3 BI (jQ 1 BI MA)))) (jQ 0 (oy 1 0 (gV (m4 0 0 (oe vB (pW 0 (dJ (gV (oe (yI 2 (yI 1 (C8 (oy 0 0 (gV (wJ (jh 0 aq5))))))) (yI 2 (yI 1 (dJ Ml))))))))))) (yI 1 (yI 0 Ml)))) (runM af0 132 Tryz.f132 Aa x) ((fun(a:SV)=>aY (yC x.2) (∃(a:Nat×Nat),aD (mK x<=a.1) (oK x<=a.2) (aC (∀(a:Nat->Nat),rJ (oI x) a=rG (oI x) a) (uq x=a.1) (vj x=a.2) (gu a.1 (bN (mK x) (aF (uq x)) 9 [wU (kU x)]) (kU x)) (gz a.2 (Uk x) (kU x)))) (aY (cW x.2) (∃(b:D4×h_),cK (aiz b) (vi x=b.2) (BW x=BW b) (BX x=BX b) (aK (mK x) (mK b) (uq x) (uq b)) (aT (BS x=BS b) (aK (oK x) (oK b) (vj x) (vj b)) (gy (eO (kU x).ud (kU x).us) (kU b)) (gu (uq b) (bN (mK x) (aF (uq x)) 9 [wU (kU x)]) (kU b)) (gz (vj b) (Uk x) (kU b)) (DF x=DF b) (aa (IF x) (IF b)) (aa (SB.sy (tq (w9 x)) (bJ (th (w9 x)) W) 4 133 F) (C6 (w9 b))) (jY b.2 (∀(a:Nat×Nat),IX a b->jY (vi x) (∃(c:Nat×Nat),az (aa2 c x) (∀(a:Nat->Nat),rJ (mD b.2 (lF b)) a=rG (mD (vi x) (lF x)) a) (BW b=BW x) (aT (BX b=BX x) (aK (Mm b) (M (P6 x)) a.1 c.1) (BS b=BS x) (oK b=oK x/\ur a c) (gy (T1 b) (Wk.take (lF x) (kU x) (vi x))) (gu c.1 (Qc a b) (Wk.take (lF x) (kU x) (vi x))) (gz c.2 (aiv a b) (Wk.take (lF x) (kU x) (vi x))) (bH 2 (pg (DF x) 5) (eC (bF (DF b)) (SV.map 5)) 126) (aa (IF b) (IF x)))) (Exists C2) (lF x)) (∀(b:h_×h_),jY (vi x) (∃(a:Nat×Nat),hJ (aa2 a x)) (∃(c:h_×h_),zH a/\aa (vC b) (vC c)) (lF x)) (lF b)))) (∃(b:h_×h_),zH a/\bH 2 (vC b) (eC ahj (aA x.2)) 207) (cH x.2)) (cS x.2)) lI):=⟨by kernel_rfl,by kernel_rfl⟩
section
variable {w : Wy} {P p : h_} {y : Nd} {u m : Nat}
end
structure Wy.An (w:Wy):Prop where
 f: ∀ i,i<w.n->(w.f i).length<=1000
structure Wl where
 w:Wy
 y:Nd
 p:h_
 z:Bool
 i:Nat
 k:Nat
 c:Nat
def Wl.left (q:Wl):SV:=.cT 0 1 q.z q.w.o q.i q.k q.c
structure Wl.Pre (m:Nat)(q:Wl):Prop where
 m1:q.p.length<m
 w: ∀ i,i<q.w.n->(q.w.f i).length<=1000
 y:aZ q.y=F
 left:q.w.u+q.k=q.w.n
 i:0<q.k->q.i=q.w.u
 kc:q.k<=q.c
 p:q.p.length<1099511627776
structure Wr where
 b:Bool
 v:h_
 z:Bool
 i:Nat
 k:Nat
 c:Nat
def Wr.left (r:Wr)(o:Nat):SV:=.cT 0 1 r.z o r.i r.k r.c
structure Pp.Small (x:Pp):Prop where
 k:0<=x.k/\x.k<=1
 root:x.root.length=32
 key:x.key.length<=6
 to:x.to.length<=6
 n:x.n<=200
 row: ∀ i,i<x.n->(x.f i).length<=1000
structure afJ (t:h_)(l:List h_):Prop where
 b:c9 t=F
 li:e9 t=F
 r:aH t=[]
 i:af t=flat l
 ib:ga (af t)=F
 n:ck (af t)=l.length
 at': ∀(k:Nat) (v:h_),l[k]?=some v->ax (af t) k=v
def Whole (y:h_):Prop:=c9 y=F/\aH y=[]
theorem afJ.whole {t:h_}{l:List h_}(h:afJ t l):Whole t:=⟨h.b,h.r⟩
end
namespace Sx
open Go
noncomputable section
def b5.pre (Γ:b5):b5:={Γ with tail:=[],rf:=I}
section
variable {P : Program} {C : oV} {env : Env} {bU : B6} {n : Nat}
end
end
end Sx
namespace Sx
open Go
end Sx
namespace Sx
open Go
noncomputable section
structure aCv (P:Program)(f:FuncId)(g:PK->PT):Prop where
 ok: ∀ KP Γ,Ao P Γ KP (.fn f) (g KP)
 mono: ∀ KP,bC (g KP)
 HU: ∀ KP KP':PK,(∀ v m nx,(KP v m nx).holds->(KP' v m nx).holds)->∀ args m nx K,(g KP args m nx K).holds->(g KP' args m nx K).holds
end
end Sx
section
open Go Sx
set_option maxRecDepth 20000
def Ej (t:h_)(l:Bool):Bool:=c9 t&&O (aH t=[])&&(e9 t==l)
def WE (s:h_):Bool:=Ej s F&&ga (af s)
structure aAS (s:h_):Prop where
 len:(s.length:Int)<=65536
 whole:WE s=F
 n5:ck (af s)=5
 g0:zj (ax (af s) 0)=F
 k0:0<=num (af (ax (af s) 0))/\num (af (ax (af s) 0))<=1
 i1:Ej (ax (af s) 1) I=F
 i2:Ej (ax (af s) 2) I=F
 i3:Ej (ax (af s) 3) I=F
 w4:WE (ax (af s) 4)=F
 n4:ck (af (ax (af s) 4))<=200
 r4: ∀ i,i<ck (af (ax (af s) 4))->Ej (ax (af (ax (af s) 4)) i) I=F
section
variable {s : h_}
end
end
end Go.Proofs.YtoibaecagklkaaaGreatDoor
