/- A part of the proof. -/
import Derived.Test.YtoibaecagklkaaaGreatDoorMu
open Bool renaming eq_iff_iff->cL,false->H,or_eq_true->c5,true->F
open Go.Proofs.Tryz renaming f144->bl,f145->bn,f179->Z,f18->bW,f80->c6,f81->b_,f92->c7,f93->b!,func179->c8,prog->J
open Int renaming le_refl->cj,toNat_natCast->W
open List renaming foldl_append->c_,getD_eq_getElem?_getD->Y,getElem?_append_left->c!,getElem?_eq_getElem->d_,getElem?_map->d!,length->O,length_append->Q,length_cons->cl,length_map->ec,length_take->S,mem_append->ct,mem_append_left->ag,mem_cons_self->cx,mem_singleton->X,nil->ej,pairwise_singleton->ek,take_succ_cons->a_,take_take->cy
open Nat renaming beq_refl->en,le_of_lt->ep,le_refl->P,min_eq_left->cB,not_lt_zero->a!,zero_add->V,zero_le->T
open Option renaming none->I,some->M
namespace Go.Proofs.YtoibaecagklkaaaGreatDoor
open Go Sx
variable {A:It}{p s t:h_}{met:h_->Int}{a b c i n:Nat}{f g:Nat->h_}
section
open Go Sx
set_option maxRecDepth 20000
theorem yb {l l' a b:Bool}(h:a=b):ai (.bool l a) (.bool l' b):=by subst h;exact λ_=>rfl
theorem akK:aq J 139 (bZ wz):=Xq afM λvs q' a' h hq=>by
 unfold wz at h;split at h
 ·rename_i p;cases h;refine⟨_,abg p,rfl,hq,λm nx K hk=> ?_⟩;have e:vm p=oZ p:=by grind [k_,l_,vm,oZ]
  unfold agX at hk;unfold abg;rw[e];simp only[fC.vc] at hk ⊢;rw[dY] at hk ⊢;cases hb:oZ p with
  | true =>
    rw[hb] at hk;have hn:ig p=true:=by unfold oZ at hb;grind
    grind [SK]
  | false=>grind
 ·cases h
theorem Kw:aR J (λf=>av f V7):=.cons azL (aE _) (.cons XL (aE _) (.cons akK (bK _) akg))
theorem ayw (a b:h_):Sx.Good J (awW a b):=.of bI Kw aO
theorem ayN (n:Nat)(g:Nat->h_)(t:h_):Sx.Good J (aw0 n g t):=.of bI Kw aO
theorem amn:aq J 96 (aI JO):=by
 refine fh (ee (n:=20) Tryz.func96 (by kernel_rfl) (by kernel_rfl) ?_);intro args p r h hp;unfold JO at h;split at h
 ·rename_i a b;cases h;refine⟨_,ayw a b,rfl,rfl,au.xD (awd a b) (by delta Fk Bk I6 Ix NI aM bx bB aj bt gb cJ aD aX dx aP gS fy sI i5 cR jH fE dF ju ars;exact rfl) ?_⟩;obtain⟨ha,hb⟩:=hp;refine⟨⟨0,⟨T _,T _,rfl⟩,rfl⟩,λi hi=>⟨λh=>⟨λg=>⟨by grind,by grind,λe=>⟨by grind,by grind,yb ?_⟩,λe=>⟨by grind,i+1,(by grind [aco]),by grind⟩⟩,λg=>yb ?_⟩,λh=>yb ?_⟩⟩
  ·grind [amm]
  ·grind [RW]
  grind [RW]
 ·cases h
theorem azi:aq J 143 (bV aBF adz):=by
 refine gi (n:=20) Tryz.func143 (by kernel_rfl) (by kernel_rfl) ?_;intro vs l q a h hq;unfold adz at h;split at h
 ·rename_i v t key z o n c f;cases h;refine⟨_,ayN n f t,rfl,rfl,au.xD (aBN n f t z o c key) (by delta Fk I6 Ix Er NI cQ aj bt fR gb aD cw aP nM gS fy i5 cR dF lu iD ew ju mS rQ pL kY;exact rfl) ?_⟩;simp only[W,V];refine⟨⟨0,⟨T _,(by omega)⟩,rfl⟩,λi hi=>⟨λa=>⟨by grind,by grind,λb=>yb ?_,λb=>⟨by grind,i+1,⟨Ah hi (i_ a) (by grind),by grind⟩,by grind⟩⟩,λa=>yb ?_⟩⟩
  ·grind [MZ]
  grind [D0,j_,MZ,hi]
 ·cases h
theorem Ew:aR J (λf=>av f O1):=.cons amn (aE _) (.cons azi (bR _ _) Kw)
theorem adm:Sx.Good J Sd:=.of bI Ew aO
theorem EM (k:h_):(ak k).length=2*k.length:=by grind [ak,b7]
theorem aiY:aq J 54 (aI I8):=by
 refine fh (ee (n:=20) Tryz.func54 (by kernel_rfl) (by kernel_rfl) ?_);intro args p r h hp;unfold I8 at h;split at h
 ·rename_i fr to p;cases h;obtain⟨h1,h2,h3⟩:=hp;have l1:=EM fr;have l2:=EM to;refine⟨_,adm,rfl,rfl,au.pr (aAv fr to p) ⟨by omega,by omega,⟨by omega,by omega⟩,λa=>⟨⟨by omega,by omega⟩,yb ?_⟩,λa=>yb ?_⟩⟩
  ·grind [Po,hasB]
  grind [hasB]
 ·cases h
theorem alb:aq J 140 (aI GN):=by
 refine fh (ee (n:=20) Tryz.func140 (by kernel_rfl) (by kernel_rfl) ?_);intro args p r h hp;unfold GN at h;split at h
 ·rename_i fr to p;cases h;obtain⟨h1,h2,h3⟩:=hp;have l1:=EM fr;have l2:=EM to;refine⟨_,adm,rfl,rfl,au.xD (atk fr to p) (by delta Fk Bk NI bx bB aj dM fR nT cc gb dy cW aD aX nM bS sA Dp uP;exact rfl) ?_⟩;have e:dj fr to p=((!Op.bytesLess (ak to) p)&&(!Op.bytesLess p (ak fr)||preB p (ak fr))):=by rw[Po];rfl
  have e2:preB p (ak fr)=(decide (p.length<=(ak fr).length)&&decide ((ak fr).take p.length=p)):=rfl;have e3: ∀ x:Operand,bT (ak fr) I (M x) 0 (p.length:Int)=(ak fr).take p.length:=λ_=>rfl
  grind [yb]
 ·cases h
theorem Sx.aa.then {A B C:SB}(h:aa A B)(h':aa B C):aa A C :=(by grind [trans])
theorem UD {ay:List bh}{tot:Nat}{ty:TypeId}:aa (.rows H n ay H tot ty) (.rows F n ay H tot ty) :=aa.of rfl rfl λ_=>⟨rfl,λ_ _ h=>h,id⟩
theorem afv {x:Lk×h_}(h:x.1.atT)(hl:x.1.s.ns.length<=1000000):au (runM Sd 92 c7 ab1 x):=by
 refine au.xD (awB x) (by delta Bk Er aJ aF aj az dy aD aX bN bJ aB b8 gZ cv dg cN gY aU gL i9 gu aK uh cm lT aeO aeR qa x7 xg xj;exact rfl) ?_;have h1:=h.c1;simp only[V,true_and,and_true,P];refine⟨by omega,λa=>⟨by omega,λc hc=>⟨by omega,λd hd=>⟨d,?_⟩⟩⟩,λa=>⟨x.1.c1,?_⟩⟩
 ·have a:MZ x.1.s.ns.length (λi=>x.1.s.ns.getD i []) x.2=false:=by simpa using a
  have e:(x.1.s.MW x.2).ns=x.1.s.ns++[x.2]:=by grind [Wk.MW]
  rw[a];simp only[cond_false,Q,cl,List.length_nil];refine⟨by omega,⟨trivial,trivial⟩,by omega,UD.then ?_⟩
  grind [Wz,mQ]
 grind [MZ,Sx.aa,xW,mQ,Wk.MW]
theorem av8:aq J 92 (dI ab1) :=jT (n:=20) Tryz.func92 (by kernel_rfl) (by kernel_rfl) ab1 fun(x:Lk×h_) hx=>⟨Sd,adm,rfl,afv hx.1 hx.2⟩
def y8 (m:Nat):List SV->Option (Prop×SV)
 | [.str H a,.str H b]=>M (a.length<m/\a.length<9223372036854775807,.int .i64 H (cg a b))
 | _=>I
noncomputable def am3 (pt:PT):iG:={bQ with cO:=λf=>av f ((179,pt)::O1)}
def MX (p k:h_):Bool:=decide (p.length<=k.length)&&decide (k.take p.length=p)
def dW (p:h_)(l:List Rw):List Rw:=(l.filter λr=>MX p r.1).map λr=>(r.1.drop p.length,r.2)
def l8 (p:h_)(l:List Rw):h_:=l.foldl (λp r=>p.take (cg p r.1)) p
def m9 (n:Nat)(f g:Nat->h_)(i:Nat):List Rw:=(aQ n f g).take i
noncomputable def acq (t1 t2 n:Nat)(L:Nat->List Rw):aN :=
 {α:=Nat×Nat,pre:=λ_ x=>x.1<=n/\(L x.1).length<=x.2,nF:=λ_ x=>n-x.1,fresh:=1,slots:=λst x=>[(t1,.int .i64 H x.1),(t2,.bY st.nx 2 F 0 (L x.1).length x.2)],
  mem:=λst x=>[(st.nx,Cz F (L x.1) x.2)]}
noncomputable def CO:List (FuncId×PT):=(179,aI (y8 9223372036854775807))::O1
noncomputable def anq (n:Nat)(f g:Nat->h_):iG:={bQ with cO:=λf=>av f CO,bU:=λh=>if h=93 then [(3,always (acq 4 3 n λi=>m9 n (λi=>ak (f i)) g i))] else []}
noncomputable def anE (n:Nat)(f g:Nat->h_)(p:h_):iG:={bQ with cO:=λf=>av f CO,bU:=λh=>if h=145 then [(3,always (acq 6 5 n λi=>dW p (m9 n f g i)))] else []}
noncomputable def axV (n:Nat)(f g:Nat->h_):aN :={α:=Nat,pre:=λ_ i=>i<=n,nF:=λ_ i=>n-i,fresh:=0,slots:=λ_ i=>[(4,.int .i64 H i),(3,.str H (l8 (f 0) (m9 n f g i)))],mem:=λ_ _=>[]}
noncomputable def am5 (n:Nat)(f g:Nat->h_):iG:={bQ with cO:=λf=>av f CO,bU:=λh=>if h=144 then [(3,always (axV n f g))] else []}
noncomputable def acH (fr to:h_)(n:Nat)(f g:Nat->h_):iG:={bQ with cO:=λf=>av f ((54,aI I8)::CO),bU:=λh=>if h=18 then [(3,always (acq 8 7 n λi=>qZ fr to n f g i))] else []}
section
variable (n m : Nat) (s : h_) (z : Nat × Nat) (x y : Nat-> h_) (f : Nat × Nat-> SB)
abbrev pI:=O (dW s (m9 n x y z.1))
abbrev ahN:=bN (pI n s z x y) (bG z.2) 50 (iY (dW s (m9 n x y z.1)) (dW s (m9 n x y z.1)))
abbrev arN:=∃(a:Nat×Nat),az (aD (qP n a) (pI n s a x y<=a.2) (vg n a z)) (j8 z a) (pI n s z x y=pI n s a x y/\ur z a) (aa (f z) (ahN n s a x y))
abbrev Dn:=l8 (x 0) (m9 n x y m)
abbrev qQ:=O (m9 n (DG x) y z.1)
end
theorem awh (k:Nat)(a b:h_)(R:SV->Prop):VC.holds (eS (am3 (aI (y8 k))) 179 Z [.str H a,.str H b] R)=((fun(c:h_)=>ja a (R (bq 0)) (ja b (R (bq 0)) (aj (vl a) (vl b) (aX (R (bq 0)) (aC (Qp a) (Qp b) (O c<k/\C3 c) (dK 1 (wN c (IT b))) (R (bF (1+NI (cg c (IT b)))))) (cJ (rM a) (rM b)))))) (IT a)):=by kernel_rfl
theorem ati (n:Nat)(f g:Nat->h_)(z:Bool)(o c:Nat)(key:Option Nat):dw (iE uy (Pl.s 9 qe) Pl.k) (je (anq n f g) 93 b! [.cT 0 2 z o 0 n c] [fX z o c n f g key] (ze (aQ n (λi=>ak (f i)) g))) ((∃(a:Nat×Nat),cM (qP n a) (qQ n a f g<=a.2) (mL a) (qQ n a f g=0) (fo (Cz F (m9 n (DG f) g a.1) a.2)))/\(∀(a:Nat×Nat),qP n a/\qQ n a f g<=a.2->Fk (ya n a) (az (qR n a) (qU o n a) (qR n a) (aC (qU o n a) (bS (f (fZ a))) (dB (SB.view z o n (bJ f (bJ g ej)))) (gL (qQ n a f g) (qQ n a f g) 2 (qQ n a f g) 32 (qQ n a f g)) (∀(b:Nat),cN (aB (qQ n a f g)) b (kP a) (∃(c:Nat×Nat),az (aD (qP n c) (qQ n c f g<=c.2) (vg n c a)) (j8 a c) (aB (qQ n a f g)=qQ n c f g/\b=c.2) (cv (aB (qQ n a f g)) (bG b) (bN (qQ n c f g) (bG c.2) 50 (iY (m9 n (DG f) g c.1) (m9 n (DG f) g c.1))) 50 (gD (λb=>dg b (qQ n a f g) b (qQ n a f g) (gp b (m9 n (DG f) g a.1)).1 (ak (f (fZ a)))) (λb=>dg b (qQ n a f g) b (qQ n a f g) (gp b (m9 n (DG f) g a.1)).2 (g (fZ a))))))))) (∃(b:Nat),dx (zV n f g<=b) (aa (bN (qQ n a f g) (bG a.2) 50 (iY (m9 n (DG f) g a.1) (m9 n (DG f) g a.1))) (bN (zV n f g) (bG b) 50 (iY (kK n f g) (kK n f g)))) (dh 1 2 (qQ n a f g) a.2) (dh 1 2 (zV n f g) b)))):=⟨by kernel_rfl,by kernel_rfl⟩
theorem atv (n:Nat)(f g:Nat->h_)(p:h_)(z:Bool)(o c:Nat)(key:Option Nat):dw (iE uy (rF 1 1 (wP 2 8 1 qe qe) qe) Pl.k) (je (anE n f g p) 145 bn [.cT 0 2 z o 0 n c,.str H p] [fX z o c n f g key] (ze (dW p (aQ n f g)))) ((fun(a:Nat×Nat->SB)=>(∃(a:Nat×Nat),cM (qP n a) (pI n p a f g<=a.2) (mL a) (pI n p a f g=0) (fo (Cz F (dW p (m9 n f g a.1)) a.2)))/\(∀(b:Nat×Nat),qP n b/\pI n p b f g<=b.2->Fk (ya n b) (aj (qR n b) (qU o n b) (dM (bB p) (B3 b f) (az (qR n b) (qU o n b) (aj nT (0<=bB p) (bB p<=B3 b f)) (Fk (bT (f (fZ b)) I (cc 29) 0 (bB p)=p) (cI (qR n b) (qU o n b) (kM (bB p) (bB p) (B3 b f) (B3 b f<=B3 b f)) (qR n b) (qU o n b) (gL (pI n p b f g) (pI n p b f g) 2 (pI n p b f g) 32 (pI n p b f g)) (∀(a:Nat),cN (aB (pI n p b f g)) a (kP b) (∃(c:Nat×Nat),az (aD (qP n c) (pI n p c f g<=c.2) (vg n c b)) (j8 b c) (aB (pI n p b f g)=pI n p c f g/\a=c.2) (cv (aB (pI n p b f g)) (bG a) (ahN n p c f g) 50 (gD (λa=>dg a (pI n p b f g) a (pI n p b f g) (gp a (dW p (m9 n f g b.1))).1 (bT (f (fZ b)) (cc 41) I (bB p) (B3 b f))) (λa=>dg a (pI n p b f g) a (pI n p b f g) (gp a (dW p (m9 n f g b.1))).2 (g (fZ b)))))))) (kP b/\arN n p b f g a))) (kP b/\arN n p b f g a))) (∃(c:Nat),dx (O (dW p (aQ n f g))<=c) (aa (a b) (bN (O (dW p (aQ n f g))) (bG c) 50 (iY (dW p (aQ n f g)) (dW p (aQ n f g))))) (dh 1 2 (pI n p b f g) b.2) (dh 1 2 (O (dW p (aQ n f g))) c)))) (λa=>ahN n p a f g)):=⟨by kernel_rfl,by kernel_rfl⟩
theorem alP (n:Nat)(f g:Nat->h_)(z:Bool)(o c:Nat)(key:Option Nat):dw (jW (wO uy (Pl.s 5 Mg))) (je (am5 n f g) 144 bl [.cT 0 2 z o 0 n c] [fX z o c n f g key] (.ret (.str H (l8 (f 0) (aQ n f g))))) (az (cw n 0) (cQ o (0<n)) (∃(a:Nat),aj (a<=n) (fy a) (f 0=Dn n a f g)) (∀(a:Nat),aJ a n (Fk (rQ a n) (cK (mS a n) (pL o a n) (C3 (Dn n a f g)/\C3 (Dn n a f g)) (aj nT (0<=wN (Dn n a f g) (kY a f)) (wN (Dn n a f g) (kY a f)<=bx (Dn n a f g))) (i5 a) (∃(b:Nat),aj (br b n (aP n b n a)) (gS a b) (bT (Dn n a f g) I (cc 22) 0 (wN (Dn n a f g) (kY a f))=Dn n b f g))) (ai (aA (Dn n a f g)) (aA (l8 (f 0) (aQ n f g))))))):=⟨by kernel_rfl,by kernel_rfl⟩
theorem ab4 (fr to:h_)(n:Nat)(f g:Nat->h_)(z:Bool)(o c:Nat)(key:Option Nat):dw (iE uy (wP 3 5 1 qe qe) Pl.k) (je (acH fr to n f g) 18 bW [.cT 0 2 z o 0 n c,.str H fr,.str H to] [fX z o c n f g key] (ze (cG fr to (aQ n f g)))) ((∃(a:Nat×Nat),az (IN n fr to a f g) (mL a) (ou n fr to a f g=0) (fo (Cz F (qZ fr to n f g a.1) a.2)))/\(∀(a:Nat×Nat),IN n fr to a f g->Fk (ya n a) (aC (qR n a) (qU o n a) (bS (f (fZ a))) (aj (gd fr) (gd to) (bS (ak (f (fZ a))))) (Bk (hasB fr to (ak (f (fZ a)))) (aj (qR n a) (qU o n a) (aim n fr to a f g)) (kP a/\(∃(b:Nat×Nat),cM (IN n fr to b f g) (vg n b a) (j8 a b) (ou n fr to a f g=ou n fr to b f g/\ur a b) (aa (Ia n fr to a f g) (Ia n fr to b f g)))))) (∃(b:Nat),dx (xd n fr to f g<=b) (aa (Ia n fr to a f g) (bN (xd n fr to f g) (bG b) 50 (jK (mC n fr to f g) (mC n fr to f g)))) (dh 1 2 (ou n fr to a f g) a.2) (dh 1 2 (xd n fr to f g) b)))):=⟨by kernel_rfl,by kernel_rfl⟩
theorem aoo {pt:PT}(h:aq J 179 pt)(hm:bC pt):Sx.Good J (am3 pt):=.of bI (aR.cons h hm Ew) aO
theorem anQ {k:Nat}{a b:h_}(h:a.length<k+1)(hs:a.length<9223372036854775807):au (eS (am3 (aI (y8 k))) 179 Z [.str H a,.str H b] (λv=>ai v (.int .i64 H (cg a b)))):=by
 refine au.j7 (awh k a b _) (by delta Fk Bk I6 Ix NI bx bB bF bq aj aC dK rM BA uk gJ IT vl Qp cJ ja aX wN C3;exact rfl) ?_;cases a with
 | nil=>exact⟨λ_ _=>rfl,λh=>by simp at h⟩
 | cons x p=>cases b with
   | nil=>exact⟨λh=>by simp at h,λ_=>⟨λ_ _=>rfl,λh=>by simp at h⟩⟩
   | cons y q =>
     have e1:bT (x::p) (M (Operand.const (Value.int IntKind.i64 1))) I 1 ((x::p).length:Int)=p:=by unfold bT;simp
     have e2:bT (y::q) (M (Operand.const (Value.int IntKind.i64 1))) I 1 ((y::q).length:Int)=q:=by unfold bT;simp
     have hl:=(tI p q).1;have hb:ah (x::p) 0=ah (y::q) 0↔x=y:=⟨λe=>UInt8.toNat_inj.1 (by have:(x.toNat:Int)=(y.toNat:Int):=e;omega),λe=>by subst e;rfl⟩
     rw[cl] at h hs;show _/\_;rw[e1,e2,cg];simp only[cl];refine⟨λh=>by simp at h,λ_=>⟨λh=>by simp at h,λ_=>⟨⟨by omega,by omega⟩,⟨by omega,by omega⟩,λh=> ?_,λh=>⟨by omega,by omega,⟨by omega,by omega⟩,by omega,?_⟩⟩⟩⟩
     ·rw[p_ (by grind)];exact λ_=>rfl
     ·rw[o_ (by grind)];exact vK (by omega)
theorem age: ∀ m,aq J 179 (aI (y8 m))
 | 0=>by
   refine iH (aoo (Nz _) ED) (n:=20) c8 (by kernel_rfl) (by kernel_rfl) ?_;intro args p r h hp;unfold y8 at h;split at h
   ·cases h;exact absurd hp.1 (a! _)
   ·cases h
 | k+1=>by
   refine iH (aoo (age k) (aE _)) (n:=20) c8 (by kernel_rfl) (by kernel_rfl) ?_;intro args p r h hp;unfold y8 at h;split at h
   ·cases h;exact⟨rfl,rfl,anQ hp.1 hp.2⟩
   ·cases h
theorem sY:aR J (λf=>av f CO):=.cons (age _) (aE _) Ew
theorem ayY (n:Nat)(f g:Nat->h_):Sx.Good J (anq n f g):=.of bI sY aO
theorem ay9 (n:Nat)(f g:Nat->h_)(p:h_):Sx.Good J (anE n f g p):=.of bI sY aO
theorem ayF (n:Nat)(f g:Nat->h_):Sx.Good J (am5 n f g):=.of bI sY aO
theorem auD (fr to:h_)(n:Nat)(f g:Nat->h_):Sx.Good J (acH fr to n f g):=.of bI (aR.cons aiY (aE _) sY) aO
theorem La (hi:i<n):m9 n f g (i+1)=m9 n f g i++[(f i,g i)]:=Kz hi
theorem abM (hi:i<=n):(m9 n f g i).length=i:=by unfold m9;rw[S,fI];omega
theorem Q6 (hi:n<=i):m9 n f g i=aQ n f g:=by unfold m9;rw[List.take_of_length_le (by rw[fI];exact hi)]
theorem WD (n:Nat)(f g:Nat->h_)(hn:n<=1000)(hf: ∀ i,i<n->(f i).length<1099511627776)(z:Bool)(o c:Nat)(key:Option Nat):au (je (anq n f g) 93 b! [.cT 0 2 z o 0 n c] [fX z o c n f g key] (ze (aQ n (λi=>ak (f i)) g))):=by
 refine au.xD (ati n f g z o c key) (by delta Fk I6 Ix Er NI aJ cQ aj aC az cM bt dy aD cw bN bJ aB b8 gZ dh cv aV fo dx dg eD j8 mL kP aP cN bS dB iM gL bG gD vg qP qR ya fZ qU iY DG kK zV gp qQ;exact rfl) ?_;simp only[W,V,P,true_and,m_,n_];refine⟨⟨(0,0),⟨T _,P _⟩,rfl,rfl,rfl⟩,λx ⟨h1,h2⟩=>⟨λh=> ?_,λh=> ?_⟩⟩
 ·obtain⟨i,c⟩:=x;have hlt:(i,c).fst<n:=by omega
  have e:=La (f:=λi=>ak (f i)) (g:=g) hlt;have el:=abM (f:=λi=>ak (f i)) (g:=g) (ep hlt);refine⟨by omega,hlt,by omega,hlt,hf i hlt,⟨by omega,by omega⟩,λc' hc'=>⟨by omega,(i+1,c'),⟨⟨hlt,by rw[e,Q];exact hc'⟩,by show n-(i+1)<n-i;omega⟩,by show(i:Int)+1=((i+1:Nat):Int);omega,⟨by rw[e,Q];rfl,rfl⟩,Ht e rfl⟩⟩
 ·have e:=Q6 (f:=λi=>ak (f i)) (g:=g) (by omega:n<=x.1);exact⟨x.2,by rw[← e];exact h2,we (z:=F) e rfl,vS rfl (congrArg O e) rfl⟩
theorem MY (fr to:h_)(n:Nat)(f g:Nat->h_)(hn:n<=1000)(hf: ∀ i,i<n->(f i).length<=1000)(hr:fr.length<=1000)(ht:to.length<=1000)(z:Bool)(o c:Nat)(key:Option Nat):au (je (acH fr to n f g) 18 bW [.cT 0 2 z o 0 n c,.str H fr,.str H to] [fX z o c n f g key] (ze (cG fr to (aQ n f g)))):=by
 refine au.xD (ab4 fr to n f g z o c key) (by delta Fk Bk I6 Ix Er NI aJ cQ aj aC az cM bt dy cw bN bJ aB b8 gZ dh cv aV fo dx dg eD j8 mL kP aP cN bS fk ur iM gL jK bG gD vg qP qR ya fZ qU iY gp gd Ia ou mC xd IN aim;exact rfl) ?_;simp only[W,V,P,true_and,m_,n_];refine⟨⟨(0,0),⟨T _,P _⟩,rfl,rfl,rfl⟩,λx ⟨h1,h2⟩=>⟨λh=> ?_,λh=> ?_⟩⟩
 ·obtain⟨i,c⟩:=x;have hl:(qZ fr to n f g (i,c).fst).length<=n:=afT fr to n f g i;have hlt:(i,c).fst<n:=by omega
  have hf:=hf i hlt;have hp:=jD (f i);refine⟨by omega,hlt,by show(f i).length<_;omega,⟨hr,ht,by show(ak (f i)).length<_;omega⟩,λhb=>⟨by omega,hlt,⟨by omega,by omega⟩,λc' hc'=>⟨⟨by omega,by omega⟩,(i+1,c'),?_⟩⟩,λhb=>⟨⟨by omega,by omega⟩,(i+1,c),?_⟩⟩
  ·have e:=afU (g:=g) hlt hb;have el:(qZ fr to n f g (i+1)).length=(qZ fr to n f g i).length+1:=by rw[e,Q];rfl
   exact⟨⟨⟨hlt,by show _<=c';rw[el];exact hc'⟩,by show n-(i+1)<n-i;omega⟩,by show(i:Int)+1=((i+1:Nat):Int);omega,⟨el.symm,rfl⟩,Ht e rfl⟩
  ·have e:=amF (g:=g) hlt hb;exact⟨⟨⟨hlt,by show(qZ fr to n f g (i+1)).length<=c;rw[e];exact h2⟩,by show n-(i+1)<n-i;omega⟩,by show(i:Int)+1=((i+1:Nat):Int);omega,⟨congrArg O e.symm,rfl⟩,we (z:=F) e.symm rfl⟩
 ·have e:=afR fr to n f g x.1 (by omega);exact⟨x.2,by rw[← e];exact h2,we (z:=F) e rfl,vS rfl (congrArg O e) rfl⟩
theorem US (s:h_)(k:Nat)(t:Operand):bT s I (M t) 0 (k:Int)=s.take k:=by unfold bT;simp
theorem alM (s:h_)(k:Nat)(t:Operand):bT s (M t) I (k:Int) (s.length:Int)=s.drop k:=by unfold bT;simp
theorem asQ (hi:i<n):dW p (m9 n f g (i+1))=dW p (m9 n f g i)++(if MX p (f i)=F then [((f i).drop p.length,g i)] else []):=by rw[La hi];unfold dW;rw[List.filter_append,List.map_append];congr 1;rw[List.filter_cons];split<;>rfl
theorem av6 (p:h_)(n:Nat)(f g:Nat->h_)(hi:i<=n):(dW p (m9 n f g i)).length<=n:=by have h1:=List.length_filter_le (λr:Rw=>MX p r.1) (m9 n f g i);rw[abM hi] at h1;unfold dW;rw[ec];omega
theorem Xj (n:Nat)(f g:Nat->h_)(p:h_)(hn:n<=1000)(z:Bool)(o c:Nat)(key:Option Nat):au (je (anE n f g p) 145 bn [.cT 0 2 z o 0 n c,.str H p] [fX z o c n f g key] (ze (dW p (aQ n f g)))):=by
 refine au.xD (atv n f g p z o c key) (by delta Fk I6 Ix Er NI aJ cQ bx bB aj aC az dM cM bt nT dU kM cc dy aD cw bN bJ aB b8 gZ dh cv aV fo cI dx dg eD j8 mL kP aP cN ur iM gL bG gD vg qP qR ya fZ B3 qU iY gp pI ahN arN;exact rfl) ?_;simp only[W,V,P,true_and,m_,n_,US,alM];refine⟨⟨(0,0),⟨T _,P _⟩,rfl,rfl,rfl⟩,λx ⟨h1,h2⟩=>⟨λh=> ?_,λh=> ?_⟩⟩
 ·obtain⟨i,c⟩:=x;have hlt:(i,c).fst<n:=by omega
  have hl:=av6 p n f g (ep hlt);have e:=asQ (p:=p) (f:=f) (g:=g) hlt;have skip:MX p (f i)=H->∃ u:Nat×Nat,((u.fst<=n/\(dW p (m9 n f g u.fst)).length<=u.snd)/\n-u.fst<n-i)/\(i:Int)+1=(u.fst:Int)/\((dW p (m9 n f g i)).length=(dW p (m9 n f g u.fst)).length/\c=u.snd)/\aa (Cz F (dW p (m9 n f g i)) c) (Cz F (dW p (m9 n f g u.fst)) u.snd):=λhb=>by dsimp only at e;rw[hb,p_ (by decide),List.append_nil] at e;exact⟨(i+1,c),⟨⟨hlt,by rw[e];exact h2⟩,by show n-(i+1)<n-i;omega⟩,rfl,⟨by rw[e],rfl⟩,we e.symm rfl⟩
  refine⟨by omega,hlt,λhb=>⟨by omega,hlt,by omega,λhq=>⟨by omega,hlt,by omega,by omega,hlt,⟨by omega,by omega⟩,λc' hc'=>⟨by omega,(i+1,c'),?_⟩⟩,λhq=>⟨by omega,skip (by unfold MX;simp_all)⟩⟩,λhb=>⟨by omega,skip (by unfold MX;rw[l_ (by dsimp only at hb;omega)];rfl)⟩⟩;have hb':MX p (f i)=true:=by unfold MX;simp_all
  dsimp only at e;rw[hb',o_ rfl] at e;exact⟨⟨⟨hlt,by rw[e,Q];exact hc'⟩,by show n-(i+1)<n-i;omega⟩,rfl,⟨by rw[e,Q];rfl,rfl⟩,Ht e rfl⟩
 ·have e:dW p (m9 n f g x.1)=dW p (aQ n f g):=by rw[Q6 (by omega:n<=x.1)]
  exact⟨x.2,by rw[← e];exact h2,we (z:=F) e rfl,vS rfl (congrArg O e) rfl⟩
theorem X5: ∀(l:List Rw) (p:h_),(l8 p l).length<=p.length
 | [],_=>P _
 | r::l,p=>Nat.le_trans (X5 l _) (by rw[S];omega)
theorem ajJ (hi:i<n):l8 p (m9 n f g (i+1))=(l8 p (m9 n f g i)).take (cg (l8 p (m9 n f g i)) (f i)):=by rw[La hi];unfold l8;rw[c_];rfl
theorem Rs (n:Nat)(f g:Nat->h_)(h0:0<n)(hn:n<=1000)(hf:(f 0).length<=100000)(z:Bool)(o c:Nat)(key:Option Nat):au (je (am5 n f g) 144 bl [.cT 0 2 z o 0 n c] [fX z o c n f g key] (.ret (.str H (l8 (f 0) (aQ n f g))))):=by
 refine au.xD (alP n f g z o c key) (by delta Fk I6 Ix Er NI aJ cQ bx aj aC az bt aA nT cc cw br cK aP gS fy i5 lu iD wN mS rQ pL kY C3 Dn;exact rfl) ?_;simp only[W,V,true_and,m_,n_,US];refine⟨by omega,h0,⟨0,T _,rfl,rfl⟩,λi hi=>⟨λh=> ?_,λh=> ?_⟩⟩
 ·have hlt:i<n:=by omega
  have hl:=X5 (m9 n f g i) (f 0);have hc:=(tI (l8 (f 0) (m9 n f g i)) (f i)).1;exact⟨by omega,hlt,by omega,by omega,by omega,i+1,⟨hlt,by omega⟩,rfl,(ajJ hlt).symm⟩
 ·rw[Q6 (by omega:n<=i)];exact λ_=>rfl
end
section
open Go Sx
theorem X4: ∀(j:Nat) (a b:h_),cg (a.take j) b=min j (cg a b)
 | 0,a,b=>by rw[List.take_zero,Nat.zero_min];cases b<;>rfl
 | j+1,[],b=>by rw[List.take_nil];cases b<;>simp[cg]
 | j+1,x::p,[]=>by rw[a_];simp[cg]
 | j+1,x::p,y::q=>by have:=X4 j p q;rw[a_,cg,cg,this];split<;>omega
theorem Sf: ∀(k:Nat) (a b:h_),a.take k=b.take k->k<=a.length->k<=b.length->k<=cg a b
 | 0,_,_,_,_,_=>T _
 | k+1,x::p,y::q,h,ha,hb=>by rw[a_,a_] at h;injection h with h1 h2;have:=Sf k p q h2 (by simpa using ha) (by simpa using hb);rw[cg,o_ h1];omega
 | k+1,[],_,_,ha,_=>by simp at ha
 | k+1,_::_,[],_,_,hb=>by simp at hb
theorem Sg {r:h_}{k:Nat}(hr:k<=r.length): ∀(l:List Rw),(∀ x,x∈ l->x.1.take k=r.take k/\k<=x.1.length)->∀ j,k<=j->∃ j',k<=j'/\l8 (r.take j) l=r.take j'
 | [],_,j,hj=>⟨j,hj,rfl⟩
 | x::l,h,j,hj=>by
   obtain⟨h1,h2⟩:=h x (cx ..);have h3:=Sf k (r.take j) x.1 (by rw[cy,cB hj,h1]) (by rw[S];omega) h2;have e:l8 (r.take j) (x::l)=l8 (r.take (min (cg (r.take j) x.1) j)) l:=by show l8 ((r.take j).take _) l=_;rw[cy]
   rw[e];exact Sg hr l (λy hy=>h y (List.mem_cons_of_mem _ hy)) _ (by omega)
theorem JZ {r:Rw}{l:List Rw}(h:xE (r::l)):l8 r.1 (r::l)=r.1.take (cg r.1 (l.getLastD r).1):=by
 have hk:=tI r.1 (l.getLastD r).1;have hm: ∀ x,x∈ r::l->x.1.take (cg r.1 (l.getLastD r).1)=r.1.take (cg r.1 (l.getLastD r).1)/\cg r.1 (l.getLastD r).1<=x.1.length:=λx hx=>by have e:=vR h hx;have:=congrArg O e;rw[S,S] at this;exact⟨e,by omega⟩
 obtain⟨i,x,e⟩: ∃(i:List Rw) (x:Rw),r::l=i++[x]:=⟨(r::l).dropLast,(r::l).getLast (by simp),(List.dropLast_concat_getLast (by simp)).symm⟩
 have ex:l.getLastD r=x:=by
  have:(r::l).getLast?=M x:=by rw[e,List.getLast?_append];rfl
  rw[List.getLast?_cons] at this;simpa [List.getLastD_eq_getLast?] using this
 rw[ex] at hk hm ⊢;obtain⟨j,h1,h2⟩:=Sg hk.1 i (λy hy=>hm y (by rw[e];exact ag _ hy)) r.1.length hk.1;rw[List.take_length] at h2;have:l8 r.1 (r::l)=(l8 r.1 i).take (cg (l8 r.1 i) x.1):=by rw[e];unfold l8;rw[c_];rfl
 rw[this,h2,X4,cy];congr 1;omega
theorem alK {l:List Rw}(h: ∀ x,x∈ l->MX p x.1=F):dW p l=eV p.length l:=by unfold dW eV;rw[List.filter_eq_self.2 h]
theorem Rc {r:Rw}{l:List Rw}(h:xE (r::l)):dW (r.1.take (cg r.1 (l.getLastD r).1)) (r::l)=eV (cg r.1 (l.getLastD r).1) (r::l):=by have hk:=tI r.1 (l.getLastD r).1;rw[alK λx hx=> ?_,S,cB hk.1];have e:=vR h hx;have:=congrArg O e;rw[S,S] at this;unfold MX;rw[S,cB hk.1,e,k_ (by omega),k_ rfl];rfl
theorem auh (i:Nat)(hi:i<256)(k:h_):MX [UInt8.ofNat i] k=qt i k:=by
 unfold MX qt;cases k with
 | nil=>rfl
 | cons b r =>
   have:(b=UInt8.ofNat i)↔b.toNat=i:=⟨λe=>by subst e;simp;omega,λe=>by subst e;simp⟩
   simp[this]
theorem UP (hi:i<256)(l:List Rw):dW [UInt8.ofNat i] l=eV 1 (jz i l):=by unfold dW eV jz;simp only[auh i hi];rfl
end
section
open Go Sx
set_option maxRecDepth 20000
def EF (vs:List SV)(l:List Seen):Option (Prop×fC):=match vs,l with
 | [_],[⟨_,_,_,n,_,[.str f,.str g]⟩]=>M (n<=1000/\∀ i,i<n->(f i).length<1099511627776,ze (aQ n (λi=>ak (f i)) g))
 | _,_=>I
theorem Ts:aq J 93 (bV UH EF):=by
 refine gi (n:=20) (fn:=b!) Tryz.func93 (by kernel_rfl) (by kernel_rfl) ?_;intro vs l q a h hq;unfold EF at h;split at h
 ·cases h;exact⟨_,ayY _ _ _,rfl,Hu _,WD _ _ _ hq.1 hq.2 _ _ _ _⟩
 ·cases h
def Le (vs:List SV)(l:List Seen):Option (Prop×fC):=match vs,l with
 | [_,.str H p],[⟨_,_,_,n,_,[.str f,.str g]⟩]=>M (n<=1000,ze (dW p (aQ n f g)))
 | _,_=>I
theorem alJ:aq J 145 (bV avS Le):=by
 refine gi (n:=20) Tryz.func145 (by kernel_rfl) (by kernel_rfl) ?_;intro vs l q a h hq;unfold Le at h;split at h
 ·cases h;exact⟨_,ay9 _ _ _ _,rfl,Hu _,Xj _ _ _ _ hq _ _ _ _⟩
 ·cases h
def Oa (vs:List SV)(l:List Seen):Option (Prop×fC):=match vs,l with
 | [_],[⟨_,_,_,n,_,[.str f,.str g]⟩]=>M (0<n/\n<=1000/\(f 0).length<=100000,.ret (.str H (l8 (f 0) (aQ n f g))))
 | _,_=>I
theorem acW:aq J 144 (bV UH Oa):=by
 refine gi (n:=20) Tryz.func144 (by kernel_rfl) (by kernel_rfl) ?_;intro vs l q a h hq;unfold Oa at h;split at h
 ·cases h;exact⟨_,ayF _ _ _,rfl,rfl,Rs _ _ _ hq.1 hq.2.1 hq.2.2 _ _ _ _⟩
 ·cases h
def ai5:List E6:=[.of (.slice dE),.of .one,.of .one]
def JS (vs:List SV)(l:List Seen):Option (Prop×fC):=match vs,l with
 | [_,.str H fr,.str H to],[⟨_,_,_,n,_,[.str f,.str g]⟩]=>M (n<=1000/\(∀ i,i<n->(f i).length<=1000)/\fr.length<=1000/\to.length<=1000,ze (cG fr to (aQ n f g)))
 | _,_=>I
theorem U':aq J 18 (bV ai5 JS):=by
 refine gi (n:=20) Tryz.func18 (by kernel_rfl) (by kernel_rfl) ?_;intro vs l q a h hq;unfold JS at h;split at h
 ·cases h;exact⟨_,auD _ _ _ _ _,rfl,Hu _,MY _ _ _ _ _ hq.1 hq.2.1 hq.2.2.1 hq.2.2.2 _ _ _ _⟩
 ·cases h
noncomputable def CP:List (FuncId×PT):=(145,bV avS Le)::(144,bV UH Oa)::CO
theorem sZ:aR J (λf=>av f CP):=.cons alJ (bR _ _) (.cons acW (bR _ _) sY)
structure Rws (m n:Nat)(f g:Nat->h_):Prop where
 ok:dZ m (aQ n f g)
 n0:0<n
 n:n<=1000
 m:m<=13
def tA (an:Nat->List Rw->SV)(m:Nat)(vs:List SV)(l:List Seen):Option (Prop×fC):=match vs,l with
 | [_],[⟨_,_,_,n,_,[.str f,.str g]⟩]=>M (Rws m n f g,.ret (an m (aQ n f g)))
 | _,_=>I
noncomputable def asl (m:Nat):PT:=bV UH (tA (λm l=>.str H (qv m l)) m)
noncomputable def WZ (m:Nat):PT:=bV UH (tA (λm l=>(gR m l).sv) m)
noncomputable def EI (m:Nat):PT:=bV UH (tA (λm l=>.str H (ctext m l)) m)
def Aj (f g:Nat->h_):Nat->h_
 | 0=>[]
 | i+1=>if f i=[] then g i else Aj f g i
noncomputable def ax5 (n:Nat)(f g:Nat->h_):aN :=
 {α:=Nat,pre:=λ_ i=>i<=n,nF:=λ_ i=>n-i,fresh:=0,slots:=λ_ i=>[(6,.int .i64 H i)],
  mem:=λst i=>[(By st 5,.cells (kq ⟨3,[],Aj f g i,bX⟩) 19 138)]}
noncomputable def auc (m n:Nat)(f g:Nat->h_):aN :=
 {α:=Nat,pre:=λ_ i=>i<=16,nF:=λ_ i=>16-i,fresh:=0,slots:=λ_ i=>[(7,.int .i64 H i)],
  mem:=λst i=>[(By st 5,.cells (kq ⟨3,[],Aj f g n,uz m (aQ n f g) i⟩) 19 138)]}
noncomputable def acP (m n:Nat)(f g:Nat->h_):iG:={bQ with cO:=λf=>av f ((182,asl m)::CP),bU:=λh=>if h=147 then [(12,always (ax5 n f g)),(17,always (auc m n f g))] else []}
def W3:List SV->Option (Prop×fC):=vA λx=>M ((aZ x=F/\Fits x/\x.p.length<1152921504606846976),.ret (.dr [.str H (eM x),.int .i64 F 0]))
noncomputable def acJ (m:Nat):iG:={bQ with cO:=λf=>av f ((147,WZ m)::(146,bZ W3)::CP)}
noncomputable def anb:iG:={bQ with cO:=λf=>av f CO}
noncomputable def acS (m:Nat):iG:={bQ with cO:=λf=>av f ((95,EI m)::(206,aI EJ)::CP)}
def aps (l:List Rw):List Rw:=aQ l.length (λi=>(l.getD i ([],[])).1) λi=>(l.getD i ([],[])).2
section
variable (n m k : Nat) (x y : Nat-> h_)
abbrev Il:=dW (fq (NI n)) (aQ m x y)
abbrev LZ:=dW (l8 (x 0) (aQ n x y)) (aQ n x y)
abbrev aag:=nJ (kq (iX (Aj x y n) 3 (uz m (aQ n x y) k))) 138
abbrev aal:=nJ (kq (iX (Aj x y n) 3 bX)) 138
abbrev MA:=jW Mg
end
theorem aww (m n:Nat)(f g:Nat->h_)(z:Bool)(o c:Nat)(key:Option Nat):dw (Pl.s 3 (iE uy (jQ 1 (Pl.s 3 Mg) MA) (wO uy (jQ 0 (Pl.s 4 Mg) MA)))) (je (acP m n f g) 147 Tryz.f147 [.cT 0 2 z o 0 n c] [fX z o c n f g key] (.ret (gR (m+1) (aQ n f g)).sv)) ((fun(a:Nat->SB)=>pX n 0 (ai lI (Nd.sv (gR (aB m) (aQ n f g)))) (pX n 1 (aC (cw n 0) (cQ o (0<n)) (cw n 0) (cQ o (0<n)) (ai (SV.agg (fz kI (yF 0 f) (yF 0 g) fu tu)) (Nd.sv (gR (aB m) (aQ n f g))))) (cE (cM (nR o n z) True (0<n) (gA n) (fk 100000 (f 0))) (aD (nR o n z) uh (gA n)/\(∀(a:Nat),aJ (O (LZ n f g)) a (aD (aD i9 (b8 (O (LZ n f g)) (O (LZ n f g))) True) (Rws m (O (LZ n f g)) (λa=>(gp a (LZ n f g)).1) (λa=>(gp a (LZ n f g)).2)) (ai (SV.agg (fz (bq 2) (aA (l8 (f 0) (aQ n f g))) fu (aA (qv m (aps (LZ n f g)))) tu)) (Nd.sv (gR (aB m) (aQ n f g))))))) (cR (∀(b:Nat),aJ b n (Fk (rQ b n) (aj (mS b n) (pL o b n) (ja (kY b f) (az (mS b n) (pL o b n) (i5 b) (∃(a:Nat),aj (br a n (aP n a n b)) (gS b a) (bH 19 (aal a f g) (kq (iX (kY b g) 3 bX)) 138))) (dF b (λc=>nK (br c n (aP n c n b)) (gS b c) (a b) (aal c f g))))) (cR (∀(a:Nat),mJ a->Fk (qN a) (aD (nR o n z) uh (gA n)/\(∀(b:Nat),aJ (O (Il a n f g)) b (lS (O (Il a n f g)) 0 (aC (aD i9 (b8 (O (Il a n f g)) (O (Il a n f g))) True/\Rws m (O (Il a n f g)) (λb=>(gp b (Il a n f g)).1) (λb=>(gp b (Il a n f g)).2)) (fE a 16) (lu a<16) (i5 a) (∃(b:Nat),aj (pH b a) (gS a b) (bH 19 (aag n m b f g) (kq (iX (Aj f g n) 3 (λb=>if lu a=b then qv m (aps (Il a n f g))else uz m (aQ n f g) a b))) 138))) (dF a (λb=>nK (pH b a) (gS a b) (aag n m a f g) (aag n m b f g)))))) (ai (SV.agg (kq (iX (Aj f g n) 3 (uz m (aQ n f g) a)))) (Nd.sv (gR (aB m) (aQ n f g))))) (λc=>nK (mJ c) (fy c) (a b) (aag n m c f g))))) (λa=>nK (a<=n) (fy a) My (aal a f g))) (decide (l8 (f 0) (aQ n f g)=[]))))) (λa=>aal a f g)):=⟨by kernel_rfl,by kernel_rfl⟩
theorem as1 (m n:Nat)(f g:Nat->h_)(z:Bool)(o c:Nat)(key:Option Nat):dw Pl.t (je (acJ m) 95 Tryz.f95 [.cT 0 2 z o 0 n c] [fX z o c n f g key] (.ret (.str H (ctext m (aQ n f g))))) (dx (aD (nR o n z) True (Rws m n f g)) (aj (aV (aZ (Nd.again (gR m (aQ n f g))))) (Fits (Nd.again (gR m (aQ n f g)))) (dA (Nd.again (gR m (aQ n f g))).p)) (aA (eM (Nd.again (gR m (aQ n f g))))) (aA (ctext m (aQ n f g)))):=⟨by kernel_rfl,by kernel_rfl⟩
theorem aAE (m n:Nat)(f g:Nat->h_)(z:Bool)(o c:Nat)(key:Option Nat):dw Pl.t (je (acS m) 182 Tryz.f182 [.cT 0 2 z o 0 n c] [fX z o c n f g key] (.ret (.str H (qv m (aQ n f g))))) (dx (aD (nR o n z) True (Rws m n f g)) (dA (ctext m (aQ n f g))) (aA (j5 (ctext m (aQ n f g)))) (aA (qv m (aQ n f g)))):=⟨by kernel_rfl,by kernel_rfl⟩
theorem Gi {r r':Nat->h_}: ∀ k,(∀ j,j<k->r j=r' j)->fP r k=fP r' k/\∀ j,iU r k j=iU r' k j
 | 0,_=>⟨rfl,λ_=>rfl⟩
 | k+1,h=>by
   obtain⟨h1,h2⟩:=Gi k λj hj=>h j (by omega);have e:=h k (Nat.lt_succ_self k);refine⟨by simp only[fP,e,h1],λj=> ?_⟩;simp only[iU,e,h1];cases cH (r' k)with
   | false=>simp only[cond_false];exact h2 j
   | true=>simp only[cond_true];rw[h2 j]
theorem afL (x:Nd)(j:Nat)(hj:j<16):x.again.r j=x.r j:=by
 match j,hj with
 | 0,_=>exact rfl
 | 1,_=>exact rfl
 | 2,_=>exact rfl
 | 3,_=>exact rfl
 | 4,_=>exact rfl
 | 5,_=>exact rfl
 | 6,_=>exact rfl
 | 7,_=>exact rfl
 | 8,_=>exact rfl
 | 9,_=>exact rfl
 | 10,_=>exact rfl
 | 11,_=>exact rfl
 | 12,_=>exact rfl
 | 13,_=>exact rfl
 | 14,_=>exact rfl
 | 15,_=>exact rfl
 | j+16,h=>exact absurd h (by omega)
theorem adb {D D':Nat->Bool}{cs cs':List bh}{tot:Nat}{ty:TypeId}{ro:Bool}(hD:D=D')(hl:cs'.length<=cs.length)(h: ∀ b,D b=F->∀(k:Nat) (c c':bh),cs[k]?=M c->cs'[k]?=M c'->∀ E,(c'.at b).val E=(c.at b).val E):aa (.sy D cs tot ty H) (.sy D' cs' tot ty ro):=by
 subst hD;refine⟨rfl,λb a ha=>⟨ha,λE o ⟨c,fr,h1,h2,h3,h4⟩=>⟨c,fr,h1,h2,λi u hu=> ?_,h4⟩,λ_=>rfl⟩⟩;rw[d!] at hu;cases hc:cs'[i]? with
 | none=>rw[hc] at hu;cases hu
 | some c1 =>rw[hc] at hu;cases hu;have hi:=(List.getElem?_eq_some_iff.1 hc).1;have h0:cs[i]?=M (cs[i]'(by omega)):=d_ (by omega);rw[h a ha i _ c1 h0 hc E];exact h3 i _ (by rw[d!,h0];rfl)
def It.add (A:It)(b a:Nat)(t:h_)(n c:Nat)(r:Nat->h_):It :=
 ⟨λx=>A.D x||x.beq b,λx=>bif A.D x then A.mP x else t,λx=>bif A.D x then A.fb x else a,λx=>bif A.D x then A.nb x else n,λx=>bif A.D x then A.cb x else c,λx=>bif A.D x then A.us x else 0,λx=>bif A.D x then A.hd x else 0,
  λx=>A.D2 x||(x.beq a&& !(F&&n.beq 0)),λx=>bif A.D2 x then A.n2 x else n,λx i=>bif A.D2 x then A.rf x i else r i⟩
theorem It.D5 {r:Nat->h_}{x:Nat}(h:A.D x=F):(A.add b a t n c r).D x=F/\(A.add b a t n c r).mP x=A.mP x/\(A.add b a t n c r).fb x=A.fb x/\(A.add b a t n c r).nb x=A.nb x/\(A.add b a t n c r).us x=A.us x/\(A.add b a t n c r).hd x=A.hd x:=by simp only[It.add,h,Bool.true_or,cond_true,and_self]
theorem It.G2 {r:Nat->h_}(h:A.D b=H):(A.add b a t n c r).D b=F/\(A.add b a t n c r).mP b=t/\(A.add b a t n c r).fb b=a/\(A.add b a t n c r).nb b=n/\(A.add b a t n c r).us b=0/\(A.add b a t n c r).hd b=0:=by simp[It.add,h]
theorem It.atZ {r:Nat->h_}{x:Nat}(h:A.D2 x=F):(A.add b a t n c r).D2 x=F/\(A.add b a t n c r).n2 x=A.n2 x/\∀ i,(A.add b a t n c r).rf x i=A.rf x i:=by simp[It.add,h]
theorem It.aml {r:Nat->h_}(hn:0<n)(h:A.D2 a=H):(A.add b a t n c r).D2 a=F/\(A.add b a t n c r).n2 a=n/\∀ i,(A.add b a t n c r).rf a i=r i:=by
 have:n.beq 0=false:=by cases n with
  | zero=>omega
  | succ n=>rfl
 simp[It.add,h,this]
theorem auB {g:h_->Nat}(h:Ce f i A g)(hd:bw f i (bg (f i))=F):Ce f (i+1) A g:=by
 obtain⟨e1,e2⟩:=Eb hd;have e: ∀ t,bw f (i+1) t=F->bw f i t=true:=λt ht=>by rw[e1 t];exact ht
 exact⟨λt ht=>h.dom t (e t ht),λt ht=>by rw[← e2 t];exact h.mP t (e t ht),λt ht=>h.nb t (e t ht),λt ht=>h.row t (e t ht),h.us⟩
theorem auA {g:h_->Nat}(h:Ce f i A g)(hd:bw f i (bg (f i))=H){a1:Nat}(hD: ∀ b,A.D b=F->b.beq a1=H)(hD2: ∀ b,A.D2 b=F->(b.beq a&& !(F&&(nV (f i)).beq 0))=H) :
  Ce f (i+1) (A.add a1 a (f i) (nV (f i)) c (lJ (f i))) (Jc g (bg (f i)) a1):=by
 have hn1:A.D a1=false:=by
  cases e:A.D a1 with
  | false=>rfl
  | true=>have:=hD a1 e;rw[en] at this;cases this
 have cases': ∀ t,bw f (i+1) t=F->(bw f i t=F/\t≠bg (f i))∨t=bg (f i):=λt ht=>by
  by_cases e:t=bg (f i)
  ·exact .inr e
  ·left;have:(bw f i t||decide (t=bg (f i)))=true:=ht;rw[l_ e,Bool.or_false] at this;exact⟨this,e⟩
 have g0: ∀ t,t≠bg (f i)->Jc g (bg (f i)) a1 t=g t:=λt e=>by unfold Jc;rw[l_ e];rfl
 have g1:Jc g (bg (f i)) a1 (bg (f i))=a1:=by unfold Jc;simp
 have f0: ∀ t,bw f i t=F->fD f (i+1) t=fD f i t:=λt e=>by rw[tT,e];rfl
 have f1:fD f (i+1) (bg (f i))=i:=by rw[tT,hd];simp
 refine⟨λt ht=> ?_,λt ht=> ?_,λt ht=> ?_,λt ht hp=> ?_,λb hb=> ?_⟩
 ·rcases cases' t ht with ⟨e,e2⟩ | rfl
  ·rw[g0 t e2];exact(It.D5 (h.dom t e)).1
  ·rw[g1];exact(It.G2 hn1).1
 ·rcases cases' t ht with ⟨e,e2⟩ | rfl
  ·rw[g0 t e2,(It.D5 (h.dom t e)).2.1,f0 t e];exact h.mP t e
  ·rw[g1,(It.G2 hn1).2.1,f1];rfl
 ·rcases cases' t ht with ⟨e,e2⟩ | rfl
  ·rw[g0 t e2,(It.D5 (h.dom t e)).2.1,(It.D5 (h.dom t e)).2.2.2.1];exact h.nb t e
  ·rw[g1,(It.G2 hn1).2.1,(It.G2 hn1).2.2.2.1]
 ·rcases cases' t ht with ⟨e,e2⟩ | rfl
  ·have o:=It.D5 (b:=a1) (a:=a) (t:=f i) (n:=nV (f i)) (c:=c) (r:=lJ (f i)) (h.dom t e);rw[g0 t e2] at hp ⊢;rw[o.2.1,o.2.2.1,o.2.2.2.1];rw[o.2.2.2.1] at hp;obtain⟨q1,q2,q3⟩:=h.row t e hp;have o2:=It.atZ (b:=a1) (a:=a) (t:=f i) (n:=nV (f i)) (c:=c) (r:=lJ (f i)) q1;exact⟨o2.1,by rw[o2.2.1];exact q2,λj hj=>by rw[o2.2.2];exact q3 j hj⟩
  ·have o:=It.G2 (a:=a) (t:=f i) (n:=nV (f i)) (c:=c) (r:=lJ (f i)) hn1;rw[g1] at hp ⊢;rw[o.2.1,o.2.2.1,o.2.2.2.1];rw[o.2.2.2.1] at hp;have ha:A.D2 a=false:=by
    cases e:A.D2 a with
    | false=>rfl
    | true =>
      have:=hD2 a e;have hb:(nV (f i)).beq 0=false:=by
       cases e:nV (f i)with
       | zero=>omega
       | succ n=>rfl
      rw[en,hb] at this;cases this
   have o2:=It.aml (A:=A) (b:=a1) (t:=f i) (c:=c) (r:=lJ (f i)) hp ha;exact⟨o2.1,by rw[o2.2.1];exact P _,λj _=>o2.2.2 j⟩
 ·by_cases e:A.D b=F
  ·have o:=It.D5 (b:=a1) (a:=a) (t:=f i) (n:=nV (f i)) (c:=c) (r:=lJ (f i)) e;rw[o.2.2.2.2.1,o.2.2.2.2.2];exact h.us b e
  ·have e:A.D b=false:=by simpa using e
   simp[It.add,e]
def It.none:It:=⟨λ_=>H,λ_=>[],λ_=>0,λ_=>0,λ_=>0,λ_=>0,λ_=>0,λ_=>H,λ_=>0,λ_ _=>[]⟩
theorem aon (f:Nat->h_)(g:h_->Nat):Ce f 0 It.none g:=⟨(λ_ h=>by cases h),(λ_ h=>by cases h),(λ_ h=>by cases h),(λ_ h=>by cases h),λ_ h=>by cases h⟩
theorem ab3 {x:Nd}(h:aZ x=F):Fits x:=λj hj=>by have:=(kj h).ref j hj;omega
theorem adf {x:Nd}(h:Fits x):Fits x.again:=λj hj=>by rw[afL x j hj];exact h j hj
theorem abE (x:RdG)(hx:Ut.pre x):au (runM (anz x) 80 c6 Ut x):=by
 refine au.xD (awC x) (by delta Fk Bk I6 Ix NI aM aJ aj aC az bE dK dD bt jk aY aD cw bJ aV aP k9 cX dR lS pY bS fk hJ fO qw uN gr jV mz pX jf wK qO vk iZ Ik jG PR x4 TK TM TQ aqF aqG pQ aqY ahO aq4 ahX Mu Uh aiE GD;exact rfl) ?_;obtain⟨hn,hf⟩:=hx;simp only[W,V,true_and,m_,n_];refine⟨λh0 h=> ?_,λh0=>⟨⟨(0,⟨It.none,λ_=>0⟩),⟨iC.zero _ _,aon _ _⟩,rfl,aa.SA λ_=>rfl,λa h=>absurd (show H=F from h) (by decide),λa h=>absurd (show H=F from h) (by decide)⟩,λy hy=>⟨λhlt=> ?_,λhge=> ?_⟩⟩⟩
 ·have: ¬ 0<x.n:=by omega
  rw[l_ this] at h;cases h
 ·obtain⟨i,A,g⟩:=y;obtain⟨hi,hg⟩:=hy;have hlt:(i:Int)<(x.n:Int):=hlt;have hlt':i<x.n:=by omega
  have hlen:(x.f i).length<=1000:=hf i hlt';have ef:flat [x.f i]=x.f i:=by unfold flat;simp
  refine⟨⟨by show(0:Int)<=(i:Int);omega,hlt⟩,hlt',⟨by show(x.f i).length<=_;omega,by show(x.f i).length<_;omega⟩,λhG=>⟨⟨by rw[ef];show(x.f i).length<_;omega,by show 1<_;decide⟩,?_⟩,λhG h=> ?_⟩
  ·have hG:bM (x.f i)=true:=hG;have hv:=sW hG;have hN: ∀ j,j<16->(getD (x.f i)).again.r j=(getD (x.f i)).r j:=afL _;have eN:fP (getD (x.f i)).again.r 16=nV (x.f i):=(Gi 16 hN).1;have eA: ∀ j,iU (getD (x.f i)).again.r 16 j=lJ (x.f i) j:=(Gi 16 hN).2;have hv2:aZ (getD (x.f i)).again=true:=(qX (o8 (getD (x.f i)))).trans hv;have next:iC x.n (λi=>bM (x.f i)) (i+1):=hi.next hlt hG
   show(bw x.f i (bg (flat [x.f i]))=F->_)/\(bw x.f i (bg (flat [x.f i]))=H->_)
   rw[ef];refine⟨λhd=>⟨⟨by show _<=(i:Int)+1;omega,by show(i:Int)+1<=_;omega⟩,(i+1,⟨A,g⟩),⟨⟨next,auB hg hd⟩,by show x.n-(i+1)<x.n-i;omega⟩,by show(i:Int)+1=((i+1:Nat):Int);omega,aa.fmap (Eb hd).1 λt=>rfl,aa.refl _,aa.refl _⟩,λhd=>⟨adf (ab3 hv),λ_ c hc a hD2 a1 hD=>⟨⟨by show _<=(i:Int)+1;omega,by show(i:Int)+1<=_;omega⟩,(i+1,⟨A.add a1 a (x.f i) (nV (x.f i)) c (lJ (x.f i)),Jc g (bg (x.f i)) a1⟩),⟨⟨next,auA hg hd hD (by rw[← eN];exact hD2)⟩,by show x.n-(i+1)<x.n-i;omega⟩,by show(i:Int)+1=((i+1:Nat):Int);omega,aa.fmap (λt=>rfl) (λt=>rfl),?_,?_⟩,λhv'=> ?_⟩⟩
   ·refine adb rfl (P _) λb hb k c1 c2 h1 h2 E=> ?_
    match k,h1,h2 with
    | 0,h1,h2 =>injection h1 with h1;injection h2 with h2;subst h1;subst h2;rfl
    | 1,h1,h2 =>
      injection h1 with h1;injection h2 with h2;subst h1;subst h2;show SV.val E (bh.at b (.iP _ 1 F _ _ _))=SV.val E (bh.at b (.iP _ 1 F _ (λu=>bif A.D u then A.nb u else fP (getD (x.f i)).again.r 16) _))
      rw[eN];rfl
    | 2,h1,h2 =>injection h1 with h1;injection h2 with h2;subst h1;subst h2;rfl
    | 3,h1,h2 =>injection h1 with h1;injection h2 with h2;subst h1;subst h2;rfl
    | k+4,h1,_=>simp at h1
   ·have e1:(fun(b j:Nat)=>bif A.D2 b then A.rf b j else iU (getD (x.f i)).again.r 16 j)=(fun(b j:Nat)=>bif A.D2 b then A.rf b j else lJ (x.f i) j):=by funext b j;rw[eA j]
    show aa (.ni (λb=>A.D2 b||b.beq a&& !(F&&(fP (getD (x.f i)).again.r 16).beq 0)) (λb=>bif A.D2 b then A.n2 b else fP (getD (x.f i)).again.r 16) [.str λb j=>bif A.D2 b then A.rf b j else iU (getD (x.f i)).again.r 16 j] H) _
    rw[e1,eN];exact aa.refl _
   ·rw[hv2] at hv';cases hv'
  ·have hG:bM (x.f i)=false:=hG;have:I0 x.n x.f=false:=List.all_eq_false.2 ⟨i,List.mem_range.2 hlt',by rw[hG];decide⟩;rw[this,Bool.and_false] at h;cases h
 ·obtain⟨i,A,g⟩:=y;obtain⟨hi,hg⟩:=hy;have hge: ¬ (i:Int)<(x.n:Int):=hge;have e:i=x.n:=by have:=hi.le;omega
  subst e;have hr:I0 x.n x.f=true:=hi.done hge;have h0':0<x.n:=by omega
  exact⟨λ_=>⟨⟨A,g⟩,hg,aa.refl _,aa.refl _,aa.refl _⟩,λh=>by rw[hr,k_ h0'] at h;cases h⟩
theorem asy:aq J 80 (dI Ut) :=jT (n:=20) Tryz.func80 (by kernel_rfl) (by kernel_rfl) Ut λx hx=>⟨_,ay7 x,rfl,abE x hx⟩
def ko (l:List h_)(s:h_):Bool:=decide (s∈ l)
def K9 (n:Nat)(f:Nat->h_)(h:h_):h_:=f (fD f n h).toNat
def Clo (n:Nat)(f:Nat->h_):Prop:=∀ h,bw f n h=F->∀ j,j<nV (K9 n f h)->bw f n (lJ (K9 n f h) j)=F
structure GY (n:Nat)(f:Nat->h_)(root:h_)(Fr:List h_)(k:Nat):Prop where
 root:root∈ Fr
 nod:Fr.Nodup
 dom: ∀ h,h∈ Fr->bw f n h=F
 clo: ∀ q,q<k->q<Fr.length->∀ j,j<nV (K9 n f (Fr.getD q []))->lJ (K9 n f (Fr.getD q [])) j∈ Fr
structure Ci (Fr:List h_)(met:h_->Int)(b:Nat):Prop where
 pos: ∀ h,h∈ Fr->1<=met h/\met h<=b
structure RcG where
 n:Nat
 f:Nat->h_
 A:It
 g:h_->Nat
 room:Int
 root:h_
def It.azj (A:It)(kR:Nat):SB:=.sy A.D [.str A.mP,.iP kR 1 F A.fb A.nb A.cb,.int .i64 A.us,.int .i64 A.hd] 4 133 F
def It.azt (A:It):SB:=.ni A.D2 A.n2 [.str A.rf] F
def pg (room:Int)(k:Nat):SB:=.cells [.int .i64 H room,.map k] 2 126
def wj (Fr:List h_)(c:Nat):SB:=.rows F Fr.length [.str λq=>Fr.getD q []] H (c*1) 9
def z7:mg :=
 {G:=RcG,n:=5,N:=6,pre:=λx=>x.n<=1000/\Ce x.f x.n x.A x.g/\bw x.f x.n x.root=F/\Clo x.n x.f,args:=λx=>[.ptr 0 F 0,.str H x.root,.map 2],
  mem:=λx=>[(0,pg x.room 1),(1,.map [] 0),(2,.fmap (bw x.f x.n) (.ref 3 x.g) I),(3,x.A.azj 4),(4,x.A.azt)],
  Fg:=λx=>.all (List h_×Nat) λy=>.req (GY x.n x.f x.root y.1 y.1.length/\y.1.length<=y.2) (.ret (.dr [.bY 5 1 F 0 y.1.length y.2,.int .i64 F 0]) [(0,pg x.room 1),(1,.map [] 0),(2,.fmap (bw x.f x.n) (.ref 3 x.g) I),(5,wj y.1 y.2)])}
structure BfS where
 i:Nat
 Fr:List h_
 c:Nat
 met:h_->Int
def amG (st:Sx.St)(y:BfS):Mem:=[(By st 8,.cells [.bY st.nx 1 F 0 y.Fr.length y.c] 1 29),(st.nx,wj y.Fr y.c),(axj st 9,.fmap (ko y.Fr) (.int .i64 y.met) I)]
def acy (st:Sx.St):List Nat:=match st.m.get (By st 8)with
 | some (.cells [.bY k _ _ _ _ _] _ _)=>[k]
 | some (.cells [.slc k _ _ _ _] _ _)=>[k]
 | _=>[]
noncomputable def aA1 (x:RcG):aN :=
 {α:=BfS,pre:=λ_ y=>y.i<=y.Fr.length/\y.Fr.length<=y.c/\GY x.n x.f x.root y.Fr y.i/\Ci y.Fr y.met (1+16*y.i),nF:=λ_ y=>x.n-y.i,fresh:=1,slots:=λ_ y=>[(12,.int .i64 H y.i),(11,.bool F F)],
  mem:=amG,drop:=acy}
noncomputable def axU (x:RcG)(i:Int)(h:h_):aN :=
 {α:=Nat×BfS,pre:=λ_ y=>y.1<=nV (K9 x.n x.f h)/\(i=(y.2.i:Int)/\h=y.2.Fr.getD y.2.i []/\y.2.i<y.2.Fr.length)/\y.2.Fr.length<=y.2.c/\GY x.n x.f x.root y.2.Fr y.2.i/\Ci y.2.Fr y.2.met (1+16*y.2.i+y.1)/\(∀ j,j<y.1->lJ (K9 x.n x.f h) j∈ y.2.Fr),
  nF:=λ_ y=>nV (K9 x.n x.f h)-y.1,fresh:=1,slots:=λ_ y=>[(36,.int .i64 H y.1),(11,.bool F F)],mem:=λst y=>amG st y.2,drop:=acy}
noncomputable def axT (x:RcG):aN :={α:=BfS,pre:=λ_ y=>y.i=0/\y.Fr.length<=y.c/\GY x.n x.f x.root y.Fr 0/\Ci y.Fr y.met 1,nF:=λ_ _=>0,fresh:=1,slots:=λ_ _=>[(11,.bool F F)],mem:=amG,drop:=acy}
noncomputable def ax8 (x:RcG):B6:=[(1004,always (axT x)),(6,always (aA1 x)),(9,λst=>match slot st.tmps 12,slot st.tmps 30 with
 | some (.int _ _ i),M (.str _ h)=>M (one (axU x i h))
 | _,_=>I)]
noncomputable def anr (x:RcG):iG:={bQ with cO:=λf=>av f ad8,bU:=λh=>if h=81 then ax8 x else []}
theorem ayZ (x:RcG):Sx.Good J (anr x):=.of bI S7 aO
section
variable (n : Nat) (y : RcG) (x : BfS) (z g : Nat × BfS) (f : List h_ × Nat)
abbrev P1:=y.A.rf (y.A.fb (y.g (aU (pY x.i) x.Fr))) (pY z.1)
abbrev P3:=aU (pY x.i) x.Fr
abbrev oF:=O x.Fr
abbrev ahT:=GY y.n y.f y.root x.Fr 0/\Ci x.Fr x.met 1
abbrev aqU:=az (aK 1 (oF x) n x.c) (0<oF x) (bH (aF n) (wj x.Fr x.c) [aA y.root] 9) (aa (SB.map [(0,aA y.root,bq 1)] 1) (eO (ko x.Fr) x.met))
abbrev az3:=∀(a:Nat),aJ 1 a (Bk (bw y.f y.n y.root) (∃(b:BfS),aj (aj (b.i=0) (oF b<=b.c) (ahT y b)) (aV (not H)) (aqU a y b)) (∃(b:BfS),aj (aj (b.i=0) (oF b<=b.c) (ahT y b)) (aV (not F)) (aqU a y b)))
abbrev Ib:=NI x.i
abbrev sH:=z.2.Fr
abbrev Z4:=eO (ko x.Fr) x.met
abbrev Dh:=NI z.1
abbrev qM:=O f.1
abbrev BL:=z.2.c
abbrev aar:=br z.1 (nV (K9 y.n y.f (P3 x))) (aC (aj (Ib x=NI z.2.i) (P3 x=aU z.2.i (sH z)) (z.2.i<O (sH z))) (O (sH z)<=BL z) (GY y.n y.f y.root (sH z) z.2.i) (Ci (sH z) z.2.met (1+16*z.2.i+z.1)) (∀(a:Nat),a<z.1->lJ (K9 y.n y.f (P3 x)) a∈ sH z))
abbrev uu:=O (sH z)
abbrev aav:=K9 y.n y.f (P3 x)
abbrev aiA:=dflt (ko (sH z) (P1 y x z)) (z.2.met (P1 y x z))+1
abbrev aiy:=eO (ko (sH z)) z.2.met
abbrev aq3:=aa (eO (kQ (ko (sH z)) (P1 y x z)) (qh z.2.met (P1 y x z) (aiA y x z))) (aiy g)
abbrev aaK:=GY y.n y.f y.root f.1 (qM f)/\qM f<=f.2
abbrev ah2:=aj (x.i<=oF x) (oF x<=x.c) (GY y.n y.f y.root x.Fr x.i/\Ci x.Fr x.met (1+16*x.i))
abbrev ah5:=bN (oF x) (aF x.c) 9 (bJ (λa=>aU a x.Fr) ej)
abbrev aa6:=uO (wJ uy)
abbrev aiR:=uO (jW aiO)
end
theorem alY (x:RcG):dw (Pl.n (iE (Pl.n (dJ aa6) (dJ aa6)) (dJ aa6) (dJ aa6)) (iE (dJ aiR) (uW 1 (dJ (iE (dJ aiR) (jQ 2 (jW aiR) (uW 1 (jh 1 aa6))) (jW aiR)))) (m4 0 4 Pl.k))) (runM (anr x) 81 b_ z7 x) (Fk (Er x.root) (az3 x) (az3 x)/\(∀(a:BfS),aj (a.i=0) (oF a<=a.c) (ahT x a)->(∃(b:BfS),k9 (ah2 x b) (0=Ib b) (aK (oF a) (oF b) a.c b.c) (aa (Z4 a) (Z4 b)) (ah5 a) (wj b.Fr b.c))/\(∀(a:BfS),ah2 x a->lS (oF a) (Ib a) (gX (cw (oF a) (Ib a)) (fO (oF a) (Ib a)) (aj (aV (x.A.D (x.g (P3 a)))) (∃(b:Nat×BfS),k9 (aar x a b) (0=Dh b) (aK (oF a) (uu b) a.c (BL b)) (aa (Z4 a) (aiy b)) (ah5 a) (wj (sH b) (BL b))) (∀(b:Nat×BfS),aar x a b->lS (x.A.nb (x.g (P3 a))) (Dh b) (az (cw (x.A.nb (x.g (P3 a))) (Dh b)) (aV (x.A.D2 (x.A.fb (x.g (P3 a))))/\fO (x.A.n2 (x.A.fb (x.g (P3 a)))) (Dh b)) (I6 (aiA x a b)) (aM 1 (dflt (kQ (ko (sH b)) (P1 x a b) (P1 x a b)) (qh b.2.met (P1 x a b) (aiA x a b) (P1 x a b))) (jk (Dh b) (∃(c:Nat×BfS),k9 (aar x a c/\aP (nV (aav x a)) c.1 (nV (aav x a)) b.1) (bt (Dh b) (Dh c)) (aK (uu b) (uu c) (BL b) (BL c)) (aq3 x a b c) (cY (uu b) (aF (BL b)) (λa=>aU a (sH b)) 9) (wj (sH c) (BL c)))) (gL (uu b) (uu b) 2 (uu b) 16 (uu b)/\(∀(c:Nat),aJ (aB (uu b)) c (Bk (bw x.f x.n (P1 x a b)) (jk (Dh b) (∃(d:Nat×BfS),aD (aar x a d) (aP (nV (aav x a)) d.1 (nV (aav x a)) b.1) (aC (bt (Dh b) (Dh d)) (aV (not H)) (aK (aB (uu b)) (uu d) c (BL d)) (eZ (aB (uu b)) (aF c) (λc=>dg c (uu b) c (uu b) (aU c (sH b)) (P1 x a b)) (wj (sH d) (BL d)) 9) (aq3 x a b d)))) (∃(a:List h_×Nat),hJ (aaK x a))))))) (jk (Ib a) (∃(c:BfS),k9 (ah2 x c/\aP x.n c.i x.n a.i) (bt (Ib a) (Ib c)) (aK (uu b) (oF c) (BL b) c.c) (aa (aiy b) (Z4 c)) (cY (uu b) (aF (BL b)) (λa=>aU a (sH b)) 9) (wj c.Fr c.c))))) False (bw x.f x.n (P3 a))) (∃(b:List h_×Nat),nK (aaK x b) (aK (oF a) (qM b) a.c b.2) (ah5 a) (wj b.1 b.2))))):=⟨by kernel_rfl,by kernel_rfl⟩
theorem ZC: ∀(n:Nat) (l:List Nat),l.Nodup->(∀ a,a∈ l->a<n)->l.length<=n
 | 0,[],_,_=>P _
 | 0,a::_,_,h=>absurd (h a (cx ..)) (a! _)
 | n+1,l,hd,h=>by
   have h1:=ZC n (l.erase n) (hd.erase n) λa ha=>by have h2:=(hd.mem_erase_iff).1 ha;have:=h a h2.2;have:=h2.1;omega
   have:=List.length_erase (a:=n) (l:=l);by_cases e:n∈ l
   ·rw[o_ e] at this;omega
   ·rw[p_ e] at this;omega
theorem GY.len {root:h_}{Fr:List h_}{k:Nat}(h:GY n f root Fr k):Fr.length<=n:=by
 have:=ZC n (Fr.map λt=>(fD f n t).toNat) ?_ ?_
 ·rwa [ec] at this
 ·refine List.pairwise_map.2 (h.nod.imp_of_mem λ{a b} ha hb hne e=>hne ?_);obtain⟨_,_,h1⟩:=lC f n a (h.dom a ha);obtain⟨_,_,h2⟩:=lC f n b (h.dom b hb);rw[← h1,← h2,e]
 ·intro a ha;obtain⟨t,ht,rfl⟩:=List.mem_map.1 ha;obtain⟨h1,h2,_⟩:=lC f n t (h.dom t ht);omega
theorem has_add (l:List h_)(s t:h_):kQ (ko l) s t=ko (l++[s]) t:=by unfold kQ ko;rw[cL,c5,m_,m_,m_,ct,X]
theorem auM {l:List h_}(h:s∈ l)(t:h_):kQ (ko l) s t=ko l t:=by unfold kQ ko;rw[cL,c5,m_,m_];exact⟨λe=>e.elim id λe=>e▸ h,.inl⟩
theorem au7 {Fr:List h_}(h:Ci Fr met b)(r:h_) :
  (dflt (kQ (ko Fr) r r) (qh met r (dflt (ko Fr r) (met r)+1) r)=dflt (ko Fr r) (met r)+1)/\(1<dflt (ko Fr r) (met r)+1↔r∈ Fr)/\0<=dflt (ko Fr r) (met r)/\dflt (ko Fr r) (met r)<=b:=by
 have h1:kQ (ko Fr) r r=true:=by unfold kQ;simp
 have h2: ∀ v,qh met r v r=v:=λv=>by unfold qh;simp
 rw[h1,h2];refine⟨rfl,?_⟩;by_cases e:r∈ Fr
 ·have hh:ko Fr r=true:=k_ e;rw[hh];have:=h.pos r e;exact⟨⟨λ_=>e,λ_=>by show 1<met r+1;omega⟩,by show 0<=met r;omega,by show met r<=b;exact this.2⟩
 ·have hh:ko Fr r=false:=l_ e;rw[hh];exact⟨⟨λh=>absurd h (by show ¬ (1:Int)<0+1;decide),λh=>absurd h e⟩,cj _,by show(0:Int)<=b;omega⟩
theorem au9 {Fr:List h_}(h:Ci Fr met b){r:h_}(hr:r∈ Fr):Ci Fr (qh met r (dflt (ko Fr r) (met r)+1)) (b+1):=⟨λt ht=>by
 have hh:ko Fr r=true:=k_ hr;rw[hh];unfold qh;have h1:=h.pos r hr;have h2:=h.pos t ht;by_cases e:t=r
 ·rw[k_ e];show 1<=met r+1/\met r+1<=_;omega
 ·rw[l_ e];show 1<=met t/\met t<=_;omega⟩
theorem au6 {Fr:List h_}(h:Ci Fr met b){r:h_}(hr:r∉ Fr):Ci (Fr++[r]) (qh met r (dflt (ko Fr r) (met r)+1)) (b+1):=⟨λt ht=>by
 have hh:ko Fr r=false:=l_ hr;rw[hh];unfold qh;by_cases e:t=r
 ·rw[k_ e];show(1:Int)<=0+1/\(0:Int)+1<=_;omega
 ·rw[l_ e];rcases ct.1 ht with ht | ht
  ·have h2:=h.pos t ht;show 1<=met t/\met t<=_;omega
  ·rw[X] at ht;exact absurd ht e⟩
theorem GY.add {root:h_}{Fr:List h_}{k:Nat}(h:GY n f root Fr k)(hk:k<=Fr.length){r:h_}(hr:r∉ Fr)(hd:bw f n r=F):GY n f root (Fr++[r]) k:=by
 refine⟨ag _ h.root,?_,λt ht=> ?_,λq hq hql j hj=> ?_⟩
 ·rw[List.nodup_append];exact⟨h.nod,ek _ _,λa ha b hb e=>hr (by rw[X] at hb;rw[← hb,← e];exact ha)⟩
 ·rcases ct.1 ht with ht | ht
  ·exact h.dom t ht
  ·rw[X] at ht;rw[ht];exact hd
 ·have e:(Fr++[r]).getD q []=Fr.getD q []:=by rw[Y,Y,c! (by omega)]
  rw[e] at hj ⊢;exact ag _ (h.clo q hq (by omega) j hj)
theorem aoh {Fr:List h_}{r:h_}(h:i<Fr.length):(Fr++[r]).getD i []=Fr.getD i []:=by rw[Y,Y,c! h]
theorem aj0 {u:List h_}{c':Nat}(hc:c=c'):aa (.rows F (u.length+1) [.str λj=>if j<u.length then u.getD j [] else l9 [s] (j-u.length)] H (c*1) 9) (wj (u++[s]) c'):=by
 subst hc;refine tM (by simp) rfl rfl λk c c' h1 h2 i hi E=> ?_
 match k,h1,h2 with
 | 0,h1,h2 =>
   injection h1 with h1;injection h2 with h2;subst h1;subst h2;simp only[bh.at,SV.val];rw[DR u s [] i hi];by_cases h:i<u.length
   ·rw[o_ h,o_ h]
   ·rw[p_ h,p_ h];rfl
 | k+1,h1,_=>simp at h1
theorem aox {c':Nat}(hc:c=c')(h1c:1<=c):aa (.cells [.str H s] (c*1) 9) (wj [s] c'):=by
 subst hc;refine aa.of rfl rfl λ_=>⟨rfl,λE o ⟨c0,fr,h1,h2,h3,h4⟩=>⟨c0,fr,h1,λ_=>h2,by show 1*1<=c0.size;omega,h4,λi k col hi hk=> ?_⟩,id⟩
 have hi:i<1:=hi;have e:i=0:=by omega
 subst e
 match k,hk with
 | 0,hk =>cases hk;exact h3 0 _ rfl
 | k+1,hk=>simp at hk
theorem au8 (s:h_):aa (.map [(0,.str H s,.int .i64 F 1)] 1) (.fmap (ko [s]) (.int .i64 λ_=>1) I):=by
 refine aa.of rfl rfl λ_=>⟨rfl,λE o h=> ?_,id⟩
 have h:o=.map (jM E [(0,.str H s,.int .i64 F 1)]).toArray 1:=h;have h2:=(JJ.nil (.int .i64 λ_=>1) 0).add (c':=.int .i64 λ_=>1) (s:=s) (u:=.int .i64 1) ⟨rfl,λ_ _=>rfl⟩ (by simp) (pend':=I) (λ_ _ h=>by cases h);refine⟨_,_,h,?_⟩;have e:kQ (λ_=>H) s=ko [s]:=by funext t;unfold kQ ko;rw[Bool.false_or];simp
 rw[e] at h2;exact h2
theorem RL (x:RcG)(hx:z7.pre x):au (runM (anr x) 81 b_ z7 x):=by
 refine au.xD (alY x) (by delta Fk Bk I6 Ix Er NI aM aJ aF bq aj bH aC az dK dD bt jk aA dy aD cw bN bJ cY aB b8 gZ cv aV br eZ dg gX aP k9 dR lS pY aU hJ fO gL eO aK nK P1 P3 oF ahT aqU az3 Ib sH Z4 Dh qM BL aar uu aav aiA aiy aq3 aaK ah2 ah5;exact rfl) ?_;obtain⟨hn,hG,hroot,hclo⟩:=hx;simp only[W,V,true_and,Bool.not_eq_true',Bool.not_false,m_,n_];refine⟨⟨λ_ c hc=>⟨λ_=>⟨⟨0,[x.root],c,λ_=>1⟩,⟨rfl,hc,⟨cx ..,ek _ _,λt ht=>by rw[X] at ht;rw[ht];exact hroot,λq hq=>absurd hq (a! _)⟩,⟨λ_ _=>⟨cj _,cj _⟩⟩⟩,⟨rfl,rfl⟩,Nat.one_pos,aox rfl hc,au8 _⟩,λh=>by rw[hroot] at h;cases h⟩,λh=>absurd trivial h⟩,λy ⟨y1,y2,y3,y4⟩=>⟨?_,λz ⟨z1,z2,z3,z4⟩=>⟨λhlt=> ?_,λhge=> ?_⟩⟩⟩
 ·exact⟨y,⟨by omega,y2,by rw[y1];exact y3,by rw[y1];exact y4⟩,by rw[y1];rfl,⟨rfl,rfl⟩,aa.refl _,aa.refl _⟩
 ·have hlt:(z.i:Int)<(z.Fr.length:Int):=hlt;have hlt':z.i<z.Fr.length:=by omega
  have hmem:z.Fr.getD z.i []∈ z.Fr:=by rw[Y,d_ hlt'];exact List.getElem_mem hlt'
  have hd:=z3.dom _ hmem;have hL:=z3.len;have hT:x.A.mP (x.g (z.Fr.getD z.i []))=K9 x.n x.f (z.Fr.getD z.i []):=hG.mP _ hd;have hnb:x.A.nb (x.g (z.Fr.getD z.i []))=nV (K9 x.n x.f (z.Fr.getD z.i [])):=(hG.nb _ hd).trans (congrArg nV hT);have h16:nV (K9 x.n x.f (z.Fr.getD z.i []))<=16:=HE _ 16;refine⟨⟨by omega,hlt⟩,hlt',λ_=>⟨hG.dom _ hd,⟨(0,z),⟨T _,⟨rfl,rfl,hlt'⟩,z2,z3,z4,λj hj=>absurd hj (a! _)⟩,rfl,⟨rfl,rfl⟩,aa.refl _,aa.refl _⟩,λw ⟨w1,⟨w2,w3,w4⟩,w5,w6,w7,w8⟩=>⟨λhj=> ?_,λhj=> ?_⟩⟩,λh=>by rw[hd] at h;cases h⟩
  ·have hj':w.1<x.A.nb (x.g (z.Fr.getD z.i [])):=by omega
   obtain⟨r1,r2,r3⟩:=hG.row _ hd (by omega);have hr:x.A.rf (x.A.fb (x.g (z.Fr.getD z.i []))) w.1=lJ (K9 x.n x.f (z.Fr.getD z.i [])) w.1:=by rw[r3 w.1 hj',hT]
   have hrd:=hclo _ hd w.1 (by omega);have hwl:=w6.len;rw[hr];generalize hrr:lJ (K9 x.n x.f (z.Fr.getD z.i [])) w.1=r at hrd ⊢;obtain⟨e1,e2,e3,e4⟩:=au7 w7 r;rw[e1];have hb:1+16*w.2.i+w.1<=20000:=by omega
   have e4:dflt (ko w.2.Fr r) (w.2.met r)<=20000:=Int.le_trans e4 (by omega);have more: ∀ Fr':List h_,(∀ t,t∈ w.2.Fr->t∈ Fr')->r∈ Fr'->∀ j,j<w.1+1->lJ (K9 x.n x.f (z.Fr.getD z.i [])) j∈ Fr':=λFr' hs hr' j hj=>by
    by_cases e:j=w.1
    ·rw[e,hrr];exact hr'
    ·exact hs _ (w8 j (by omega))
   refine⟨⟨by omega,hj⟩,⟨r1,Nat.lt_of_lt_of_le hj' r2⟩,⟨by omega,by omega⟩,λh1=> ?_,λh1=>⟨⟨P _,by omega,by omega⟩,λc hc=>⟨λ_=> ?_,λh=>by rw[hrd] at h;cases h⟩⟩⟩
   ·have hin:=e2.1 h1;exact⟨⟨by omega,by omega⟩,(w.1+1,⟨w.2.i,w.2.Fr,w.2.c,qh w.2.met r (dflt (ko w.2.Fr r) (w.2.met r)+1)⟩),⟨⟨by show w.1+1<=_;omega,⟨w2,w3,w4⟩,w5,w6,au9 w7 hin,more _ (λ_ h=>h) hin⟩,by show _-(w.1+1)<_;omega⟩,by show(w.1:Int)+1=((w.1+1:Nat):Int);omega,⟨rfl,rfl⟩,aa.refl _,aa.fmap (auM hin) λ_=>rfl⟩
   ·have hin:r∉ w.2.Fr:=λe=>h1 (e2.2 e);exact⟨⟨by omega,by omega⟩,(w.1+1,⟨w.2.i,w.2.Fr++[r],c,qh w.2.met r (dflt (ko w.2.Fr r) (w.2.met r)+1)⟩),⟨⟨by show w.1+1<=_;omega,⟨w2,by show _=(w.2.Fr++[r]).getD w.2.i [];rw[aoh w4];exact w3,by show w.2.i<(w.2.Fr++[r]).length;rw[Q];omega⟩,by show(w.2.Fr++[r]).length<=c;rw[Q];exact hc,w6.add (by omega) hin hrd,au6 w7 hin,more _ (λ_ h=>ag _ h) (List.mem_append_right _ (X.2 rfl))⟩,by show _-(w.1+1)<_;omega⟩,by show(w.1:Int)+1=((w.1+1:Nat):Int);omega,⟨by show _=(w.2.Fr++[r]).length;rw[Q];rfl,rfl⟩,aj0 rfl,aa.fmap (has_add _ _) λ_=>rfl⟩
  ·have hwl:=w6.len;have ei:w.2.i=z.i:=by omega
   refine⟨⟨by omega,by omega⟩,⟨z.i+1,w.2.Fr,w.2.c,w.2.met⟩,⟨⟨by show z.i+1<=w.2.Fr.length;omega,w5,⟨w6.root,w6.nod,w6.dom,λq hq hql j hjj=> ?_⟩,⟨λt ht=> ?_⟩⟩,by show x.n-(z.i+1)<x.n-z.i;omega⟩,by show(z.i:Int)+1=((z.i+1:Nat):Int);omega,⟨rfl,rfl⟩,aa.refl _,aa.refl _⟩
   ·by_cases e:q=w.2.i
    ·subst e;rw[← w3] at hjj ⊢;exact w8 j (by omega)
    ·exact w6.clo q (by have:q<z.i+1:=hq;omega) hql j hjj
   ·have:=w7.pos t ht;show 1<=w.2.met t/\w.2.met t<=((1+16*(z.i+1):Nat):Int)
    omega
 ·have e:z.i=z.Fr.length:=by have: ¬ (z.i:Int)<(z.Fr.length:Int):=hge;omega
  rw[e] at z3;exact⟨(z.Fr,z.c),⟨z3,z2⟩,⟨rfl,rfl⟩,aa.refl _⟩
theorem aeV:aq J 81 (dI z7) :=jT (n:=20) Tryz.func81 (by kernel_rfl) (by kernel_rfl) z7 λx hx=>⟨_,ayZ x,rfl,RL x hx⟩
structure AdG where
 n:Nat
 f:Nat->h_
 c:Nat
 room:Int
structure JG where
 Fr:List h_
 A:It
 g:h_->Nat
structure UZ (n:Nat)(f:Nat->h_)(root:h_)(y:JG):Prop where
 bf:GY n f root y.Fr y.Fr.length
 dom: ∀ h,h∈ y.Fr->y.A.D (y.g h)=F
 mP: ∀ h,h∈ y.Fr->y.A.mP (y.g h)=K9 n f h
def It.bare (A:It):SB:=.sy A.D [.str A.mP] 4 133 H
def ajp:mg :=
 {G:=AdG,n:=3,N:=4,pre:=λx=>0<x.n/\x.n<=1000/\(x.n:Int)<=x.room/\x.room<=1000000/\(∀ i,i<x.n->(x.f i).length<=1000)/\I0 x.n x.f=F/\Clo x.n x.f,args:=λx=>[.ptr 0 F 0,.bY 2 1 F 0 x.n x.c],
  mem:=λx=>[(0,pg x.room 1),(1,.map [] 0),(2,.rows F x.n [.str x.f] F (x.c*1) 9)],
  Fg:=λx=>.all JG λy=>.req (UZ x.n x.f (bg (x.f 0)) y) (.ret (.dr [.str H (bg (x.f 0)),.int .i64 F 0]) [(0,pg x.room 1),(1,.fmap (ko y.Fr) (.ref 3 y.g) I),(3,y.A.bare)])}
def Se (st:Sx.St)(i:Nat):Option (Nat×(Nat->h_)):=match slot st.tmps i with
 | some (.bY k _ _ _ n _)=>(match st.m.get k with
   | some (.rows _ _ [.str e] _ _ _)=>M (n,e)
   | _=>I)
 | _=>I
def aom (st:Sx.St)(i:Nat):Option (Nat×(h_->Nat)):=match slot st.tmps i with
 | some (.map k)=>(match st.m.get k with
   | some (.fmap _ (.ref kF g) _)=>M (kF,g)
   | _=>I)
 | _=>I
def aw5 (st:Sx.St)(k:Nat):Option ((Nat->Bool)×bh×bh×bh):=match st.m.get k with
 | some (.sy D [c1,c2,_,c4] _ _ _)=>M (D,c1,c2,c4)
 | _=>I
def Ow (e:Nat->h_)(i:Nat)(h:h_):Bool:=(List.range i).any λq=>decide (e q=h)
structure Rn (D:Nat->Bool)(us:Nat->Int)(b:Nat):Prop where
 all: ∀ a,D a=F->0<=us a/\us a<=b
noncomputable def axM (n:Nat)(e:Nat->h_)(kF:Nat)(g:h_->Nat):aN :={α:=Nat,pre:=λ_ i=>i<=n,nF:=λ_ i=>n-i,fresh:=0,slots:=λ_ i=>[(46,.int .i64 H i)],mem:=λ_ i=>[(1,.fmap (Ow e i) (.ref kF g) I)]}
noncomputable def axN (n kF:Nat)(D:Nat->Bool)(c1 c2 c4:bh):aN :={α:=Nat×(Nat->Int),pre:=λ_ y=>y.1<=n/\Rn D y.2 (16*y.1),nF:=λ_ y=>n-y.1,fresh:=0,slots:=λ_ y=>[(61,.int .i64 H y.1)],mem:=λ_ y=>[(kF,.sy D [c1,c2,.int .i64 y.2,c4] 4 133 H)]}
noncomputable def axO (i nb:Int)(kF:Nat)(D:Nat->Bool)(c1 c2 c4:bh):aN :={α:=Nat×(Nat->Int),pre:=λ_ y=>(y.1:Int)<=nb/\Rn D y.2 (16*i.toNat+y.1),nF:=λ_ y=>nb.toNat-y.1,fresh:=0,slots:=λ_ y=>[(72,.int .i64 H y.1)],mem:=λ_ y=>[(kF,.sy D [c1,c2,.int .i64 y.2,c4] 4 133 H)]}
noncomputable def ax6:B6:=[(11,λst=>match Se st 44,aom st 6 with
 | some (n,e),M (kF,g)=>M (one (axM n e kF g))
 | _,_=>I),(16,λst=>match Se st 59,aom st 6 with
 | some (n,_),M (kF,_)=>(match aw5 st kF with
   | some (D,c1,c2,c4)=>M (one (axN n kF D c1 c2 c4))
   | none=>I)
 | _,_=>I),(19,λst=>match slot st.tmps 61,slot st.tmps 71,aom st 6 with
 | some (.int _ _ i),M (.int _ _ nb),M (kF,_)=>(match aw5 st kF with
   | some (D,c1,c2,c4)=>M (one (axO i nb kF D c1 c2 c4))
   | none=>I)
 | _,_,_=>I)]
noncomputable def ao4:List (FuncId×PT):=(80,dI Ut)::(81,dI z7)::mX
theorem akc:aR J (λf=>av f ao4):=.cons asy (de _) (.cons aeV (de _) gT)
noncomputable def amX:iG:={bQ with cO:=λf=>av f ao4,bU:=λh=>if h=46 then ax6 else []}
theorem ayv:Sx.Good J amX:=.of bI akc aO
end
end Go.Proofs.YtoibaecagklkaaaGreatDoor
