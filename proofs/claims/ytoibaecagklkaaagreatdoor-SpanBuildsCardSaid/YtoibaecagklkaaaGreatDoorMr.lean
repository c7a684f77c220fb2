/- A part of the proof. -/
import Derived.Test.YtoibaecagklkaaaGreatDoorMq
open Bool renaming and_eq_true->b_,false->F,false_eq_true->eI,noConfusion->d_,or_eq_true->eJ,or_true->cB,true->C
open Decidable renaming decide->M
open Go.Op renaming bytesLess->V
open Go.Proofs.Tryz renaming f101->d!,f14->ec,f63->eK,prog->Z
open Int renaming le_refl->b!,one_pos->eN,toNat_natCast->ef
open List renaming append_nil->ei,cons_ne_nil->ej,filter_cons->ek,getD_eq_getElem?_getD->en,getElem?_eq_getElem->eP,getElem?_eq_some_iff->ep,getElem_mem->eT,length->cj,length_append->a_,length_cons->an,length_eq_zero_iff->e5,length_filter_le->e6,length_map->cL,length_take->e7,map_congr_left->e_,map_cons->c4,map_map->c5,mem_cons->c6,mem_cons_self->a!,mem_flatMap->e!,mem_range->fl,nil->er,nil_append->fm,range_succ_eq_map->eu
open Nat renaming beq->bf,beq_refl->ey,ble->ay,blt->c7,blt_eq->cl,eq_of_beq_eq_true->c8,le_add_right->f_,le_of_ble_eq_true->gh,le_refl->W,le_trans->bl,lt_of_le_of_lt->ez,lt_of_lt_of_le->c_,mul_add->gl,mul_le_mul->gm,mul_le_mul_left->gw,not_lt_zero->eA,one_pos->gB,succ_ne_zero->g_,succ_pos->c!,zero_add->bn,zero_le->J
open Option renaming isSome->g!,none->O,some->I
open UInt8 renaming lt_iff_toNat_lt->eB,ofNat->T,toNat_ofNat'->hG
namespace Go.Proofs.YtoibaecagklkaaaGreatDoor
open Go Sx
variable {t:h_}{N a d k' m n n':Nat}{f f':Nat->Nat}{P:Pd}{s:Rw}{ty:TypeId}{Γ:b5}
section
open Go Sx
set_option maxRecDepth 20000
def bw (f:Nat->h_):Nat->h_->Bool
 | 0=>λ_=>F
 | i+1=>λh=>bw f i h||decide (h=bg (f i))
def fD (f:Nat->h_):Nat->h_->Int
 | 0=>λ_=>0
 | i+1=>λh=>bif bw f i h then fD f i h else(bif M (h=bg (f i))then(i:Int)else 0)
theorem lC (f:Nat->h_): ∀(n:Nat) (h:h_),bw f n h=C->0<=fD f n h/\fD f n h<n/\bg (f (fD f n h).toNat)=h
 | 0,h,e=>by cases e
 | n+1,h,e=>by
   unfold fD;cases hd:bw f n h with
   | true =>obtain⟨h1,h2,h3⟩:=lC f n h hd;exact⟨h1,by show fD f n h<_;omega,h3⟩
   | false =>
     have hs:M (h=bg (f n))=true:=by unfold bw at e;rw[hd,Bool.false_or] at e;exact e
     rw[hs];simp only[cond_true,cond_false,ef];exact⟨by omega,by omega,(i_ hs).symm⟩
theorem vG (f:Nat->h_): ∀(n j:Nat),j<n->bw f n (bg (f j))=C
 | 0,j,h=>absurd h (eA _)
 | n+1,j,h=>by
   unfold bw;by_cases e:j=n
   ·subst e;simp
   ·rw[vG f n j (by omega)];rfl
theorem Gb (f:Nat->h_): ∀(n:Nat),fD f n (bg (f 0))=0
 | 0=>rfl
 | n+1=>by
   unfold fD;cases n with
   | zero=>simp[bw]
   | succ n=>rw[vG f (n+1) 0 (by omega),Gb f (n+1)];rfl
theorem Oj {f:Nat->h_}{root:h_}:(bw f n root=C/\fD f n root=0)↔(0<n/\bg (f 0)=root):=by
 constructor
 ·rintro⟨h1,h2⟩;obtain⟨_,g2,g3⟩:=lC f n root h1;rw[h2] at g2 g3;exact⟨by omega,g3⟩
 ·rintro⟨h1,rfl⟩;exact⟨vG f n 0 h1,Gb f n⟩
def OR (a b:h_):Bool:=V a b||decide (a=b)
def Sp.full (w:Sp):Sp:={w with ad:=bw w.f w.n,ag:=fD w.f w.n}
def Wk.start:Wk:=⟨λ_=>F,λ_=>0,[],0,[]⟩
def uZ (root:h_)(w:Sp):Option Wk:=bif gF w root then qy w 401 (Wk.start.take w root) (getD (w.at root)) [] else O
def sk (root:h_)(w:Sp):Option (List (h_×h_)) :=
 bif OR w.fr w.to&&(M (0<w.n)&&(M (w.n<=200)&&M (bg (w.f 0)=root)))then(match uZ root w.full with
  | some s=>bif kZ s.ns.length (λi=>s.ns.getD i []) w.n w.f then I s.fs else O
  | none=>O)else O
def Xx (root:h_)(w:Sp):List (h_×h_):=match sk root w with
 | some l=>l
 | none=>[]
def GQ (root:h_)(w:Sp):fC:=.fork (sk root w).isSome λb=>match b with
 | true=>.all Nat λc=>.req ((Xx root w).length<=c) (.new (λk=>.dr [.bY k 2 C 0 (Xx root w).length c,.int .i64 C 0]) (.rows C (Xx root w).length [nj (Xx root w),nk (Xx root w)] F (c*2) 50))
 | false=>.ret (.dr [.bW,.int .i64 C 10])
def axj (st:Sx.St)(i:Nat):Nat:=match st.m.get (By st i)with
 | some (.cells [.map k] _ _)=>k
 | _=>0
def ams (w:Sp):aN :={α:=Nat,pre:=λ_ i=>i<=w.n,nF:=λ_ i=>w.n-i,fresh:=0,slots:=λ_ i=>[(37,.int .i64 F i)],mem:=λst i=>[(axj st 8,.fmap (bw w.f i) (.int .i64 (fD w.f i)) O)]}
noncomputable def aph:List (FuncId×PT):=(51,bV avT vT)::V9 401
noncomputable def anA (w:Sp):iG:={bQ with cO:=λf=>av f aph,bU:=λf=>if f=14 then [(5,always (ams w))] else []}
theorem aks:aR Z (λf=>av f aph):=.cons ajS (bR _ _) (akr 401)
theorem ay8 (w:Sp):Sx.Good Z (anA w):=.of bI aks aO
def W7 (w:Sp)(kk:Option Nat):Seen:=⟨kk,w.z,w.o,w.n,w.c,[.str w.f]⟩
section
variable (n : Nat) (s : h_) (v : SV) (B : SB) (z : G0 × Nd × h_) (x : Sp) (y : Option Nat)
abbrev Ig:=Bk (g! (sk s x)) (∃(a:Nat),br (cj (Xx s x)) a False) (ai v v)
abbrev Io:=SB.view x.z x.o x.n (bJ x.f er)
abbrev ahb:=aC (Sr (eY 1 (SV.map 3) er 90)) (Sr (gW 1 (SV.cT 0 1 x.z x.o 0 x.n x.c) 29)) (Sr B) (tg (W7 x y)) True
abbrev TE:=eO (bw x.f n) (fD x.f n)
abbrev BK:=NI x.n
abbrev vk:=SB.map er 0
abbrev zU:=nO (lV z) 401 (oM z) (iW z) (mI z)
end
theorem afD (root:h_)(w:Sp)(kk:Option Nat):VC.holds (je (anA w) 14 ec [.str F root,.agg [.str F w.fr,.str F w.to],.cT 0 1 w.z w.o 0 w.n w.c] [W7 w kk] (GQ root w))=((fun(a:SV)=>(fun(b:G0×h_->Nd)=>(fun(c:SB)=>aX (Ig root a w) (bE (BK w) 0 (Ig root a w) (aM 200 (BK w) (Ig root a w) (cR (∀(d:Nat),aJ d w.n (jH d (BK w) (az (fE d (BK w)) (cQ w.o (iD d<w.n)) (True/\ofQ [w.f (iD d)]) (aX (dF d (λa=>cX (br a w.n (aP w.n a w.n d)) (gS d a) (ahb c w kk) (eO (kQ (bw w.f d) (qw [w.f (iD d)])) (qh (fD w.f d) (qw [w.f (iD d)]) (NI d))) (TE a w))) (dF d (λa=>cX (br a w.n (aP w.n a w.n d)) (gS d a) (ahb c w kk) (TE d w) (TE a w))) (bw w.f d (qw [w.f (iD d)])))) (aX (Ig root a w) (aX (Ig root a w) (∃(c:G0×h_),az (aiP c) bA (root=c.2) (aT jZ (w.fr=rW c) (w.to=rX c) bA bA (mM c=0) (0=rV c) (oJ c=0) (aT (gy vk (jn c)) (fo (mQ (jn c) (uj c))) (fo (kD (jn c) (x6 c))) kL (aa (TE d w) (sL c)) kL (aC (w.z=(iQ c).z) (w.o=(iQ c).o) bA (w.n=tr c) (rL w (iQ c))) (aa (Io w) (Qd c)) (jY c.2 (∀(d:Nat×Nat),IW d c->(∃(e:G0×Nd×h_),aT (cI (Sp.Ok (lV e)) (Wk.Small (oM e)) (fF (Dz e) (xb e) (rT e) (BH e)) (Wk.Fit (oM e) (aB (DA e))) (401<=DA e+401) (Nd.xJ (iW e)) (fk (13*DA e) (mI e))) bA (qx (b c) (iW e)) ((b c).p=(iW e).p) ((b c).v=(iW e).v) (dm 0 0 (b c) e) (dm 1 1 (b c) e) (dm 2 2 (b c) e) (aT (dm 3 3 (b c) e) (dm 4 4 (b c) e) (dm 5 5 (b c) e) (dm 6 6 (b c) e) (dm 7 7 (b c) e) (dm 8 8 (b c) e) (dm 9 9 (b c) e) (dm 10 10 (b c) e) (aT (dm 11 11 (b c) e) (dm 12 12 (b c) e) (dm 13 13 (b c) e) (dm 14 14 (b c) e) (dm 15 15 (b c) e) ([]=mI e) jZ (rW c=qS e) (aT (rX c=qT e) bA bA (fN (FV c) (Dz e) d.1 (xb e)) True (rV c=FT e) (fN (oJ c) (rT e) d.2 (BH e)) True (aT (gy (aaw c) (oM e)) (gu (xb e) (aaW d c) (oM e)) (gz (BH e) (Mx d c) (oM e)) kL (aa (sL c) (zQ e)) kL (aau c e) (aa (Io w) (Mk e)) (Bk (lX (lV e) 401 (oM e) (iW e) (mI e)) (∀(b:Nat×Nat),fF (cm (zU e)) b.1 (cD (zU e)) b.2->aD (aj (i9/\b8 (cm (zU e)) (cm (zU e))) (aj ((lV e).z=w.z) (w.o=(lV e).o) (b8 (lV e).n w.n)) True) (dy (cm (zU e))) (aX (Ig root a w) (Bk (g! (sk root w)) (∃(a:Nat),dx (cj (Xx root w)<=a) (cv (cD (zU e)) (bG b.2) (bN (cj (Xx root w)) (bG a) 50 (jK (Xx root w) (Xx root w))) 50 (gD (λa=>(ov a (zU e)).1) (λa=>(ov a (zU e)).2))) (fU (dh 29 2 (cD (zU e)) b.2)) (fU (dh 29 2 (cj (Xx root w)) a))) (ai (fU (dh 29 2 (cD (zU e)) b.2)) a)) (kZ (cm (zU e)) (λa=>lT a (zU e)) (lV e).n w.f))) (∀(_:h_×h_),Ig root a w)))))))) (∀(_:h_×h_),Ig root a w) (iQ c))))) (cJ (dflt (bw w.f d root) (fD w.f d root)) 0)) (bw w.f d root)))) (λa=>cX (a<=w.n) (fy a) (ahb c w kk) vk (TE a w))))) (V w.fr w.to||ew w.fr w.to)) (gW 2 (SV.agg (eC (aA w.fr) (aA w.to))) 28)) (λa=>mD a.2 (iQ a))) (yH (bq 10))):=by kernel_rfl
def Pd.or (P Q:Pd):Pd :=
 {D:=λb=>P.D b||Q.D b,mP:=λb=>bif P.D b then P.mP b else Q.mP b,fb:=λb=>bif P.D b then P.fb b else Q.fb b,nb:=λb=>bif P.D b then P.nb b else Q.nb b,cb:=λb=>bif P.D b then P.cb b else Q.cb b,
  D2:=λb=>P.D2 b||Q.D2 b,n2:=λb=>bif P.D2 b then P.n2 b else Q.n2 b,g:=λb i=>bif P.D2 b then P.g b i else Q.g b i}
theorem Ld {P Q:Pd}: ∀ {d a:Nat} {L:List h_},Told P d a L->Told (P.or Q) d a L
 | 0,_,_,h=>h.elim
 | d+1,a,L,⟨h1,Ks,h2,h3,h4,h5⟩=>by
   have e2:(P.or Q).nb a=P.nb a:=by show(bif P.D a then _ else _)=_;rw[h1];rfl
   have e3:(P.or Q).fb a=P.fb a:=by show(bif P.D a then _ else _)=_;rw[h1];rfl
   have e4:(P.or Q).mP a=P.mP a:=by show(bif P.D a then _ else _)=_;rw[h1];rfl
   refine⟨by show(P.D a||Q.D a)=C;rw[h1];rfl,Ks,e2.trans h2,λh=> ?_,by rw[e4];exact h4,λi L' hi=> ?_⟩
   ·obtain⟨g1,g2⟩:=h3 h;rw[e3];refine⟨by show(P.D2 _||Q.D2 _)=C;rw[g1];rfl,?_⟩;show _<=(bif P.D2 _ then _ else _)
    rw[g1];exact g2
   ·have hk:0<Ks.length:=ez (J _) (ep.1 hi).1;have:(P.or Q).g ((P.or Q).fb a) i=P.g (P.fb a) i:=by rw[e3];show(bif P.D2 _ then _ else _)=_;rw[(h3 hk).1];rfl
    rw[this];exact Ld (h5 i L' hi)
theorem Ra {P Q:Pd}(hd: ∀ b,P.D b=C->Q.D b=F)(hd2: ∀ b,P.D2 b=C->Q.D2 b=F): ∀ {d a:Nat} {L:List h_},Told Q d a L->Told (P.or Q) d a L
 | 0,_,_,h=>h.elim
 | d+1,a,L,⟨h1,Ks,h2,h3,h4,h5⟩=>by
   have hp:P.D a=false:=by
    cases h:P.D a with
    | false=>rfl
    | true=>rw[hd a h] at h1;cases h1
   have hp2: ∀ b,Q.D2 b=C->P.D2 b=false:=λb hb=>by
    cases h:P.D2 b with
    | false=>rfl
    | true=>rw[hd2 b h] at hb;cases hb
   have e2:(P.or Q).nb a=Q.nb a:=by show(bif P.D a then _ else _)=_;rw[hp];rfl
   have e3:(P.or Q).fb a=Q.fb a:=by show(bif P.D a then _ else _)=_;rw[hp];rfl
   have e4:(P.or Q).mP a=Q.mP a:=by show(bif P.D a then _ else _)=_;rw[hp];rfl
   refine⟨by show(P.D a||Q.D a)=C;rw[h1,cB],Ks,e2.trans h2,λh=> ?_,by rw[e4];exact h4,λi L' hi=> ?_⟩
   ·obtain⟨g1,g2⟩:=h3 h;rw[e3];refine⟨by show(P.D2 _||Q.D2 _)=C;rw[g1,cB],?_⟩;show _<=(bif P.D2 _ then _ else _)
    rw[hp2 _ g1];exact g2
   ·have hk:0<Ks.length:=ez (J _) (ep.1 hi).1;have:(P.or Q).g ((P.or Q).fb a) i=Q.g (Q.fb a) i:=by rw[e3];show(bif P.D2 _ then _ else _)=_;rw[hp2 _ (h3 hk).1];rfl
    rw[this];exact Ra hd hd2 (h5 i L' hi)
theorem aje {P:Pd}: ∀ {d a:Nat} {L:List h_},Told P d a L->Told P (d+1) a L
 | 0,_,_,h=>h.elim
 | _+1,_,_,⟨h1,Ks,h2,h3,h4,h5⟩=>⟨h1,Ks,h2,h3,h4,λi L' hi=>aje (h5 i L' hi)⟩
theorem asK : ∀ {d a:Nat} {L:List h_},Told P d a L->0<L.length
 | 0,_,_,h=>h.elim
 | _+1,_,_,⟨_,_,_,_,h4,_⟩=>by rw[h4];exact c! _
theorem Sz {α:Type}: ∀(Ks:List (List α)),(∀ L,L∈ Ks->0<L.length)->Ks.length<=Ks.flatten.length
 | [],_=>J _
 | L::Ks,h=>by have h1:=h L (a! ..);have h2:=Sz Ks λx hx=>h x (List.mem_cons_of_mem _ hx);rw[an,List.flatten_cons,a_];omega
theorem Rj {B:List h_}(h:yX P d n f B):n<=B.length:=by obtain⟨Ks,h1,h2,h3⟩:=h;rw[h1,← h2];refine Sz Ks λL hL=> ?_;obtain⟨i,hi⟩:=List.getElem?_of_mem hL;exact asK (h3 i L hi)
theorem acd {Q:Pd}{B B':List h_}(hd: ∀ b,P.D b=C->Q.D b=F)(hd2: ∀ b,P.D2 b=C->Q.D2 b=F)(h:yX P d n f B)(h':yX Q d n' f' B') :
  yX (P.or Q) d (n+n') (λj=>if j<n then f j else f' (j-n)) (B++B'):=by
 obtain⟨Ks,h1,h2,h3⟩:=h;obtain⟨Ks',k1,k2,k3⟩:=h';refine⟨Ks++Ks',by rw[a_,h1,k1],by rw[List.flatten_append,h2,k2],λi L' hi=> ?_⟩;by_cases hlt:i<n
 ·rw[List.getElem?_append_left (by omega)] at hi;show Told _ d (if i<n then f i else _) L'
  rw[o_ hlt];exact Ld (h3 i L' hi)
 ·rw[List.getElem?_append_right (by omega)] at hi;show Told _ d (if i<n then f i else f' (i-n)) L'
  rw[p_ hlt];rw[← h1] at hi;exact Ra hd hd2 (k3 _ L' hi)
theorem Ri {L:List h_}(h:Told P (d+1) a L):yX P (d+1) (P.nb a) (λi=>P.g (P.fb a) i) L.tail/\(0<P.nb a->P.D2 (P.fb a)=C/\P.nb a<=P.n2 (P.fb a))/\L=P.mP a::L.tail/\P.D a=true:=by obtain⟨h1,Ks,h2,h3,h4,h5⟩:=h;exact⟨⟨Ks,h2,by rw[h4];rfl,λi L' hi=>aje (h5 i L' hi)⟩,λh=>by rw[h2] at h ⊢;exact h3 h,by rw[h4];rfl,h1⟩
theorem atI {L:List h_}(h:Told P d a L):yX P d 1 (λi=>ass [a] i) L:=⟨[L],rfl,by simp,λi L' hi=>by
 match i,hi with
 | 0,hi=>cases hi;exact h
 | i+1,hi=>simp at hi⟩
theorem aba {s:h_}(h:s.length<=700):(j5 s).length<=700:=by
 by_cases hl:s.length<32
 ·rw[tw hl];exact h
 ·rw[(tv hl).2.2];omega
theorem rj {l:List Rw}(hm:m<=13)(h:dZ m l)(hl:l≠[]):(ctext m l).length<=700:=(WH (jB hm h hl)).2
theorem QL {k c c':Nat}(hn:n=n')(hc:c=c')(hk:k=k')(hf: ∀ i,i<n->f i=f' i):aa (.rows C n [.ref k f] F (c*1) ty) (.rows C n' [.ref k' f'] F (c'*1) ty):=by
 subst hk;refine tM hn (by rw[hc]) rfl λj d d' h1 h2 i hi E=> ?_
 match j,h1,h2 with
 | 0,h1,h2 =>injection h1 with h1;injection h2 with h2;subst h1;subst h2;simp only[bh.at,hf i hi]
 | j+1,h1,_=>simp at h1
theorem SH {x:Cg}(hl:x.l=[])(h:yX x.P (m+1) x.nb x.f x.B):yX x.P (m+1) x.nb x.f (x.B++vu m x.l):=by rw[hl,show vu m []=[] from rfl,ei];exact h
theorem aj5 (x:Cg)(hx:(CK 0).pre x):au (runM (Sc 0) 101 d! (CK 0) x):=by
 refine au.xD (awp x) (by delta Fk NI aF aj az bE bN bJ cv br cX aK wM gr jV pS mz uQ aha L0 pX A8;exact rfl) ?_;obtain⟨h1,h2,h3,h4,h5,h6⟩:=hx;have hl:x.l=[]:=by
  cases e:x.l with
  | nil=>rfl
  | cons r l=>rw[e] at h1;exact absurd (h1.len r (a! ..)) (eA _)
 refine⟨λ_=>⟨⟨x.nb,x.cb,x.f,x.P⟩,⟨h4,SH hl h6⟩,by rw[hl];rfl,⟨rfl,rfl⟩,aa.refl _,aa.refl _,aa.refl _⟩,λh=> ?_⟩;rw[hl] at h;exact absurd h (by decide)
theorem aj4 (m:Nat)(x:Cg)(hx:(CK (m+1)).pre x):au (runM (Sc (m+1)) 101 d! (CK (m+1)) x):=by
 refine au.xD (aAo m x) (by delta Fk Bk NI aJ aF aj aC az bE dy cW dA bN bJ aB oE b8 gZ cv aV br cX gL bG aK iY wM gr jV pS mz uQ aha L0 pX A8 uR C7 jf C5 C4 aqf mG aqh aqo ahd aab aaf Dk Iv TO aq8 Mq aro gA;exact rfl) ?_;obtain⟨h1,h2,h3,h4,h5,h6⟩:=hx;refine⟨λh=> ?_,λh=> ?_⟩
 ·have hl:x.l=[]:=e5.1 (by have:=i_ h;omega);exact⟨⟨x.nb,x.cb,x.f,x.P⟩,⟨h4,SH hl h6⟩,by rw[hl];rfl,⟨rfl,rfl⟩,aa.refl _,aa.refl _,aa.refl _⟩
 have hl:x.l≠[]:=λe=>by have:=j_ h;rw[e] at this;exact this rfl
 refine⟨(x.l,x.c),⟨h1,h2,h3⟩,⟨rfl,rfl⟩,aa.refl _,λy hy=> ?_⟩;obtain⟨y1,Q⟩:=y;have hy:Told Q (m+1+1) y1 (jy (m+1) x.l):=hy;obtain⟨hb1,hb2,hb3,hb4⟩:=Ri hy;have ht:Q.mP y1=ctext (m+1) x.l:=by injection hb3 with e _;exact e.symm
 have htail:(jy (m+1) x.l).tail=dH (m+1) x.l:=rfl;have h700:=rj h3 h1 hl;have hrl:=aba h700;have hnb:=Rj h6;rw[a_] at h5;have hkB:vu (m+1) x.l=(if(ctext (m+1) x.l).length<32 then [] else [ctext (m+1) x.l])++dH (m+1) x.l:=p_ hl
 have hkr:qv (m+1) x.l=j5 (ctext (m+1) x.l):=p_ hl;show Q.D y1=C/\(Q.mP y1).length<_/\_;rw[ht];refine⟨hb4,by omega,by omega,λhh=> ?_,λhh=>⟨hb4,?_⟩⟩
 ·have hlong: ¬ (ctext (m+1) x.l).length<32:=λe=>by rw[tw e] at hh;have:=ru hh;omega
  rw[p_ hlong] at hkB;refine⟨⟨by omega,trivial,by omega,by omega⟩,λc hc hd hd2=> ?_⟩;have hW:=acd (Q:=Q) hd hd2 h6 (atI hy);refine⟨⟨x.nb+1,c,λj=>if j<x.nb then x.f j else ass [y1] (j-x.nb),x.P.or Q⟩,⟨hc,?_⟩,hkr.symm,⟨rfl,rfl⟩,QL rfl rfl rfl λ_ _=>rfl,aa.refl _,aa.refl _⟩
  rw[hkB];exact hW
 ·have hshort:(ctext (m+1) x.l).length<32:=by
   by_cases e:(ctext (m+1) x.l).length<32
   ·exact e
   ·rw[(tv e).1] at hh;cases hh
  rw[o_ hshort,fm] at hkB;have hn2:=Rj hb1;rw[htail,← hkB] at hn2;refine⟨⟨by omega,λh=> ?_,?_,?_⟩,λc hc hd hd2=> ?_⟩
  ·have:=hb2 h;exact⟨this.1,by show 0+Q.nb y1<=_;rw[bn];exact this.2⟩
  ·show 2*(x.nb+Q.nb y1)*8<=_;omega
  ·show x.nb+Q.nb y1<_;omega
  have hW:=acd (Q:=Q) hd hd2 h6 hb1;refine⟨⟨x.nb+Q.nb y1,c,λj=>if j<x.nb then x.f j else Q.g (Q.fb y1) (j-x.nb),x.P.or Q⟩,⟨hc,?_⟩,hkr.symm,⟨rfl,rfl⟩,QL rfl rfl rfl λ_ _=>rfl,aa.refl _,aa.refl _⟩
  rw[hkB];exact hW
theorem auO (h:aq Z 63 (Aw m)):aq Z 101 (dI (CK m)) :=
 jT (n:=20) (fn:=d!) Tryz.func101 (by kernel_rfl) (by kernel_rfl) (CK m) λx hx=>⟨Sc m,ayK h,by rfl,by
  cases m with
  | zero=>exact aj5 x hx
  | succ m=>exact aj4 m x hx⟩
def Pd.top (P:Pd)(a a1:Nat)(t:h_)(nb cb:Nat)(f:Nat->Nat):Pd :=
 {D:=λb=>P.D b||b.beq a1,mP:=λb=>bif P.D b then P.mP b else t,fb:=λb=>bif P.D b then P.fb b else a,nb:=λb=>bif P.D b then P.nb b else nb,cb:=λb=>bif P.D b then P.cb b else cb,
  D2:=λb=>P.D2 b||b.beq a&& !(C&&nb.beq 0),n2:=λb=>bif P.D2 b then P.n2 b else nb,g:=λb i=>bif P.D2 b then P.g b i else f i}
def Pd.one (a a1:Nat)(t:h_)(nb cb:Nat)(f:Nat->Nat):Pd :={D:=λb=>b.beq a1,mP:=λ_=>t,fb:=λ_=>a,nb:=λ_=>nb,cb:=λ_=>cb,D2:=λb=>b.beq a&& !(C&&nb.beq 0),n2:=λ_=>nb,g:=λ_=>f}
theorem aAe (P:Pd)(a a1:Nat)(t:h_)(nb cb:Nat)(f:Nat->Nat):P.top a a1 t nb cb f=P.or (Pd.one a a1 t nb cb f):=rfl
theorem asL {a1 nb cb:Nat}{B:List h_}(hd: ∀ b,P.D b=C->b.beq a1=F)(hd2: ∀ b,P.D2 b=C->(b.beq a&& !(C&&nb.beq 0))=F)(h:yX P d nb f B) :
  Told (P.top a a1 t nb cb f) (d+1) a1 (t::B):=by
 obtain⟨Ks,h1,h2,h3⟩:=h;have e:a1.beq a1=true:=ey a1;have hp:P.D a1=false:=by
  cases h:P.D a1 with
  | false=>rfl
  | true=>rw[hd a1 h] at e;cases e
 have e2:(P.top a a1 t nb cb f).nb a1=nb:=by show(bif P.D a1 then _ else _)=_;rw[hp];rfl
 have e3:(P.top a a1 t nb cb f).fb a1=a:=by show(bif P.D a1 then _ else _)=_;rw[hp];rfl
 have e4:(P.top a a1 t nb cb f).mP a1=t:=by show(bif P.D a1 then _ else _)=_;rw[hp];rfl
 have hn:0<nb->(a.beq a&& !(C&&nb.beq 0))=true:=λh=>by
  have:nb.beq 0=false:=by cases nb with
   | zero=>omega
   | succ n=>rfl
  rw[this,show a.beq a=C from ey a];rfl
 have hp2:0<nb->P.D2 a=false:=λh=>by
  cases g:P.D2 a with
  | false=>rfl
  | true=>have:=hd2 a g;rw[hn h] at this;cases this
 refine⟨by show(P.D a1||a1.beq a1)=C;rw[e,cB],Ks,e2.trans h1,λh=> ?_,by rw[e4,h2],λi L' hi=> ?_⟩
 ·rw[← h1] at h;rw[e3];refine⟨by show(P.D2 a||_)=C;rw[hn h,cB],?_⟩;show _<=(bif P.D2 a then _ else nb)
  rw[hp2 h,h1];exact W _
 ·have hk:0<Ks.length:=ez (J _) (ep.1 hi).1;have:(P.top a a1 t nb cb f).g ((P.top a a1 t nb cb f).fb a1) i=f i:=by rw[e3];show(bif P.D2 a then _ else f i)=_;rw[hp2 (by omega)];rfl
  rw[this,aAe];exact Ld (h3 i L' hi)
def Pd.leaf (a:Nat)(t:h_):Pd:={D:=λb=>b.beq a,mP:=λ_=>t,fb:=λ_=>0,nb:=λ_=>0,cb:=λ_=>0,D2:=λ_=>F,n2:=λ_=>0,g:=λ_ _=>0}
theorem alH (d a:Nat)(t:h_):Told (Pd.leaf a t) (d+1) a [t]:=⟨ey a,[],rfl,λh=>absurd h (Nat.lt_irrefl 0),rfl,λi L' hi=>by simp at hi⟩
def CI (i:Nat)(p:h_):Bool:=match p with
 | []=>F
 | b::_=>decide (b.toNat<i)
theorem adt (i:Nat)(p:h_):(qt i p=C->CI i p=F/\CI (i+1) p=C)/\(qt i p=F->CI (i+1) p=CI i p):=by
 cases p with
 | nil=>exact⟨λh=>(by cases h),λ_=>rfl⟩
 | cons b q =>
   refine⟨λh=> ?_,λh=> ?_⟩
   ·have h:b.toNat=i:=i_ h;exact⟨l_ (by omega),k_ (by omega)⟩
   ·have h: ¬ b.toNat=i:=j_ h;show M (b.toNat<i+1)=M (b.toNat<i);exact decide_eq_decide.2 (by omega)
theorem Yq (i:Nat): ∀ l:List Rw,(l.filter λr=>CI i r.1).length+(jz i l).length=(l.filter λr=>CI (i+1) r.1).length
 | []=>rfl
 | x::l=>by
   have ih:=Yq i l;obtain⟨h1,h2⟩:=adt i x.1;unfold jz at ih ⊢;rw[ek,ek,ek];cases h:qt i x.1 with
   | true =>obtain⟨g1,g2⟩:=h1 h;rw[g1,g2];simp only[if_true,eI,if_false,an];omega
   | false =>rw[h2 h];cases CI i x.1<;>simp only[if_true,eI,if_false,an]<;>omega
def rA (l:List Rw):Nat->Nat
 | 0=>0
 | i+1=>rA l i+(bz l i).length
theorem Eo (l:List Rw)(i:Nat):rA l i<=l.length:=by
 match l with
 | []=>induction i with
   | zero=>exact W _
   | succ i ih=>exact ih
 | [r]=>induction i with
   | zero=>exact J _
   | succ i ih=>exact ih
 | r::s::t =>
   by_cases hk:0<cg r.1 ((s::t).getLastD r).1
   ·cases i with
    | zero=>exact J _
    | succ i =>
      induction i with
      | zero =>show 0+(bz (r::s::t) 0).length<=_;rw[dO,o_ hk,o_ rfl,bn,eV,cL];exact W _
      | succ i ih =>show rA (r::s::t) (i+1)+(bz (r::s::t) (i+1)).length<=_;rw[dO,o_ hk,p_ (g_ i)];exact ih
   ·have:rA (r::s::t) i<=((r::s::t).filter λx=>CI i x.1).length:=by
     induction i with
     | zero=>exact J _
     | succ i ih =>show rA (r::s::t) i+(bz (r::s::t) i).length<=_;rw[dO,p_ hk,eV,cL,← Yq i (r::s::t)];omega
    exact bl this (e6 _ _)
theorem lO (m:Nat)(l:List Rw)(i:Nat):jR m l (i+1)=jR m l i++vu m (bz l i):=by unfold jR;rw[List.range_succ,List.flatMap_append];simp
theorem sQ (m:Nat)(l:List Rw):dH (m+1) l=jR m l 16:=rfl
mutual
theorem OL: ∀(m:Nat) (l:List Rw),(vu m l).length<=(m+1)*l.length
 | m,l=>by
   unfold vu;by_cases h:l=[]
   ·rw[o_ h];exact J _
   ·rw[p_ h];have hb:=JR m l;have hp:1<=l.length:=List.length_pos_iff.2 h;have:(if(ctext m l).length<32 then([]:List h_)else [ctext m l]).length<=1:=by split<;>simp
    rw[a_,Nat.add_mul,Nat.one_mul];omega
 termination_by m=>(m,1)
theorem JR: ∀(m:Nat) (l:List Rw),(dH m l).length<=m*l.length
 | 0,_=>J _
 | m+1,l=>by
   have: ∀ i,(jR m l i).length<=(m+1)*rA l i:=λi=>by
    induction i with
    | zero=>exact J _
    | succ i ih =>have:=OL m (bz l i);rw[lO,a_,rA,gl];omega
   rw[sQ];exact bl (this 16) (gw _ (Eo l 16))
 termination_by m=>(m,0)
end
theorem XN (m:Nat)(l:List Rw)(i:Nat):(jR m l i).length<=(m+1)*l.length:=by
 have: ∀ i,(jR m l i).length<=(m+1)*rA l i:=λi=>by
  induction i with
  | zero=>exact J _
  | succ i ih =>have:=OL m (bz l i);rw[lO,a_,rA,gl];omega
 exact bl (this i) (gw _ (Eo l i))
theorem CC {l:List Rw}(hm:m<=12)(h:dZ (m+1) l):Fits (gR (m+1) l):=λj hj=>by
 rw[Hj m l hj];split
 ·decide
 ·rename_i hk;have:=aba (rj (m:=m) (by omega) (mW h j) hk);omega
theorem agb {r:Rw}{t:List Rw}(hk:0<cg r.1 ((s::t).getLastD r).1):gR (m+1) (r::s::t)=⟨2,r.1.take (cg r.1 ((s::t).getLastD r).1),[],cV (qv m (eV (cg r.1 ((s::t).getLastD r).1) (r::s::t)))⟩:=by show nv _ (r::s::t)=_;unfold nv;dsimp only;rw[o_ hk,dO,o_ hk,o_ rfl];rfl
theorem N4 {r:Rw}{t:List Rw}(hk: ¬ 0<cg r.1 ((s::t).getLastD r).1):gR (m+1) (r::s::t)=⟨3,[],if r.1=[] then r.2 else [],iq (uz m (r::s::t) 16)⟩:=by show nv _ (r::s::t)=_;unfold nv;dsimp only;rw[p_ hk];rfl
theorem R6 {r:Rw}{t:List Rw}(hk:0<cg r.1 ((s::t).getLastD r).1):dH (m+1) (r::s::t)=vu m (eV (cg r.1 ((s::t).getLastD r).1) (r::s::t)):=by
 rw[sQ];have: ∀ i,jR m (r::s::t) (i+1)=vu m (eV (cg r.1 ((s::t).getLastD r).1) (r::s::t)):=λi=>by
  induction i with
  | zero=>rw[lO,dO,o_ hk,o_ rfl];rfl
  | succ i ih =>rw[lO,ih,dO,o_ hk,p_ (g_ i)];show _++[]=_;rw[ei]
 exact this 15
theorem NT {l:List Rw}(h: ∀ i,bz l i=[]):dH (m+1) l=[]:=by
 rw[sQ];have: ∀ i,jR m l i=[]:=λi=>by
  induction i with
  | zero=>rfl
  | succ i ih=>rw[lO,ih,h i];rfl
 exact this 16
theorem UT (P:Pd)(d:Nat)(f:Nat->Nat):yX P d 0 f []:=⟨[],rfl,rfl,λi L' hi=>by simp at hi⟩
def Pd.none:Pd:={D:=λ_=>F,mP:=λ_=>[],fb:=λ_=>0,nb:=λ_=>0,cb:=λ_=>0,D2:=λ_=>F,n2:=λ_=>0,g:=λ_ _=>0}
theorem HZ (k a:Nat): ¬ SB.nc 0 (Pd.none.parts k) a:=λh=>d_ (show F=C from h)
theorem HY (k a:Nat): ¬ SB.nc 0 (Pd.none.lists k) a:=λh=>d_ (show F=C from h)
theorem HB {k tot:Nat}{D:Nat->Bool}{mP:Nat->h_}{fb nb cb:Nat->Nat}:aa (.sy D [.str mP,.iP k 1 C fb nb cb] tot ty F) (.sy D [.str mP,.iP k' 1 C fb nb cb] tot ty F) :=⟨rfl,λ_ a h=>⟨h,λE o hb=>((aa.cells (cs:=[(bh.str mP).at a,(bh.iP k 1 C fb nb cb).at a]) (cs':=[(bh.str mP).at a,(bh.iP k' 1 C fb nb cb).at a]) (tot:=tot) (ty:=ty) (λ_=>rfl) rfl).old rfl).2.1 E o hb,id⟩⟩
theorem NX {l:List Rw}(ht:t=ctext (m+1) l)(hb:dH (m+1) l=[])(a:Nat): ∃(x:Nat×Pd),Told x.2 (m+1+1) x.1 (jy (m+1) l)/\a=x.1/\
  aa (.sy (λb=>b.beq a) [.str λ_=>t,.iP 0 1 C (λ_=>0) (λ_=>0) λ_=>0] 2 165 F) (x.2.parts 2)/\∀ a,¬ SB.nc 0 (x.2.lists 1) a:=by
 refine⟨(a,Pd.leaf a t),?_,rfl,HB,λb h=>d_ (show F=C from h)⟩
 have:=alH (m+1) a t;unfold jy;rw[hb,← ht];exact this
theorem ajV (r:Rw)(t:List Rw):(r::t).getD t.length ([],[])=t.getLastD r:=by
 rw[en,List.getLastD_eq_getLast?,List.getLast?_eq_getElem?];cases t with
 | nil=>rfl
 | cons s t=>simp
theorem On {k:Nat}{D:Nat->Bool}{n:Nat->Nat}{g:Nat->Nat->Nat}:aa (.ni D n [.ref k g] F) (.ni D n [.ref k' g] F) :=
 ⟨rfl,λ_ a h=>⟨h,λE o ⟨c,ty,fr,h1,h2⟩=>⟨c,ty,fr,h1,λi j col hi hj=>by
  match j,hj with
  | 0,hj=>cases hj;have e:=h2 i 0 (fW.at a (.ref k g)) hi rfl;exact e
  | j+1,hj=>simp at hj⟩,id⟩⟩
theorem JW {a1 nb cb k k2:Nat}{l:List Rw}{B:List h_}(ht:t=ctext (m+1) l)(hb:dH (m+1) l=B)(hd2: ∀ b,P.D2 b=C->(b.beq a&& !(C&&nb.beq 0))=F)(hd: ∀ b,P.D b=C->b.beq a1=F)(h:yX P (m+1) nb f B) :
  ∃(x:Nat×Pd),Told x.2 (m+1+1) x.1 (jy (m+1) l)/\a1=x.1/\
   aa (.sy (λb=>P.D b||b.beq a1) [.str λb=>bif P.D b then P.mP b else t,.iP k 1 C (λb=>bif P.D b then P.fb b else a) (λb=>bif P.D b then P.nb b else nb) λb=>bif P.D b then P.cb b else cb] 2 165 F) (x.2.parts 2)/\
   aa (.ni (λb=>P.D2 b||b.beq a&& !(C&&nb.beq 0)) (λb=>bif P.D2 b then P.n2 b else nb) [.ref k2 λb i=>bif P.D2 b then P.g b i else f i] F) (x.2.lists 1):=by
 refine⟨(a1,P.top a a1 t nb cb f),?_,rfl,HB,On⟩;have:=asL (cb:=cb) (t:=t) hd hd2 h;unfold jy;rw[hb,← ht];exact this
theorem anN {l:List Rw}(h:dZ m l)(hl:l≠[]):(gR m l).k≠0:=by
 match m,h with
 | 0,ho =>
   cases l with
   | nil=>exact absurd rfl hl
   | cons x y=>exact absurd (ho.len x (a! ..)) (eA _)
 | m+1,_=>exact(anM hl).1
theorem R7 {l:List Rw}{i:Nat}(hi:i<16)(hk:bz l i≠[])(ht:t∈ dH m (bz l i)):t∈ dH (m+1) l:=by unfold dH;refine e!.2 ⟨i,fl.2 hi,?_⟩;rw[p_ hk];exact List.mem_append_right _ ht
theorem acw {l:List Rw}{i:Nat}(hi:i<16)(hk:bz l i≠[])(hl: ¬ (ctext m (bz l i)).length<32):ctext m (bz l i)∈ dH (m+1) l:=by unfold dH;refine e!.2 ⟨i,fl.2 hi,?_⟩;rw[p_ hk,p_ hl];exact List.mem_append_left _ (a! ..)
theorem wC (b:UInt8)(k:h_):ak (b::k)=T (b.toNat/16)::T (b.toNat%16)::ak k:=by
 have hb:ah (b::k) 0=(b.toNat:Int):=rfl;have e0:jO (b::k) 0=(b.toNat:Int)/16:=by unfold jO;rw[o_ rfl];rfl
 have e1:jO (b::k) 1=(b.toNat:Int)%16:=by unfold jO;rw[p_ (by decide)];rfl
 have e2: ∀ j:Nat,jO (b::k) (j+2)=jO k j:=λj=>by
  unfold jO;have:(((j+2:Nat):Int)/2)=((j/2+1:Nat):Int):=by omega
  have h2:((j:Int)/2)=((j/2:Nat):Int):=by omega
  have h3:(j+2)%2=j%2:=by omega
  rw[h3,this,dz,h2]
 have hn:2*(b::k).length=2*k.length+1+1:=by rw[an];omega
 unfold ak b7;rw[hn,eu,c4,c5,eu,c4,c5];simp only[bn,Function.comp,e0,e1,Nat.succ_eq_add_one];refine congr (congrArg _ ?_) (congr (congrArg _ ?_) ?_)
 ·congr 1
 ·congr 1
 ·refine e_ λj _=> ?_;show T (jO (b::k) (j+2)).toNat=_;rw[e2]
theorem ZM (a b:UInt8)(p:h_)(ha:a.toNat<16)(hb:b.toNat<16):cC (a::b::p)=T (a.toNat*16+b.toNat)::cC p:=by
 have e0:pP (a::b::p) 0=(a.toNat:Int)*16+(b.toNat:Int):=by have h1:ah (a::b::p) (2*((0:Nat):Int))=(a.toNat:Int):=rfl;have h2:ah (a::b::p) (2*((0:Nat):Int)+1)=(b.toNat:Int):=rfl;unfold pP;rw[h1,h2,NB ⟨by omega,by omega⟩ ⟨by omega,by omega⟩]
 have e2: ∀ j:Nat,pP (a::b::p) (j+1)=pP p j:=λj=>by
  unfold pP
  rw[show(2*((j+1:Nat):Int))=((2*j+1+1:Nat):Int)by push_cast;omega,dz,dz,
   show(((2*j+1+1:Nat):Int)+1)=((2*j+1+1+1:Nat):Int)by push_cast;omega,dz,dz]
  rw[show((2*j+1:Nat):Int)=2*(j:Int)+1 by push_cast;omega,show((2*j:Nat):Int)=2*(j:Int)by push_cast;omega]
 have hn:(a::b::p).length/2=p.length/2+1:=by rw[an,an];omega
 unfold cC b7;rw[hn,eu,c4,c5];simp only[bn,e0];refine congr (congrArg _ ?_) (e_ λj _=>by show T (pP (a::b::p) (j+1)).toNat=_;rw[e2])
 congr 1
theorem EC (b:UInt8):(T (b.toNat/16)).toNat=b.toNat/16/\(T (b.toNat%16)).toNat=b.toNat%16:=by
 have:=b.toNat_lt;constructor
 ·rw[hG];omega
 ·rw[hG];omega
theorem AV: ∀(k:h_),cC (ak k)=k
 | []=>rfl
 | b::k=>by have hb:=b.toNat_lt;obtain⟨h1,h2⟩:=EC b;rw[wC,ZM _ _ _ (by rw[h1];omega) (by rw[h2];omega),AV k,h1,h2];congr 1;rw[show b.toNat/16*16+b.toNat%16=b.toNat by omega,UInt8.ofNat_toNat]
theorem Pz: ∀(k:h_) (b:UInt8),b∈ ak k->b.toNat<16
 | [],b,h=>by cases h
 | c::k,b,h=>by
   have hc:=c.toNat_lt;obtain⟨h1,h2⟩:=EC c;rw[wC] at h;rcases c6.1 h with rfl | h
   ·rw[h1];omega
   ·rcases c6.1 h with rfl | h
    ·rw[h2];omega
    ·exact Pz k b h
theorem Py (k:h_):oZ (ak k)=true:=by unfold oZ;rw[aer (Pz k),jD,k_ (by omega)];rfl
theorem vM (a b:UInt8)(p q:h_):V (a::p) (b::q)=(M (a<b)||(M (a=b)&&V p q)):=by
 show(M (a<b)||(a==b&&V p q))=_;by_cases e:a=b
 ·subst e;simp
 ·simp[e]
theorem Es: ∀ {a b:h_},V a b=C->V (ak a) (ak b)=C
 | [],[],h=>by cases h
 | [],b::q,_=>by rw[wC];rfl
 | a::p,[],h=>by cases h
 | a::p,b::q,h=>by
   have ha:=a.toNat_lt;have hb:=b.toNat_lt;obtain⟨a1,a2⟩:=EC a;obtain⟨b1,b2⟩:=EC b;rw[vM,eJ,b_,m_,m_] at h;rw[wC,wC,vM,vM];rcases h with h | ⟨rfl,h⟩
   ·have hlt:a.toNat<b.toNat:=eB.1 h;by_cases h1:a.toNat/16<b.toNat/16
    ·have:T (a.toNat/16)<T (b.toNat/16):=eB.2 (by rw[a1,b1];exact h1);rw[k_ this];rfl
    ·have e1:T (a.toNat/16)=T (b.toNat/16):=by congr 1;omega
     have:T (a.toNat%16)<T (b.toNat%16):=eB.2 (by rw[a2,b2];omega);rw[k_ e1,k_ this];simp
   ·rw[k_ rfl,k_ rfl,Es h];simp
structure Sp.An (w:Sp):Prop where
 f: ∀ i,i<w.n->(w.f i).length<=1000
 fr:w.fr.length<=1000
 to:w.to.length<=1000
theorem Ss (f:Nat->h_): ∀ {n:Nat} {h:h_},bw f n h=F->fD f n h=0
 | 0,_,_=>rfl
 | n+1,h,e=>by unfold bw at e;simp only[Bool.or_eq_false_iff] at e;unfold fD;rw[e.1,e.2];rfl
theorem tT (f:Nat->h_)(n:Nat)(t:h_):fD f (n+1) t=bif bw f n t then fD f n t else(bif M (t=bg (f n))then(n:Int)else 0):=rfl
theorem Su {f:Nat->h_}(h:bw f n (bg (f n))=F):(∀ t,kQ (bw f n) (bg (f n)) t=bw f (n+1) t)/\(∀ t,qh (fD f n) (bg (f n)) n t=fD f (n+1) t):=by
 refine⟨λt=>rfl,λt=> ?_⟩;rw[tT];unfold qh;by_cases e:t=bg (f n)
 ·subst e;rw[h];simp
 ·rw[l_ e];cases hd:bw f n t with
  | true=>rfl
  | false=>exact Ss f hd
theorem Eb {f:Nat->h_}(h:bw f n (bg (f n))=C):(∀ t,bw f n t=bw f (n+1) t)/\(∀ t,fD f n t=fD f (n+1) t):=by
 refine⟨λt=> ?_,λt=> ?_⟩
 ·show _=(bw f n t||decide (t=bg (f n)))
  by_cases e:t=bg (f n)
  ·subst e;rw[h];rfl
  ·rw[l_ e,Bool.or_false]
 ·rw[tT];cases hd:bw f n t with
  | true=>rfl
  | false =>
    by_cases e:t=bg (f n)
    ·subst e;rw[h] at hd;cases hd
    ·rw[l_ e];exact Ss f hd
theorem K6 (w:Sp)(t:h_):(Wk.start.take w t).Fit 1:=Wk.Fit.take (k:=0) ⟨λ_=>⟨b! _,b! _⟩,W _,W _,J _⟩ w t
theorem aBW {b:Bool}(h:(!b)=C):b=false:=by cases b<;>simp_all
theorem aBX {b:Bool}(h:(!b)=F):b=true:=by cases b<;>simp_all
section
attribute [local irreducible] bg bM getD bw fD hasB oZ ak qy lX nO kZ
set_option maxHeartbeats 1000000 in
theorem aby {w:Sp}(hw:w.An)(root:h_)(kk:Option Nat) :
  au (je (anA w) 14 ec [.str F root,.agg [.str F w.fr,.str F w.to],.cT 0 1 w.z w.o 0 w.n w.c] [W7 w kk] (GQ root w)):=by
 refine au.j7 (afD root w kk) (by delta Fk Bk I6 Ix Sr Er NI aM aJ cQ aF eC bq cP aj qd aC az cU bE bt gK aA eY cJ dy aD fU aX bN bJ cY aB gW b8 yH dh cv bA aV br fo cI nG dx fN kL fF aP gS fy i5 cR jH fE dF aT cX lu fk aU iD ew tg qw i9 jn iQ x6 uj aaq cD oJ eO sL tr eX rV gy rW rX mM jK bG FV IW mD gz gu jY jZ Qd aaw gD jg Mx aaW aiP rL cm wR uU lV oM iW mI xb BH zQ Mk rT aau Dz DA qS qT ov FT dm lT qx Ig Io ahb TE BK vk zU;exact rfl) ?_;dsimp only;have S: ∀ v:SV,ai v v:=λ_ _=>rfl
 have eR:sk root w=bif OR w.fr w.to&&(M (0<w.n)&&(M (w.n<=200)&&M (bg (w.f 0)=root)))then(match uZ root w.full with
  | some s=>bif kZ s.ns.length (λi=>s.ns.getD i []) w.n w.f then I s.fs else O
  | none=>O)else none:=rfl
 have bad:sk root w=O->∀ {A B:Prop},B->((sk root w).isSome=C->A)/\((sk root w).isSome=F->B):=λh A B b=>by rw[h];exact⟨(λh=>by cases h),λ_=>b⟩
 refine⟨λh=>bad (by rw[eR,show OR w.fr w.to=F by simpa [OR] using h];rfl) (S _),λhle=>⟨λh0=>bad (by rw[eR,show M (0<w.n)=F from l_ (by have:=i_ h0;omega)];simp) (S _),λh0=>⟨λh2=>bad (by rw[eR,show M (w.n<=200)=F from l_ (by have:=i_ h2;omega)];simp) (S _),λh2=> ?_⟩⟩⟩
 have hle:OR w.fr w.to=true:=by unfold OR;simpa only[Bool.not_eq_false'] using hle
 have h0:0<w.n:=by have:=j_ h0;omega
 have h2:w.n<=200:=by have:=j_ h2;omega
 refine⟨⟨0,J _,rfl,aa.SA λs=>by unfold bw;rfl,aa.refl _,aa.refl _,aa.refl _,aa.refl _,trivial⟩,λx hx=>⟨λhlt=> ?_,λhge=> ?_⟩⟩
 ·have hlt:x<w.n:=by have:=i_ hlt;omega
  have hf:=hw.f x hlt;simp only[-eq_self,zh,ef,bn];refine⟨⟨by omega,by omega⟩,⟨rfl,hlt⟩,⟨trivial,by rw[zh];omega,by simp⟩,λhd=>⟨⟨by omega,by omega⟩,x+1,⟨hlt,by omega⟩,by omega,?_⟩,λhd=>⟨⟨by omega,by omega⟩,x+1,⟨hlt,by omega⟩,by omega,?_⟩⟩
  ·have hd:bw w.f x (bg (w.f x))=false:=by simpa using hd
   exact⟨aa.fmap (Su hd).1 λt=>congrArg (Value.int .i64) ((Su hd).2 t),aa.refl _,aa.refl _,aa.refl _,aa.refl _,trivial⟩
  ·have hd:bw w.f x (bg (w.f x))=true:=by simpa using hd
   exact⟨aa.fmap (Eb hd).1 λt=>congrArg (Value.int .i64) ((Eb hd).2 t),aa.refl _,aa.refl _,aa.refl _,aa.refl _,trivial⟩
 ·have hx:x=w.n:=by have:=j_ hge;omega
  subst hx;have noroot: ¬ (bw w.f w.n root=C/\fD w.f w.n root=0)->sk root w=none:=λh=>by have: ¬ bg (w.f 0)=root:=λe=>h (Oj.2 ⟨h0,e⟩);rw[eR,l_ this];simp
  refine⟨λhr=>bad (noroot λh=>by rw[h.1] at hr;cases hr) (S _),λhr=> ?_⟩;have hr:bw w.f w.n root=true:=by simpa using hr
  refine⟨λhz=>bad (noroot λh=>by rw[h.1,h.2] at hz;cases hz) (S _),λhz=> ?_⟩;have hz:fD w.f w.n root=0:=by rw[hr] at hz;exact atG (p:=fD w.f w.n root=0) hz
  have hroot:bg (w.f 0)=root:=(Oj.1 ⟨hr,hz⟩).2
  have eR:sk root w=(match uZ root w.full with
   | some s=>bif kZ s.ns.length (λi=>s.ns.getD i []) w.n w.f then I s.fs else O
   | none=>O):=by rw[eR,hle,k_ h0,k_ h2,k_ hroot];rfl
  have hok:w.full.Ok:=⟨h2,hw.f,λh e=>by obtain⟨g1,g2,_⟩:=lC w.f w.n h e;exact⟨g1,g2⟩,hw.fr,hw.to⟩
  refine⟨(⟨w.full,Wk.start,0,0⟩,root),⟨hok,⟨λ_=>⟨b! _,show(0:Int)<=1000 by decide⟩,J _,J _,J _⟩,⟨W _,W _⟩,trivial⟩,?_⟩;dsimp only;refine⟨rfl,rfl,rfl,rfl,rfl,rfl,rfl,rfl,rfl,rfl,aa.SA λ_=>rfl,rfl,rfl,rfl,aa.refl _,rfl,⟨rfl,rfl,rfl,rfl,rfl⟩,aa.refl _,λhL c hc=> ?_,λhL c=>bad (by rw[eR,uZ,hL];rfl) (S _)⟩;have hg:bM (w.full.at root)=true:=by simp only[gF,b_] at hL;exact hL.2
  have hfit:=K6 w.full root;have eW:uZ root w.full=qy w.full 401 (Wk.start.take w.full root) (getD (w.full.at root)) []:=by rw[uZ,hL];rfl
  refine⟨(⟨w.full,Wk.start.take w.full root,c.1,c.2⟩,getD (w.full.at root),[]),⟨hok,hfit.small (by decide),hc,hfit,(by show 401<=0+401;decide),kj (sW hg),J _⟩,?_⟩;dsimp only
  repeat' first
   | exact aa.refl _
   | refine And.intro ?_ ?_
   | rfl
   | exact trivial
   | fail
  ·intro hB e he;have hs:=Jq hB;have k1:=(ES w.full 401 _ _ _ _ hfit hs).1;generalize nO w.full 401 (Wk.start.take w.full root) (getD (w.full.at root)) []=s' at hs k1 he ⊢;have eR:sk root w=bif kZ s'.ns.length (λi=>s'.ns.getD i []) w.n w.f then I s'.fs else none:=by rw[eR,eW,hs]
   have hns:=k1.ns;have hlk:=k1.lk;refine⟨⟨⟨⟨rfl,by omega⟩,⟨rfl,rfl,by show 0+w.n<=w.n;omega⟩,trivial⟩,by omega⟩,λhq=>bad (by rw[eR,show kZ s'.ns.length (λi=>s'.ns.getD i []) w.n w.f=F from aBW hq];rfl) (S _),λhq=> ?_⟩
   have hq:kZ s'.ns.length (λi=>s'.ns.getD i []) w.n w.f=true:=aBX hq;have eR:sk root w=I s'.fs:=by rw[eR,hq];rfl
   have eL:Xx root w=s'.fs:=by unfold Xx;rw[eR]
   rw[eR,eL];exact⟨λ_=>⟨e.2,he.2,aa.refl _,S _⟩,(λh=>by cases h)⟩
  ·exact λhB c=>bad (by rw[eR,eW,Af hB]) (S _)
end
def abv:List E6:=[.of .one,.agg [.one,.one],.of (.slice [.str λ_=>[]])]
def asx (vs:List SV)(l:List Seen):Option (h_×Sp×Option Nat):=match vs,l with
 | [.str F root,.agg [.str F fr,.str F to],_],[⟨kk,z,o,n,c,[.str f]⟩]=>I (root,⟨fr,to,n,f,z,o,c,λ_=>F,λ_=>0⟩,kk)
 | _,_=>O
theorem avU {vs:List SV}{l:List Seen}{root:h_}{w:Sp}{kk:Option Nat}(h:asx vs l=I (root,w,kk)):filled abv vs l=[.str F root,.agg [.str F w.fr,.str F w.to],.cT 0 1 w.z w.o 0 w.n w.c]/\l=[W7 w kk]:=by
 unfold asx at h;split at h
 ·cases h;exact⟨rfl,rfl⟩
 ·cases h
def EP (vs:List SV)(l:List Seen):Option (Prop×fC):=match asx vs l with
 | some (root,w,_)=>I (w.An,GQ root w)
 | none=>O
theorem avP (l:List (h_×h_))(c:Nat):(fC.req (l.length<=c) (.new (λk=>.dr [.bY k 2 C 0 l.length c,.int .i64 C 0]) (.rows C l.length [nj l,nk l] F (c*2) 50))).Ok:=by
 refine⟨rfl,rfl,λk=>by simp[SV.wf,SV.lY,cl],λE E' k k' h=> ?_⟩;simp only[SV.val,SV.vals];cases l with
 | nil=>rfl
 | cons a r=>rw[h (SB.o5 (i:=0) (c! _))]
theorem alw (root:h_)(w:Sp):(GQ root w).Ok:=by
 intro b;cases b with
 | false=>rfl
 | true=>intro c;exact avP (Xx root w) c
theorem abz:aq Z 14 (bV abv EP):=by
 refine gi (n:=20) Tryz.func14 (by kernel_rfl) (by kernel_rfl) ?_;intro vs l q a h hq;unfold EP at h;split at h
 ·rename_i root w kk hx;cases h;obtain⟨e1,e2⟩:=avU hx;rw[e1,e2];exact⟨_,ay8 w,rfl,alw root w,aby hq root kk⟩
 ·cases h
end
section
open Go Sx
set_option maxRecDepth 20000
theorem OY: ∀ {a b c:h_},V a b=C->V b c=C->V a c=C
 | [],[],_,h,_=>by cases h
 | _::_,[],_,h,_=>by cases h
 | _,_::_,[],_,h=>by cases h
 | [],_::_,_::_,_,_=>rfl
 | a::p,b::q,c::r,h,h'=>by
   rw[vM,eJ,b_,m_,m_] at h h' ⊢;rcases h with h | ⟨rfl,h⟩
   ·rcases h' with h' | ⟨rfl,_⟩
    ·exact .inl (UInt8.lt_trans h h')
    ·exact .inl h
   ·rcases h' with h' | ⟨rfl,h'⟩
    ·exact .inl h'
    ·exact .inr ⟨rfl,OY h h'⟩
structure NK (l:List (h_×h_)):Prop where
 Fb:l.Pairwise λa b=>V a.1 b.1=C
 key: ∀ x,x∈ l->x.1≠[]/\x.1.length<=6
 val: ∀ x,x∈ l->0<x.2.length/\x.2.length<=80
theorem J2 {l:List (h_×h_)}(h:NK l):dZ 13 (rowsOf l):=by
 refine⟨?_,λx hx=> ?_,λx hx b hb=> ?_,λx hx=> ?_⟩
 ·unfold xE rowsOf;rw[List.pairwise_map];exact h.Fb.imp Es
 all_goals
  obtain⟨e,he,rfl⟩:=List.mem_map.1 hx
 ·have:=(h.key e he).2;show(ak e.1).length<13;rw[jD];omega
 ·exact Pz e.1 b hb
 ·exact h.val e he
theorem Zn (fr to:h_)(l:List (h_×h_)):n9 fr to [] (rowsOf l)=cG fr to l:=by
 unfold n9 rowsOf cG;rw[List.filter_map,c5];have e:((λr:Rw=>hasB fr to (cat [] r.1))∘ λe:h_×h_=>(ak e.1,e.2))=λe=>hasB fr to (ak e.1):=rfl;rw[e];have: ∀ l:List (h_×h_),l.map ((λr:Rw=>(cC (cat [] r.1),r.2))∘ λe=>(ak e.1,e.2))=l:=λl=>by
  induction l with
  | nil=>rfl
  | cons x r ih =>rw[c4,ih];show(cC (ak x.1),x.2)::r=x::r;rw[AV]
 exact this _
theorem Bs (m:Nat):aZ (gR m [])=true:=by cases m<;>kernel_rfl
theorem tB {z:Bool}{tot:Nat}{cs:List bh}:aa (.rows z n cs F tot ty) (.rows z n cs C tot ty) :=aa.of rfl rfl λhno=>⟨hno,λE o ⟨c,fr,h1,_,h3⟩=>⟨c,fr,h1,λh=>(by cases h),h3⟩,λh=>(by cases h)⟩
theorem abi {k c c':Nat}(hn:n=n')(hc:c=c')(hf: ∀ i,i<n->f i=f' i):aa (.rows C n [.ref k f] F (c*1) ty) (.rows C n' [.ref k' f'] F (c'*1) ty):=by
 refine tM hn (by rw[hc]) rfl λj d d' h1 h2 i hi E=> ?_
 match j,h1,h2 with
 | 0,h1,h2 =>injection h1 with h1;injection h2 with h2;subst h1;subst h2;show(SV.l7 k' (f' i) 0).val E=(SV.l7 k (f i) 0).val E;rw[hf i hi];rfl
 | j+1,h1,_=>simp at h1
theorem Qz (m:Nat)(l:List Rw)(i j:Nat):(if i=j then qv m (bz l i)else uz m l i j)=uz m l (i+1) j:=by
 unfold uz;by_cases h:i=j
 ·subst h;rw[o_ rfl,o_ (Nat.lt_succ_self _)]
 ·rw[p_ h];by_cases h2:j<i
  ·rw[o_ h2,o_ (by omega)]
  ·rw[p_ h2,p_ (by omega)]
theorem XV (m:Nat)(x:List Rw×Nat)(hx:(JV (m+1)).pre x):au (runM (af2 m x.1) 63 eK (JV (m+1)) x):=by
 refine au.xD (awf m x) (by delta Fk Bk I6 Ix Er NI fu aM aJ aF bx bF bq aj bH aC az bE dK mu dD bt aA uk nT cc eY ja iJ fz aY aD rI bN bJ aB oE b8 cv aV br fo cI cK aP cN gY aT cX dR dS aG dB aU kO tu uc My WS Xw iX va fO i9 bG wN aK iY Ij zK FJ gp wM gr jV pS mz uQ L0 A8 uR C7 jf C5 C4 mG aab Dk Mq gA mB aeP BV wK Dy arP avD arQ avF aaI C1 nr aru aqj arv FO aqm Im PM aqn aqq aqs qO uh ahp aht Dq TW TX aiB aiD aqT Dv sM ahQ ahS aq9 ard arh aix aiL C3;exact rfl) ?_;obtain⟨h1,h2,h3⟩:=hx;obtain⟨l,c⟩:=x;have h1:dZ (m+1) l:=h1;have h2:l.length<=1000:=h2;simp only[ef,bn,true_and,m_,n_];refine⟨λh0=> ?_,λh0=>⟨λh5=> ?_,λh5=> ?_⟩⟩
 ·have hl:l=[]:=e5.1 (by omega);subst hl;exact⟨CC (m:=m) (l:=[]) (by omega) h1,λ_ a=>NX (m:=m) (l:=[]) rfl (NT λ_=>rfl) a,λhv=>absurd (Bs (m+1)) (by rw[show aZ (gR (m+1) [])=F from hv];decide)⟩
 ·obtain⟨r,hr⟩: ∃ r,l=[r]:=List.length_eq_one_iff.1 (by omega);subst hr;refine⟨⟨b! 0,eN⟩,gB,⟨b! 0,eN⟩,gB,CC (m:=m) (l:=[r]) (by omega) h1,λ_ a=>NX (m:=m) (l:=[r]) rfl (NT λ_=>rfl) a,λhv=> ?_⟩;have:=jB (m:=m+1) (l:=[r]) (by omega) h1 (ej _ _);rw[show aZ (gR (m+1) [r])=F from hv] at this;cases this
 ·obtain⟨r,s,t,hl⟩: ∃ r s t,l=r::s::t:=by
   match l,h0,h5 with
   | [],h0,_=>exact absurd rfl h0
   | [_],_,h5=>exact absurd rfl h5
   | r::s::t,_,_=>exact⟨r,s,t,rfl⟩
  have hpos:0<l.length:=by rw[hl];exact c! _
  have hr:l.getD 0 ([],[])=r:=by rw[hl];rfl
  have he:l.getD ((l.length:Int)-1).toNat ([],[])=(s::t).getLastD r:=by
   have:((l.length:Int)-1).toNat=(s::t).length:=by rw[hl,an];omega
   rw[this,hl];exact ajV r (s::t)
  have hrl:=h1.len r (by rw[hl];exact a! ..);rw[hr,he];refine⟨⟨by omega,by omega⟩,hpos,⟨by omega,by omega⟩,⟨by omega,by omega⟩,by omega,by omega,λhk=> ?_,λhk=> ?_⟩
  ·have hc:=(tI r.1 ((s::t).getLastD r).1).1;rw[qI];have hrc: ∀ x,x∈ l->cg r.1 ((s::t).getLastD r).1<=x.1.length:=λx hx=>by have:=vR (by rw[← hl];exact h1.Fb) (x:=x) (by rw[← hl];exact hx);have:=congrArg cj this;rw[e7,e7] at this;omega
   refine⟨⟨by omega,by omega⟩,hpos,⟨by omega,by omega⟩,⟨by omega,by omega⟩,by omega,by omega,⟨by omega,by omega⟩,hpos,⟨by omega,by omega,by omega⟩,⟨?_,?_⟩,λc' hc'=> ?_⟩
   ·simp
   ·exact⟨by omega,h2,λi hi=>hrc _ (by rw[en,eP hi];exact eT hi)⟩
   ·have hkid:bz l 0=eV (cg r.1 ((s::t).getLastD r).1) l:=by rw[hl,dO,o_ (by omega),o_ rfl]
    have hR:=mW h1 0;rw[hkid] at hR;have hlen:(eV (cg r.1 ((s::t).getLastD r).1) l).length=l.length:=cL _;have hB:=OL m (eV (cg r.1 ((s::t).getLastD r).1) l);have hB':(m+1)*l.length<=13*1000:=gm (by omega) h2;rw[hlen] at hB;refine⟨⟨_,c',0,0,λ_=>0,Pd.none,[]⟩,⟨hR,by show(eV _ l).length<=_;omega,by omega,W _,by rw[fm];show(vu m (eV _ l)).length<=_;omega,UT _ _ _⟩,⟨rfl,rfl⟩,tB,rfl,rfl,HZ _,HY _,λy hy=> ?_⟩;have e:gR (m+1) l=⟨2,r.1.take (cg r.1 ((s::t).getLastD r).1),[],cV (qv m (eV (cg r.1 ((s::t).getLastD r).1) l))⟩:=by rw[hl];exact agb (by omega)
    have es:bT r.1 O (I (Operand.tmp 81)) 0 (cg r.1 ((s::t).getLastD r).1:Int)=r.1.take (cg r.1 ((s::t).getLastD r).1):=by unfold bT;simp
    have eb:dH (m+1) l=vu m (eV (cg r.1 ((s::t).getLastD r).1) l):=by rw[hl];exact R6 (by omega)
    have hv:=jB (m:=m+1) (l:=l) (by omega) h1 (by rw[hl];exact ej _ _);have hf:=CC (m:=m) (l:=l) (by omega) h1;rw[e] at hf hv;rw[es];exact⟨hf,λ_ a hd2 a1 hd=>JW (l:=l) (congrArg eM e).symm eb hd2 hd hy.2,λhn=>absurd (hv.symm.trans hn) (by decide)⟩
  ·refine⟨⟨(0,⟨0,0,λ_=>0,Pd.none⟩),⟨J _,W _,UT _ _ _⟩,rfl,rfl,rfl,HZ _,HY _,aa.cells (λ_=>rfl) rfl⟩,λy hy=>⟨λh=> ?_,λh=> ?_⟩⟩
   ·obtain⟨y1,y2,y3⟩:=hy;have hkid:bz l y.1=eV 1 (jz y.1 l):=by rw[hl,dO,p_ (by omega)]
    have hR:=mW h1 y.1;have hbl:=XN m l (y.1+1);rw[lO] at hbl;rw[hkid] at hR hbl;have hB':(m+1)*l.length<=13*1000:=gm (by omega) h2;have hcl:(jz y.1 l).length<=l.length:=e6 _ _;have hdl:(eV 1 (jz y.1 l)).length=(jz y.1 l).length:=cL _;refine⟨(l,c,y.1),h2,⟨rfl,rfl⟩,aa.refl _,aa.refl _,λc1 hc1=>⟨rfl,⟨by simp,by decide,by show(jz y.1 l).length<=_;omega,λi hi=> ?_⟩,λc2 hc2=> ?_⟩⟩
    ·have hm:(jz y.1 l).getD i ([],[])∈ jz y.1 l:=by rw[en,eP hi];exact eT hi
     have hh:=(List.mem_filter.1 hm).2;show 1<=((jz y.1 l).getD i ([],[])).1.length;cases hp:((jz y.1 l).getD i ([],[])).1 with
     | nil=>rw[hp] at hh;cases hh
     | cons b q=>exact c! _
    ·rw[qI];refine⟨⟨eV 1 (jz y.1 l),c2,y.2.nb,y.2.cb,y.2.f,y.2.P,jR m l y.1⟩,⟨hR,by show(eV 1 _).length<=_;omega,by omega,y2,by show(jR m l y.1++vu m (eV 1 (jz y.1 l))).length<=_;omega,y3⟩,⟨rfl,rfl⟩,tB,⟨rfl,rfl⟩,abi rfl rfl λ_ _=>rfl,HB,On,λv hv=> ?_⟩;have hW:yX v.P (m+1) v.nb v.f (jR m l (y.1+1)):=by rw[lO,hkid];exact hv.2
     refine⟨⟨by omega,by omega⟩,by omega,⟨by omega,by omega⟩,(y.1+1,v),⟨⟨by show y.1+1<=16;omega,hv.1,hW⟩,by show 16-(y.1+1)<_;omega⟩,by show(y.1:Int)+1=((y.1+1:Nat):Int);omega,⟨rfl,rfl⟩,abi rfl rfl λ_ _=>rfl,HB,On,?_⟩;rw[← hkid];simp only[Qz];exact aa.cells (λ_=>rfl) rfl
   ·obtain⟨y1,y2,y3⟩:=hy;have hy:y.1=16:=by omega
    rw[hy] at y3 ⊢;have e:gR (m+1) l=⟨3,[],if r.1=[] then r.2 else [],iq (uz m l 16)⟩:=by rw[hl];exact N4 (by omega)
    have hv:=jB (m:=m+1) (l:=l) (by omega) h1 (by rw[hl];exact ej _ _);have hf:=CC (m:=m) (l:=l) (by omega) h1;rw[e] at hf hv;refine⟨⟨by omega,by omega⟩,hpos,λhn=> ?_,λhn=> ?_⟩
    ·rw[o_ hn] at e hf hv;exact⟨⟨by omega,by omega⟩,hpos,hf,λ_ a hd2 a1 hd=>JW (l:=l) (congrArg eM e).symm (sQ m l) hd2 hd y3,λhx=>absurd (hv.symm.trans hx) (by decide)⟩
    ·rw[p_ hn] at e hf hv;exact⟨hf,λ_ a hd2 a1 hd=>JW (l:=l) (congrArg eM e).symm (sQ m l) hd2 hd y3,λhx=>absurd (hv.symm.trans hx) (by decide)⟩
theorem amM (h:aq Z 101 (dI (CK m))):aq Z 63 (dI (JV (m+1))) :=jT (n:=20) Tryz.func63 (by kernel_rfl) (by kernel_rfl) (JV (m+1)) λx hx=>⟨af2 m x.1,ayD h x.1,by rfl,XV m x hx⟩
theorem R8: ∀ m:Nat,aq Z 63 (Aw m)
 | 0=>acE
 | m+1=>amM (auO (R8 m))
end
namespace Sx
open Go
noncomputable section
def pE (N nx k:Nat):Nat:=match c7 k N with
 | true=>k
 | false=>nx+k
structure vV where
 G:Type
 N:Nat
 H:Nat
 pre:G->Prop
 args:G->List SV
 mem:G->Mem
 val:G->SV
 B:Type
 post:G->B->Prop
 back:G->B->Mem
def Te (H:Nat):Mem->Bool
 | []=>C
 | e::r=>c7 e.1 H&&Te H r
theorem KA {H:Nat}: ∀ {m:Mem} {k:Nat} {B:SB},Te H m=C->m.get k=I B->k<H
 | [],_,_,_,h=>by cases h
 | e::r,k,B,hb,h=>by
   simp only[Te,b_,cl] at hb;by_cases he:e.1=k
   ·rw[← he];exact hb.1
   ·rw[Mem.get,p_ he] at h;exact KA hb.2 h
def JE:SV->Option Nat
 | .yield k=>I k
 | _=>O
theorem MS {v:SV}{k:Nat}(h:JE v=I k):v=.yield k:=by
 unfold JE at h;split at h
 ·injection h with h;rw[h]
 ·cases h
def nA (base:Nat):List SV->List SV->Ren->(Ren->VC)->VC
 | [],[],aW,t=>t aW
 | h::hs,u::us,aW,t=>(match JE h,JE u with
   | some a,I b=>(match bf a b,c7 a base with
     | true,C=>nA base hs us aW t
     | _,_=>.fail "call: another yield")
   | _,_=>DQ base aW h u (λaW=>nA base hs us aW t))
 | _,_,_,_=>.fail "call: so many arguments"
theorem uX {base:Nat}: ∀ {hs us:List SV} {aW:Ren} {t:Ren->VC},(nA base hs us aW t).holds->
  ∃ ren',aW.le ren'/\(t ren').holds/\∀ ren'' (E:Nat->Nat),ren'.le ren''->SV.vals (Ren.E base ren'' E) hs=SV.vals E us
 | [],[],aW,t,h=>⟨aW,Ren.le_refl _,h,λ_ _ _=>rfl⟩
 | h::hs,u::us,aW,t,hh=>by
   simp only[nA] at hh;split at hh
   ·rename_i a b ha hb;split at hh
    ·rename_i e1 e2;obtain rfl:=c8 e1;have e2:a<base:=by simpa [cl] using e2
     obtain⟨r2,g1,g2,g3⟩:=uX hh;refine⟨r2,g1,g2,λr'' E hle=> ?_⟩;rw[MS ha,MS hb];simp only[SV.vals,SV.val,g3 r'' E hle,Ren.Lr e2]
    ·exact hh.elim
   ·obtain⟨r1,h1,h2,h3⟩:=Bb hh;obtain⟨r2,g1,g2,g3⟩:=uX h2;exact⟨r2,Ren.le_trans h1 g1,g2,λr'' E hle=>by simp only[SV.vals];rw[h3 r'' E (Ren.le_trans g1 hle),g3 r'' E hle]⟩
 | [],_::_,_,_,h=>h.elim
 | _::_,[],_,_,h=>h.elim
theorem xw {base:Nat}: ∀ {a b:List SV} {aW:Ren} {t t':Ren->VC},(∀ r,(t r).holds->(t' r).holds)->(nA base a b aW t).holds->(nA base a b aW t').holds
 | [],[],_,_,_,ht,h=>ht _ h
 | x::a,y::b,aW,t,t',ht,h=>by
   simp only[nA] at h ⊢;split at h
   ·split at h
    ·exact xw ht h
    ·exact h.elim
   ·exact MF (λ_ h=>xw ht h) h
 | [],_::_,_,_,_,_,h=>h.elim
 | _::_,[],_,_,_,_,h=>h.elim
def vV.ok (c:vV)(x:c.G):Bool:=ay c.N c.H&&(Te c.H (c.mem x)&&(Mem.wf c.H (c.mem x)&&SV.lY c.H (c.args x)))
def vV.CF (c:vV)(x:c.G)(nx:Nat)(K:SV->Mem->Nat->VC):VC:=.all c.B λy=>.imp (c.post x y) (match Te c.H (c.back x y)with
 | true=>K ((c.val x).ak8 (pE c.N nx)) (RM (pE c.N nx) (c.back x y)) (nx+c.H)
 | false=>.fail "call: keys")
theorem vV.vH {c:vV}{x:c.G}{nx:Nat}{K K':SV->Mem->Nat->VC}(hK: ∀ v m nx,(K v m nx).holds->(K' v m nx).holds)(h:(c.CF x nx K).holds):(c.CF x nx K').holds:=by
 intro y hy;have h:=h y hy;cases hb:Te c.H (c.back x y)with
 | false=>rw[hb] at h;exact h.elim
 | true=>rw[hb] at h;exact hK _ _ _ h
def tU (c:vV):PT:=λargs m nx K=>.ex c.G λx=>.and (.atom (c.pre x)) (match ay c.N nx,c.ok x with
 | true,C=>nA c.N (c.args x) args [] λaW=>kT c.N m (c.mem x) [] aW λ_=>c.CF x nx K
 | _,_=>.fail "call: keys")
theorem Gc (c:vV):bC (tU c):=by
 intro args m nx K K' hK h;obtain⟨x,h1,h2⟩:=h;refine⟨x,h1,?_⟩;show VC.holds _
 have h2:VC.holds (match ay c.N nx,c.ok x with
  | true,C=>nA c.N (c.args x) args [] λaW=>kT c.N m (c.mem x) [] aW λ_=>c.CF x nx K
  | _,_=>.fail "call: keys"):=h2
 revert h2;cases ay c.N nx with
 | false=>exact id
 | true=>cases c.ok x with
   | false=>exact id
   | true=>exact xw λaW h=>m8 (λ_ h=>vV.vH hK h) h
def vV.fit (c:vV)(x:c.G):SV->Mem->Nat->VC:=λv m _=>.ex c.B λy=>.and (.atom (c.post x y)) (uC c.N [c.val x] [v] [] λaW=>kT c.N m (c.back x y) [] aW λ_=>.tt)
section
variable {P : Program}
theorem bp.asJ {E m nx w}(h:bp Γ E m nx w)(hΓ:Γ.E9<=n)(hnN:n<=N){aW:Ren}{m2:Mem}(hb: ∀ kh B',m2.get kh=I B'->GZ n m [] aW kh B')
  (hi: ∀ kh kh' B B' k1,m2.get kh=I B->(∃ b a,B.nc b a)->m2.get kh'=I B'->(∃ b a,B'.nc b a)->iK n aW kh=I k1->iK n aW kh'=I k1->kh=kh') (hlt: ∀ kh B',m2.get kh=I B'->kh<N) :
  bp Γ (Ren.E n aW E) m2 N w:=by
 have hE: ∀ kh k1,iK n aW kh=I k1->Ren.E n aW E kh=E k1:=λkh k1 hr=>by simp[Ren.E,hr]
 have hg: ∀ {kh B' a},m2.get kh=I B'->B'.nc (Ren.E n aW E kh) a->∃ k1 B,iK n aW kh=I k1/\m.get k1=I B/\B.nc (E k1) a/\(∀ E1 o,cq E1 (B.el a) o->cq (Ren.E n aW E1) (B'.el a) o)/\(B'.ro=F->B.ro=F):=λ{kh B' a} hg ha=>by obtain⟨k1,B,g1,_,g3,g4,g5,g6⟩:=hb kh B' hg _ a ha;exact⟨k1,B,g1,g3,by rw[← hE kh k1 g1];exact g4,g5,g6⟩
 refine⟨λkh B' a hk ha=> ?_,λkh kh' B B' a hk ha hk' ha' hr=> ?_,hlt,λkh B' a hk ha hro=> ?_,h.ext,⟨bl hΓ hnN,λk hk=>(Ren.Lr (c_ hk hΓ)).trans (h.cx.2 k hk)⟩,h.kp⟩
 ·obtain⟨k1,X,_,q3,q4,q5,_⟩:=hg hk ha;obtain⟨o,ho,hbo⟩:=h.p7 k1 X a q3 q4;exact⟨o,ho,q5 E o hbo⟩
 ·obtain⟨k1,X,g1,g3,g5,_,g7⟩:=hg hk ha;obtain⟨k1',X',g1',g3',g5',_,g7'⟩:=hg hk' ha';have:=h.qq k1 k1' X X' a g3 g5 g3' g5' (hr.imp g7 g7');subst this;exact hi kh kh' B B' k1 hk ⟨_,_,ha⟩ hk' ⟨_,_,ha'⟩ g1 g1'
 ·obtain⟨k1,X,_,g3,g5,_,g7⟩:=hg hk ha;exact h.rq k1 X a g3 g5 (g7 hro)
theorem bp.aB7 {Θ Δ:b5}{E E3:Nat->Nat}{m2:Mem}{H nx:Nat}{w':World}(h:bp Θ E3 m2 H w')(hw0:Δ.w0=Θ.w0)(hm0:Δ.M0=Θ.M0)(hk0:Δ.keep=Θ.keep)(hΔ:Δ.E9<=nx)(hE0: ∀ k,k<Δ.E9->E k=Δ.E0 k)
  (hN:N<=nx) (hlow: ∀ k,k<N->E3 k=E k) :
  (∀ k,sC nx E E3 (pE N nx k)=E3 k)/\bp Δ (sC nx E E3) (RM (pE N nx) m2) (nx+H) w':=by
 have hρ: ∀ k,sC nx E E3 (pE N nx k)=E3 k:=λk=>by
  unfold pE sC;cases hb:c7 k N with
  | true =>
    have hk:k<N:=by simpa [cl] using hb
    simp only[show k<nx by omega,if_true];exact(hlow k hk).symm
  | false=>simp only[show ¬ nx+k<nx by omega,if_false,Nat.add_sub_cancel_left]
 have hget: ∀ {j X},(RM (pE N nx) m2).get j=I X->∃ k B,m2.get k=I B/\pE N nx k=j/\X=B.aW (pE N nx):=λ{j X} hj=>by
  have hj:(RM (pE N nx) m2++[]).get j=I X:=by rw[ei];exact hj
  rcases I3 hj with h1 | h1
  ·exact h1
  ·cases h1
 have hfun:(λk=>sC nx E E3 (pE N nx k))=E3:=funext hρ;refine⟨hρ,λj X a hj ha=> ?_,λj j' X X' a hj ha hj' ha' hr=> ?_,λj X hj=> ?_,λj X a hj ha hr=> ?_,by rw[hw0,hm0];exact h.ext,⟨bl hΔ (f_ _ _),λk hk=> ?_⟩,λD hD=>h.kp D (by rw[← hk0];exact hD)⟩
 ·obtain⟨k,B,g1,g2,rfl⟩:=hget hj;rw[SB.I4,← g2,hρ] at ha;obtain⟨o,ho,hbo⟩:=h.p7 k B a g1 ha;exact⟨o,ho,cq.aW (by rw[hfun];exact hbo)⟩
 ·obtain⟨k,B,g1,g2,rfl⟩:=hget hj;obtain⟨k',B',g1',g2',rfl⟩:=hget hj';rw[SB.I4,← g2,hρ] at ha;rw[SB.I4,← g2',hρ] at ha';rw[SB.ae0,SB.ae0] at hr;have:=h.qq k k' B B' a g1 ha g1' ha' hr;subst this;rw[← g2,← g2']
 ·obtain⟨k,B,g1,g2,rfl⟩:=hget hj;have:=h.lt k B g1;rw[← g2];unfold pE;split
  ·rename_i hb;have hk:k<N:=by simpa [cl] using hb
   omega
  ·omega
 ·obtain⟨k,B,g1,g2,rfl⟩:=hget hj;rw[SB.I4,← g2,hρ] at ha;rw[SB.ae0] at hr;rw[hm0,hw0];exact h.rq k B a g1 ha hr
 ·unfold sC;rw[o_ (c_ hk hΔ)];exact hE0 k hk
theorem aob {c:vV}{cal:yW}{KP:PK}{run:PT}(hΓ:Γ.E9<=c.N)(hcal: ∀ E E':Nat->Nat,(∀ k,k<c.N->E' k=E k)->cal.sem E'=cal.sem E)(hrun:Ao P Γ Ny cal run)
  (h: ∀ x,c.pre x->c.ok x=C->au (run (c.args x) (c.mem x) c.H (c.fit x))):Ao P Γ KP cal (tU c):=by
 intro Δ hle args m nx K hh hwf hargs E w hs;obtain⟨x,hpre,hh⟩:=hh;have hpre:c.pre x:=hpre
 have hh:VC.holds (match ay c.N nx,c.ok x with
  | true,C=>nA c.N (c.args x) args [] λaW=>kT c.N m (c.mem x) [] aW λ_=>c.CF x nx K
  | _,_=>.fail "call: keys"):=hh
 split at hh
 ·rename_i hN hok;have hN:c.N<=nx:=gh hN;have hrh:=(h x hpre hok).out;simp only[vV.ok,b_] at hok;obtain⟨ok1,ok2,ok4,ok5⟩:=hok;have ok1:c.N<=c.H:=gh ok1;obtain⟨ren1,_,h1,hv1⟩:=uX hh;obtain⟨aW,hl2,hK,h34⟩:=lW h1;obtain⟨h3,h4⟩:=h34 aW (Ren.le_refl _);let Θ:b5:={Δ with E9:=Γ.E9}
  have hleΘ:Γ.le Θ:=⟨hle.w,hle.m,W _,hle.e,hle.keep⟩
  have hsΘ:bp Θ E m nx w:=⟨hs.p7,hs.qq,hs.lt,hs.rq,hs.ext,⟨bl hle.nx hs.cx.1,λk hk=>hs.cx.2 k (c_ hk hle.nx)⟩,hs.kp⟩
  have hsat:=hsΘ.asJ (n:=c.N) (N:=c.H) hΓ ok1 h3 h4 (λkh B' hg=>KA ok2 hg);have hlow: ∀ k,k<c.N->Ren.E c.N aW E k=E k:=λk hk=>Ren.Lr hk;have hcall:=hrun Θ hleΘ _ _ _ _ hrh ok4 ok5 _ _ hsat;rw[hcal E _ hlow,hv1 aW E hl2] at hcall;refine Out.mono hcall (λr w' hr=> ?_) (λch w' hp=> ?_)
  ·obtain⟨E2,sv,m2,nx2,q1,_,q3,q4,q5⟩:=hr;cases sv with
   | none=>exact q5.elim
   | some v =>
     have q5:(c.fit x v m2 nx2).holds:=q5;obtain⟨y,hy,q5⟩:=q5;have hKy:=hK y hy;obtain⟨ren2,_,g1,gv⟩:=rZ q5;split at hKy
     rotate_left
     ·exact hKy.elim
     rename_i ok3;obtain⟨ren3,gl2,_,g34⟩:=lW g1;obtain⟨g3,g4⟩:=g34 ren3 (Ren.le_refl _);have hs3:=q4.asJ (n:=c.N) (N:=c.H) hΓ ok1 g3 g4 (λkh B' hg=>KA ok3 hg);have hlow3: ∀ k,k<c.N->Ren.E c.N ren3 E2 k=E k:=λk hk=>(Ren.Lr hk).trans ((q1 k (c_ hk ok1)).trans (hlow k hk));obtain⟨hρ,hfin⟩:=hs3.aB7 (Δ:=Δ) (E:=E) (N:=c.N) (nx:=nx) rfl rfl rfl hs.cx.1 hs.cx.2 hN hlow3;refine⟨_,I ((c.val x).ak8 (pE c.N nx)),_,_,λk hk=> ?_,f_ _ _,λu hu=> ?_,hfin,hKy⟩
     ·unfold sC;rw[o_ hk]
     ·cases hu;rw[SV.abd,show(λk=>sC nx E (Ren.E c.N ren3 E2) (pE c.N nx k))=Ren.E c.N ren3 E2 from funext hρ,q3 v rfl]
      have:=gv ren3 E2 gl2;simp only[SV.vals,List.cons.injEq,and_true] at this;exact this.symm
  ·obtain⟨_,_,_,_,_,_,_,_,_,hno⟩:=hp;exact hno.elim
 ·exact hh.elim
def recC (f:FuncId)(pt:PT):oV:=⟨λenv KP c=>match c with
 | .yield k=>(match env.find k with
   | some pt=>pt
   | none=>λ_ _ _ _=>.fail "a yield that is not known")
 | .panic=>raise KP
 | .fn g=>(match bf g f with
   | true=>pt
   | false=>λ_ _ _ _=>.fail "another function"),λ_=>F⟩
theorem avI {f:FuncId}{pt:PT}(hm:bC pt)(h: ∀ KP,Ao P Γ KP (.fn f) pt):D3 P (recC f pt) Γ.le:=by
 refine⟨λenv he KP c=> ?_,λenv he KP KP' hK c args m nx K h=> ?_,λ{Γ' Δ} h h'=>b5.le_trans h h',λΔ hle env hem he KP c=> ?_,λg hg=>by cases hg⟩
 ·cases c with
  | yield k =>
    show bC (match env.find k with
     | some pt=>pt
     | none=>λ_ _ _ _=>.fail "a yield that is not known")
    split
    ·rename_i pt hp;exact he _ (Env.Hz hp)
    ·exact λargs m nx K K' _ h=>h.elim
  | panic=>exact λargs m nx K K' _ h=>h
  | fn g =>
    show bC (match bf g f with
     | true=>pt
     | false=>λ_ _ _ _=>.fail "another function")
    split
    ·exact hm
    ·exact λargs m nx K K' _ h=>h.elim
 ·cases c with
  | yield k=>exact h
  | panic =>
    show(raise KP' args m nx K).holds;have h:(raise KP args m nx K).holds:=h;unfold raise at h ⊢;split at h
    ·split at h
     ·exact hK _ _ _ h
     ·exact h
    ·exact h
  | fn g=>exact h
 ·cases c with
  | yield k =>
    show Ao P Δ KP (.yield k) (match env.find k with
     | some pt=>pt
     | none=>λ_ _ _ _=>.fail "a yield that is not known")
    split
    ·rename_i pt hp;exact he _ (Env.Hz hp) KP
    ·exact λΔ _ args m nx K h=>h.elim
  | panic=>exact Qs
  | fn g =>
    show Ao P Δ KP (.fn g) (match bf g f with
     | true=>pt
     | false=>λ_ _ _ _=>.fail "another function")
    split
    ·rename_i hg;obtain rfl:=c8 hg;exact(h KP).mono hle
    ·exact λΔ _ args m nx K h=>h.elim
theorem ar5 (hmix:P.follows .mixedOrders=C){f:FuncId}{fn:Func}(hf:P.funcs[f]?=I fn) (hname:(fn.name== "runtime.NumGoroutine")=F) {kl N:Nat} {cy:vV} {ct:Nat->vV} {Γ:b5} (hΓ:Γ.E9<=N)
  (hy: ∀ KP,Ao P Γ KP (.yield kl) (tU cy)) (hN: ∀ d,(ct d).N=N) (h0: ∀ x,¬ (ct 0).pre x) {n:Nat}
  (h: ∀ d x,(ct (d+1)).pre x->(ct (d+1)).ok x=C->∃ bU,au (lZ P (recC f (tU (ct d))) [(kl,tU cy)] Ny bU n fn ((ct (d+1)).args x) ((ct (d+1)).mem x) (ct (d+1)).H ((ct (d+1)).fit x))) :
  ∀ d KP,Ao P Γ KP (.fn f) (tU (ct d))
 | 0,KP=>λΔ _ args m nx K hh=>by obtain⟨x,hpre,_⟩:=hh;exact(h0 x hpre).elim
 | d+1,KP=>by
   have ih:=ar5 hmix hf hname hΓ hy hN h0 h d;intro Δ hle args m nx K hh;obtain⟨x,hpre,hh⟩:=hh;have hh':=hh;have hpre':(ct (d+1)).pre x:=hpre;by_cases hok:(ct (d+1)).ok x=C
   ·obtain⟨A,hA⟩:=h d x hpre' hok;let c1:vV:={ct (d+1)with pre:=λy=>y=x}
    have hfix:Ao P Γ KP (.fn f) (tU c1):=aob (c:=c1) (run:=lZ P (recC f (tU (ct d))) [(kl,tU cy)] Ny A n fn) (by rw[show c1.N=(ct (d+1)).N from rfl,hN];exact hΓ) (λ_ _ _=>rfl)
     (QS hmix (avI (Gc _) ih) (λp hp=>by rcases c6.1 hp with e | hp;subst e;exact Gc _;cases hp) (b5.le_refl _) (λp hp KP=>by rcases c6.1 hp with e | hp;subst e;exact hy KP;cases hp) hf hname)
     (λy hy _=>by have hy:y=x:=hy;rw[hy];exact hA)
    exact hfix Δ hle args m nx K ⟨x,rfl,hh'⟩
   ·exfalso;have hok:(ct (d+1)).ok x=false:=by simpa using hok
    have hh:VC.holds (match ay (ct (d+1)).N nx,(ct (d+1)).ok x with
     | true,C=>_
     | _,_=>.fail "call: keys"):=hh
    rw[hok] at hh;cases hb:ay (ct (d+1)).N nx<;>(rw[hb] at hh;exact hh)
def agE (N:Nat)(cy ct:vV):Env->PT:=λenv args m nx K=>match env,bf nx N with
 | (_,Y)::_,C=>.and (.all cy.G λx=>.imp (cy.pre x) (match cy.ok x with
   | true=>Y (cy.args x) (cy.mem x) cy.H (cy.fit x)
   | false=>.tt)) (tU ct args m nx K)
 | _,_=>.fail "a range: keys"
theorem adF (N:Nat)(cy ct:vV)(env:Env):bC (agE N cy ct env):=by
 intro args m nx K K' hK h;unfold agE at h ⊢;split at h
 ·exact⟨h.1,Gc ct _ _ _ _ _ hK h.2⟩
 ·exact h.elim
def YJ (kl N:Nat)(cy ct:Loop->vV):Env->PT:=λenv args m nx K=>match env,m.get kl with
 | (k,_)::_,I (.loop .ready O R)=>(match bf k kl with
   | true=>agE N (cy R) (ct R) env args m nx K
   | false=>.fail "a range: another key")
 | _,_=>.fail "a range: no yield"
theorem aoM (hmix:P.follows .mixedOrders=C){f:FuncId}{fn:Func}(hf:P.funcs[f]?=I fn) (hname:(fn.name== "runtime.NumGoroutine")=F) {kl D:Nat} {cy:Loop->vV} {ct:Loop->Nat->vV} (hkl:kl<N) (hcy: ∀ R,(cy R).N=N)
  (hN: ∀ R d,(ct R d).N=N) (h0: ∀ R x,¬ (ct R 0).pre x)
  (h: ∀ R d x,(ct R (d+1)).pre x->(ct R (d+1)).ok x=C->∃ bU,au (lZ P (recC f (tU (ct R d))) [(kl,tU (cy R))] Ny bU n fn ((ct R (d+1)).args x) ((ct R (d+1)).mem x) (ct R (d+1)).H ((ct R (d+1)).fit x))) :
  UY P f (YJ kl N cy (λR=>ct R D)):=by
 refine⟨λenv he args m nx K K' hK hh=> ?_,λΓ env hem he KP Δ hle args m nx K hh hwf hargs E w hs=> ?_⟩
 ·unfold YJ at hh ⊢;split at hh
  ·split at hh
   ·exact adF _ _ _ _ _ _ _ _ _ hK hh
   ·exact hh.elim
  ·exact hh.elim
 ·unfold YJ at hh;split at hh
  ·rename_i k Y r R _;split at hh
   ·rename_i hk;obtain rfl:=c8 hk;unfold agE at hh;split at hh
    ·rename_i k' Y' r' heq hnx;injection heq with e1 e2;injection e1 with e3 e4;subst e4;have hnx:nx=N:=c8 hnx;have hΔ:Δ.E9<=N:=hnx▸ hs.cx.1;have hY: ∀ KP,Ao P Δ KP (.yield k) Y:=λKP=>(he (k,Y) (a! ..) KP).mono hle;have hy: ∀ KP,Ao P Δ KP (.yield k) (tU (cy R)):=λKP=>aob (by rw[hcy R];exact hΔ) (λE E' hE=>funext λargs=>by
      show Instr.yield (E' k) args=Instr.yield (E k) args;rw[hE k (by rw[hcy R];exact hkl)]) (hY Ny) (λx hx hok=>⟨by
      have:=hh.1 x hx;rw[hok] at this;exact this⟩)
     exact ar5 hmix hf hname hΔ hy (hN R) (h0 R) (h R) D KP Δ Δ.le_refl args m nx K hh.2 hwf hargs E w hs
    ·exact hh.elim
   ·exact hh.elim
  ·exact hh.elim
end
end
end Sx
end Go.Proofs.YtoibaecagklkaaaGreatDoor
