/- A part of the proof. -/
import Derived.Test.YtoibaecagklkaaaGreatDoorMw
open Bool renaming false->D,true->C
open Go.Proofs.Tryz renaming f132->cL,f84->Y,func84->c4,prog->O
open List renaming append_assoc->c5,append_nil->an,foldl_cons->ay,getD_eq_getElem?_getD->a_,getElem?_eq_getElem->a!,getElem_of_mem->bl,length->Q,length_append->bn,length_map->b_,map->c6,mem_append->b!,mem_append_left->c7,mem_append_right->cl,mem_cons->ct,mem_cons_of_mem->T,mem_cons_self->M,mem_flatMap->Z,mem_map->c8,mem_range->ag,mem_singleton->c_,nil->H,nil_append->W,range->I
open Nat renaming add_assoc->c!,le_refl->J,lt_irrefl->d_,lt_succ_self->d!,not_lt_zero->cx,succ_pos->cy,zero_add->cB
open Option renaming isSome->ef,none->X,some->F
namespace Go.Proofs.YtoibaecagklkaaaGreatDoor
open Go Sx
variable {L:List h_}{fr t:h_}{m n:Nat}{f g:Nat->h_}{w:Sp}
section
open Go Sx
set_option maxRecDepth 20000
attribute [local irreducible] ax ck ga af c9 aH e9 WE Ej zj num Pp.put Pp.ok
end
section
open Go Sx
set_option maxRecDepth 20000
attribute [local irreducible] ax ck ga af c9 aH e9
end
section
open Go Sx
set_option maxRecDepth 20000
section
attribute [local irreducible] bg bM getD cS cH af DW ak
end
end
section
open Go Sx
set_option maxRecDepth 20000
def Pp.few (x:Pp):Bool:=aCb x.n x.f&&decide ((x.root.length:Int)<=50)&&decide ((x.key.length:Int)<=50)&&decide ((x.to.length:Int)<=50)
def Pp.sp (x:Pp)(z:Bool)(o c:Nat):Sp:=⟨x.key,x.to,x.n,x.f,z,o,c,λ_=>D,λ_=>0⟩
theorem aa.entry {a b:h_}{ty:TypeId}{tot:Nat}(ht:tot=2):aa (.cells [.str D a,.str D b] 2 ty) (.rows C [(a,b)].length [nj [(a,b)],nk [(a,b)]] D tot ty):=by
 subst ht;refine aa.of rfl rfl λ_=>⟨rfl,λE o ⟨c,fr,h1,h2,h3,h4⟩=>⟨c,fr,h1,λ_=>h2,by rw[h4];exact J _,h4,λi k col hi hk=> ?_⟩,id⟩
 have hi:i<1:=hi;obtain rfl:i=0:=by omega
 match k,hk with
 | 0,hk=>cases hk;exact h3 0 _ rfl
 | 1,hk=>cases hk;exact h3 1 _ rfl
section
attribute [local irreducible] sk Xx Pp.ok ak
end
def Sp.put (w:Sp)(z:Bool)(o c:Nat):Sp:={w with z:=z,o:=o,c:=c}
end
section
open Go Sx
set_option maxRecDepth 20000
def Cj (w:Sp):Bool:=(I w.n).all λi=>bM (w.f i)
def Na (w:Sp):Option Wk:=bif Cj w then qy w.full 401 (Wk.start.take w.full (bg (w.f 0))) (getD (w.f 0)) [] else X
structure atX (w:Sp):Prop where
 n0:0<w.n
 n:w.n<=200
 f: ∀ i,i<w.n->(w.f i).length<=1000
 fr:w.fr.length<=1000
 to:w.to.length<=1000
structure XC (w:Sp)(b:Bool)(y:Wk×Nat×Nat):Prop where
 s:b=C->Na w=F y.1
 c1:y.1.ns.length<=y.2.1
 c2:y.1.fs.length<=y.2.2
 bd:y.1.Bd 100000
def abU:mg :=
 {G:=Sp,n:=1,N:=3,pre:=atX,args:=λw=>[.str D w.fr,.str D w.to,.cT 0 1 w.z w.o 0 w.n w.c],mem:=λw=>[(0,w.view)],
  Fg:=λw=>.fork (Na w).isSome λb=>match b with
   | true=>.all (Wk×Nat×Nat) λy=>.req (XC w C y) (.ret (.dr [.bY 1 2 C 0 y.1.fs.length y.2.2,.bY 2 1 C 0 y.1.ns.length y.2.1,.bool C C]) [(1,kD y.1 y.2.2),(2,mQ y.1 y.2.1)])
   | false=>.all (Wk×Nat×Nat) λy=>.req (XC w D y) (.ret (.dr [.bY 1 2 C 0 y.1.fs.length y.2.2,.bY 2 1 C 0 y.1.ns.length y.2.1,.bool C D]) [(1,kD y.1 y.2.2),(2,mQ y.1 y.2.1)])}
noncomputable def auf (w:Sp):aN :=
 {α:=Nat×Nat,pre:=λ_ y=>y.1<=w.n/\y.1<=y.2/\∀ i,i<y.1->bM (w.f i)=C,nF:=λ_ y=>w.n-y.1,fresh:=1,slots:=λ_ y=>[(10,.int .i64 D y.1)],
  mem:=λst y=>[(By st 9,.cells [.str D w.fr,.str D w.to,.cT 0 1 w.z w.o 0 w.n w.c,.bY st.nx 1 C 0 y.1 y.2,.bW,.bW,.int .i64 C 0,.bool C D] 8 155),(st.nx,.rows C y.1 [.str λi=>bg (w.f i)] D (y.2*1) 9)]}
noncomputable def ao9:List (FuncId×PT):=(91,dI (O3 401))::ad5
noncomputable def anC (w:Sp):iG:={bQ with cO:=λf=>av f ao9,bU:=λf=>if f=52 then [(3,always (auf w))] else []}
section
variable (n m : Nat) (f : Nat × Nat) (h : Nd) (x : Bt) (y : Lk × h_) (z : Sp) (o : Wk) (g : h_ × h_) (A : Wk × Bool × Nat × Nat) (B : Wk × Nat × Nat)
abbrev WQ:=x.g.s.fs
abbrev o6:=x.g.w
abbrev Ca:=x.g.s
abbrev PI:=x.x.p
abbrev kN:=y.1.w
abbrev LU:=x.x.v
abbrev wT:=bg (z.f n)
abbrev aac:=cY f.1 (aF f.2) (λa=>wT a z) 9
abbrev TG:=getD (z.f 0)
abbrev zL:=x.g.c1
abbrev zM:=x.g.c2
abbrev Dj:=x.g.hc
abbrev Dr:=y.1.c2
abbrev ahG:=cQ z.o (0<z.n)
abbrev axr:=Pl.s 2 (gV (iE (gV vB) vB (pW 0 (A3 (Pl.s 3 (gV (iE (gV vB) vB (uS (jh 0 (wI (wI (wI (oe (uS Pl.k) (uS Pl.k))))))))))))))
abbrev Dt:=Q (WQ x)
abbrev DI:=(o6 x).z
abbrev yJ:=(o6 x).n
abbrev aiw:=gD (λa=>(ov a (qa y)).1) (λa=>(ov a (qa y)).2)
abbrev C9:=List.getD o.fs n g
abbrev aqO:=cv (cD A.1) (bG A.2.2.2) (kD B.1 B.2.2) 50 (gD (λa=>(C9 a A.1 (H,H)).1) (λa=>(C9 a A.1 (H,H)).2))/\eZ (cm A.1) (aF A.2.2.1) (λa=>lT a A.1) (mQ B.1 B.2.1) 9
abbrev aqL:=cK ([]=x.p) (aa (Io z) (SB.view (DI x) (o6 x).o (yJ x) (bJ (o6 x).f H))) (eZ (kN y).n (aF y.1.hc) (λa=>wT a (kN y)) (Lk.hs x.g) 9) (cv (cD (qa y)) (bG (Dr y)) (kD (Ca x) (zM x)) 50 (aiw y)) (eZ (Q (aeO y)) (aF n) (λa=>aU a (aeO y)) (mQ (Ca x) (zL x)) 9) (∀(a:Wk×Bool×Nat×Nat),Bt.Post 401 x a->Bk (ef (Na z)) (∃(b:Wk×Nat×Nat),aC (XC z C b) (aK (cD a.1) (cD b.1) a.2.2.2 b.2.2) (aK (cm a.1) (cm b.1) a.2.2.1 b.2.1) (aV (not a.2.1)) (aqO a b)) (∃(b:Wk×Nat×Nat),aC (XC z D b) (aK (cD a.1) (cD b.1) a.2.2.2 b.2.2) (aK (cm a.1) (cm b.1) a.2.2.1 b.2.1) (not a.2.1=D) (aqO a b)))
abbrev oL:=yJ x
abbrev FG:=eX (Ca x)
abbrev FH:=cm (Ca x)
abbrev aaH:=SB.view (kN y).z (kN y).o (kN y).n (bJ (kN y).f H)
abbrev IL:=cD (qa y)
abbrev IM:=(o6 x).o
abbrev FM:=(kN y).n
abbrev zX:=(o6 x).fr
abbrev zY:=(o6 x).to
abbrev aie:=aj (f.1<=z.n) (nS f) (∀(a:Nat),a<f.1->aV (bM (z.f a)))
abbrev IV:=x.g.b
abbrev aaV:=az ((kN y).z=DI x) ((kN y).o=IM x) (FM y=oL x) (rL (kN y) (o6 x))
abbrev arK:=az (z.z=(kN y).z) (z.o=(kN y).o) (z.n=FM y) (rL z (kN y))
abbrev aa3:=aK (FM y) (oL x) y.1.hc (Dj x)
abbrev aa4:=Lk.atT y.1/\x7 y<=1000000
abbrev lR:=x.x.r n
abbrev gq:=h.r n=lR m x
abbrev oz:=[]=lR n x
abbrev oC:=gq n m (TG z) x
end
theorem awA (w:Sp):dw (iE (oy 0 3 PZ) (jQ 2 (jh 8 (m4 3 2 PZ)) MA) (jQ 2 axr axr)) (runM (anC w) 52 Tryz.f52 abU w) ((fun(a:Nat×Nat->SB)=>(fun(b:SB)=>(∃(a:Nat×Nat),az (aie a w) (mL a) (a.1=0) (fo (aac a w)))/\(∀(c:Nat×Nat),aie c w->aM (eD c) (BK w) (az (Ix (eD c) (BK w)) (cQ w.o (fZ c<w.n)) (uN (w.f (fZ c))/\bS (w.f (fZ c))) (Bk (bM (w.f (fZ c))) (cI (Ix (eD c) (BK w)) (cQ w.o (fZ c<w.n)) (dA (w.f (fZ c))) (dB (a c)) (dB (a c)) (LR c) (∀(a:Nat),cN (jc c) a (kP c) (∃(b:Nat×Nat),cM (aie b w) (aP w.n b.1 w.n c.1) (j8 c b) (DB a c b) (eZ (jc c) (aF a) (λa=>dg a c.1 a c.1 (wT a w) (wT (fZ c) w)) (aac b w) 9)))) (Bk (ef (Na w)) (∃(a:Wk×Nat×Nat),hJ (XC w C a)) (∃(a:Wk×Nat×Nat),aC (XC w D a) (cD a.1=0) (cm a.1=0) (fo (kD a.1 a.2.2)) (fo (mQ a.1 a.2.1)))))) (az (Ix 0 (BK w)) (ahG w) (uN (w.f 0)/\bS (w.f 0)) (Bk (bM (w.f 0)) (aj (Ix 0 (BK w)) (ahG w) (∃(a:Lk×h_),cI (aa4 a) (w.fr=(kN a).fr) (w.to=(kN a).to) (arK a w) (aK c.1 (FM a) c.2 a.1.hc) (IL a=0) (aT (x7 a=0) (0=eX (qa a)) (D=a.1.b) (w.f 0=a.2) (aa (Io w) (aaH a)) (aa (aac c w) (Lk.hs a.1)) (fo (kD (qa a) (Dr a))) (fo (mQ (qa a) a.1.c1)) (∀(b:Nat),cN (xg a) b (dB (nJ (kq (TG w)) 138)) (∃(c:Bt),aC (Bt.Pre 401 c) ((kN a).fr=zX c) ((kN a).to=zY c) (aaV c a) (aT (aa3 c a) (aK (IL a) (Dt c) (Dr a) (zM c)) (aK (xg a) (FH c) b (zL c)) (eX (qa a)=FG c) (a.1.b=IV c) (qx (TG w) c.x) ((TG w).p=PI c) ((TG w).v=LU c) (aT (oC 0 0 c w) (oC 1 1 c w) (oC 2 2 c w) (oC 3 3 c w) (oC 4 4 c w) (oC 5 5 c w) (oC 6 6 c w) (oC 7 7 c w) (aT (oC 8 8 c w) (oC 9 9 c w) (oC 10 10 c w) (oC 11 11 c w) (oC 12 12 c w) (oC 13 13 c w) (oC 14 14 c w) (oC 15 15 c w) (aqL b c a w))))))))) (aj (Ix 0 (BK w)) (ahG w) (∃(a:Lk×h_),cI (aa4 a) (w.fr=(kN a).fr) (w.to=(kN a).to) (arK a w) (aK c.1 (FM a) c.2 a.1.hc) (IL a=0) (aT (x7 a=0) (0=eX (qa a)) (D=a.1.b) (w.f 0=a.2) (aa (Io w) (aaH a)) (aa (aac c w) (Lk.hs a.1)) (fo (kD (qa a) (Dr a))) (fo (mQ (qa a) a.1.c1)) (∀(c:Nat),cN (xg a) c (gG b) (∃(b:Bt),aC (Bt.Pre 401 b) ((kN a).fr=zX b) ((kN a).to=zY b) (aaV b a) (aT (aa3 b a) (aK (IL a) (Dt b) (Dr a) (zM b)) (aK (xg a) (FH b) c (zL b)) (eX (qa a)=FG b) (a.1.b=IV b) (0=b.x.k) ([]=PI b) ([]=LU b) (aT (oz 0 b) (oz 1 b) (oz 2 b) (oz 3 b) (oz 4 b) (oz 5 b) (oz 6 b) (oz 7 b) (aT (oz 8 b) (oz 9 b) (oz 10 b) (oz 11 b) (oz 12 b) (oz 13 b) (oz 14 b) (oz 15 b) (aqL c b a w))))))))))))) (eY 19 (bq 0) (fu::fu::fu::tu) 138)) (λa=>eY 8 (aA w.fr) (aA w.to::SV.cT 0 1 w.z w.o 0 w.n w.c::fz (dh 2 1 a.1 a.2) SV.bW SV.bW (bq 0) nu) 155)):=⟨by kernel_rfl,by kernel_rfl⟩
section
attribute [local irreducible] bM getD cS cH af gF
theorem QW {x:D4×h_}(hw:XA x.1.w x.1.y)(hs:x.1.s.Small)(hc:x.1.s.ns.length<=x.1.c1/\x.1.s.fs.length<=x.1.c2)(ht:x.2.length<9223372036854775808) :
  au (runM af0 132 cL Aa x):=by
 refine au.xD (afB x) (by delta Bk NI fu aF eC bF bq aj bH aC az gK aA fz dy cW aY aD bN bJ cY br cK fF aT ff aG aU kO tu lI hJ yC ur rJ rG C2 vC zH lp cD eO eX gy jK bG mD gz gu jY ahj gD jg aK cm wU jG tq th ak2 kU lF w9 vj uq oK mK Du T1 Qc Mm Uk IX vi oI P6 IF BS DF BW BX aiv aiz aa2 C6;exact rfl) ?_;obtain⟨⟨w,s,c1,c2,y,room⟩,t⟩:=x;dsimp only at hw hs hc ht ⊢;have hr:Rel 9223372036854775808 t:=⟨.inl ht,ht⟩
 have ez:=atW.zero;refine⟨hr,λh1=>⟨(c1,c2),hc,λ_=>rfl,rfl,rfl,aa.refl _,aa.refl _⟩,λh1=>⟨ht,λh2=>⟨(⟨w,s,c1,c2,y,room⟩,af t),⟨hw,hs,hc,trivial⟩,rfl,rfl,rfl,⟨rfl,rfl⟩,rfl,⟨rfl,rfl⟩,aa.refl _,aa.refl _,aa.refl _,rfl,aa.refl _,aa.refl _,λh3 c hc=>⟨λ_=>⟨c,hc,λ_=>rfl,rfl,rfl,⟨rfl,rfl⟩,rfl,⟨rfl,rfl⟩,aa.refl _,aa.refl _,aa.refl _,aa.refl _,aa.refl _⟩,λh4=> ?_⟩,λh3 c=>⟨λh4=> ?_,λh4=>⟨c,ez,aa.refl _⟩⟩⟩,λh2=>⟨(_,_),ez,xS⟩⟩⟩
 ·rw[show gF w (af t)=C from h3] at h4;cases h4
 ·rw[show gF w (af t)=D from h3] at h4;cases h4
end
theorem abp:aq O 132 (dI Aa) :=jT (n:=20) Tryz.func132 (by kernel_rfl) (by kernel_rfl) Aa λx hx=>⟨af0,ayy,rfl,QW hx.1 hx.2.1 hx.2.2.1 hx.2.2.2⟩
end
section
open Go Sx
set_option maxRecDepth 20000
def ML (m:Nat):mg:=sbC (Nd×h_) (λy=>[y.1.sv,.str D y.2]) (λg y=>g.s.Fit (g.s.lk+1)/\401<=g.s.lk+m/\y.1.xJ/\y.2.length<=13*g.s.lk) λg y=>.fork (lX g.w m g.s y.1 y.2) λb=>match b with
 | true=>az6 .cj g (nO g.w m g.s y.1 y.2)
 | false=>afa λv=>v
def auU (g:D4)(x:Nd)(p:h_):aN :={α:=Nat,pre:=λ_ c2=>(g.s.p4 g.w x p).fs.length<=c2,nF:=λ_ _=>0,fresh:=1,slots:=λ_ _=>[],mem:=λst c2=>[(0,awQ g.w (g.s.p4 g.w x p) 2 st.nx g.c1 c2),(st.nx,kD (g.s.p4 g.w x p) c2)],drop:=λ_=>[3]}
def axR (m:Nat)(g:D4)(x:Nd)(p:h_):aN :=
 {α:=Nat×Wk×Nat×Nat,pre:=λ_ y=>y.1<=16/\eE g.w (qy g.w m) x p y.1 (g.s.p4 g.w x p)=F y.2.1/\y.2.1.ns.length<=y.2.2.1/\y.2.1.fs.length<=y.2.2.2,nF:=λ_ y=>16-y.1,fresh:=2,slots:=λ_ y=>[(10,.int .i64 D y.1)],
  mem:=λst y=>[(0,awQ g.w y.2.1 st.nx (st.nx+1) y.2.2.1 y.2.2.2),(1,Nb y.2.1),(st.nx,mQ y.2.1 y.2.2.1),(st.nx+1,kD y.2.1 y.2.2.2)],drop:=ai0}
noncomputable def V1 (m:Nat):List (FuncId×PT):=(84,dI (ML m))::(132,dI Aa)::(43,aI Np)::(42,aI EB)::(130,bZ wz)::adS
noncomputable def anB (m:Nat)(g:D4)(x:Nd)(p:h_):iG:={bQ with cO:=λf=>av f (V1 m),bU:=λf=>if f=171 then [(1,always (axR m g x p)),(105007,YM x p)] else if f=84 then [(104009,always (auU g x p))] else []}
section
variable (n m : Nat) (z : Nat × Nat) (h : Nd) (x A : D4 × Nd × h_) (o : D4 × h_) (y : Nat × Wk × Nat × Nat) (f g : Nat × Wk × Nat × Nat-> SB)
abbrev uT:=x.1.s
abbrev Da:=x.1.room
abbrev x9:=x.1.w
abbrev aaP:=iO.ref 6 x.1.y.g
abbrev aiJ:=SB.fmap (x9 x).ad (aaP x) X
abbrev IP:=x.1.y
abbrev arR:=SB.sy (tq (IP x)) (bJ (th (IP x)) H) 4 133 C
abbrev zR:=nO x.1.w n (uT x) x.2.1 x.2.2
abbrev az0:=k9 (cv (cD o.1.s) (bG z.2) (kD (uT x) x.1.c2) 50 (gD (λa=>(C9 a o.1.s (H,H)).1) (λa=>(C9 a o.1.s (H,H)).2))) (DF o=Da x) (aa (jG 6 o.1.w.ad o.1.y.g) (aiJ x)) (Bk (lX (x9 x) n (uT x) x.2.1 x.2.2) (∀(a:Nat×Nat),fF (cm (zR n x)) a.1 (cD (zR n x)) a.2->jk (NI y.1) (∃(b:Nat×Wk×Nat×Nat),cM (az (b.1<=16) (eE (x9 A) (qy (x9 A) n) A.2.1 A.2.2 b.1 (Wk.p4 (x9 A) (uT A) A.2.1 A.2.2)=F b.2.1) (cm b.2.1<=b.2.2.1) (cD b.2.1<=b.2.2.2)) (aP 16 b.1 16 y.1) (bt (NI y.1) (NI b.1)) ((x9 x).fr=(x9 A).fr) (aT ((x9 x).to=(x9 A).to) (aK (cm (zR n x)) (cm b.2.1) a.1 b.2.2.1) (eX (zR n x)=eX b.2.1) (aK (cD (zR n x)) (cD b.2.1) a.2 b.2.2.2) (gy (eO (zR n x).ud (zR n x).us) b.2.1) (eZ (cm (zR n x)) (aF a.1) (λa=>lT a (zR n x)) (mQ b.2.1 b.2.2.1) 9) (cv (cD (zR n x)) (bG a.2) (kD b.2.1 b.2.2.2) 50 (gD (λa=>(C9 a (zR n x) (H,H)).1) (λa=>(C9 a (zR n x) (H,H)).2))) (bH 2 (pg (Da A) 5) (eC (bF (Da x)) (SV.map 5)) 126) (aa (aiJ x) (aiJ A))))) (∀(a:h_×h_),Bk (lX (x9 A) (aB n) (uT A) A.2.1 A.2.2) (∃(a:Nat×Nat),aD (cm (nO (x9 A) (aB n) (uT A) A.2.1 A.2.2)<=a.1) (cD (nO (x9 A) (aB n) (uT A) A.2.1 A.2.2)<=a.2) False) (∃(b:h_×h_),bH 2 (SB.cells (eC (aA b.1) (aA b.2)) 2 207) (eC (aA a.1) (aA a.2)) 207))) (arR A) (C6 (IP x))
abbrev avC:List (h_×h_):=if aV (p5 (x9 x) x.2.1 x.2.2)then(uT x).fs++[(cC (cat x.2.2 x.2.1.p),x.2.1.v)] else(uT x).fs
abbrev qf:=uT x
abbrev Cb:=x.1.w
abbrev jP:=x.2.1
abbrev pJ:=x.2.2
abbrev Dm:=x.1.c2
abbrev zN:=x.1.c1
abbrev Mz:=Q (avC x)
abbrev aa1:=Wk.p4 (Cb x) (qf x) (jP x) (pJ x)
abbrev ahJ:=∃(a:Nat),az (Mz x<=a) (bt (eX (qf x)) (rH (qf x).lk)) (aK (cD (qf x)) (Mz x) (Dm x) a) (cv (cD (qf x)) (bG (Dm x)) (kD (aa1 x) a) 50 (jK (qf x).fs (qf x).fs))
abbrev aqN:=jk (lH y) (∃(a:Nat×Wk×Nat×Nat),cM (aj (a.1<=16) (eE (Cb x) (qy (Cb x) n) (jP x) (pJ x) a.1 (aa1 x)=F (kW a)) (arL a)) (PY a y) (bt (lH y) (lH a)) (aK (uf y) (uf a) (BC y).1 (BC a).1) (aC (eX (kW y)=eX (kW a)) (aK (ue y) (ue a) (BC y).2 (BC a).2) (gy (eO (kW y).ud (kW y).us) (kW a)) (gu (BC a).1 (f y) (kW a)) (gz (BC a).2 (g y) (kW a))))
abbrev rS:=cD (qf x)
abbrev IA:=nO (Cb x) (aB n) (qf x) (jP x) (pJ x)
abbrev ow:=(jP x).r n
abbrev aqR:=l9 (dS (ow 0 x) (ow 1 x) (ow 2 x) (ow 3 x) (ow 4 x) (ow 5 x) (ow 6 x) (ow 7 x) (dS (ow 8 x) (ow 9 x) (ow 10 x) (ow 11 x) (ow 12 x) (ow 13 x) (ow 14 x) (ow 15 x) H)) (Int.toNat (lH y))
abbrev aqS:=aj (y.1<=16) (eE (Cb x) (qy (Cb x) n) (jP x) (pJ x) y.1 (aa1 x)=F (kW y)) (arL y)
abbrev Dw:=(qf x).lk
abbrev FI:=cm (qf x)
abbrev Ms:=cat (pJ x) (jP x).p
abbrev ah6:=lX (Cb x) (aB n) (qf x) (jP x) (pJ x)
abbrev aia:=dB (eY 1 (rK 0 0) H 82)
abbrev axu:=jW (A3 (wI (wI (dJ (gV (m4 0 0 (oe vB (pW 0 (dJ (gV (oe (oy 1 0 (gV (m4 0 0 (oe vB (pW 0 (Pl.s 6 Mg)))))) BI)))))))))))
abbrev arz:=cI (XA (Cb x) (IP x)) (Wk.Small (qf x)) (fF (FI x) (zN x) (rS x) (Dm x)) (Wk.Fit (qf x) (aB (Dw x))) (401<=Dw x+n) (Nd.xJ (jP x)) (fk (13*Dw x) (pJ x))
abbrev air:=fF (cm (IA n x)) z.1 (cD (IA n x)) z.2
abbrev IZ:=NI (Dw x)
abbrev aiN:=Pl.n vB (dJ (oe vB (dJ Qm)))
abbrev ar0:=∀(a:h_×h_),Bk (ah6 n x) (∃(a:Nat×Nat),hJ (air n a x)) (∃(b:h_×h_),aa (vC a) (vC b))
abbrev dn:=h.r n=(jP x).r m
abbrev wQ:=(Cb x).fr
abbrev wS:=(Cb x).to
end
theorem ab5 (m:Nat)(x:D4×Nd×h_):dw (Pl.n BI (dJ (iE (rF 0 6 (rF 0 6 (wP 0 12 6 qe qe) qe) qe) (oy 0 3 aiN) (wO (jQ 0 (oy 1 3 aiN) (jQ 0 (Pl.n (jh 1 MA) (jh 0 MA)) (jQ 0 (oy 2 0 (gV (m4 0 0 (oe vB (pW 0 (pW 0 (iE axu (Pl.n axu BI) BI))))))) (oy 1 3 aiN)))) (Pl.s 4 aiN))))) (runM (anB m x.1 x.2.1 x.2.2) 84 Y (ML (m+1)) x) ((fun(a:D4×h_->Nd)=>(fun(b:Nat×Wk×Nat×Nat->SB)=>(fun(c:Nat×Wk×Nat×Nat->SB)=>(fun(d:SB)=>dM 400 (IZ x) (Bk (ah6 m x) (∃(a:Nat×Nat),hJ (air m a x)) (∃(a:h_×h_),bH 2 (vC a) (eC ahk fu) 207)) (aj (dD (IZ x)) (cE (fQ (bx (pJ x)+bx (jP x).p)) (aY (gd (wQ x)/\gd (wS x)) (aY (bS (Ms x)) (aC (gG d) aia aia (gL (rS x) (rS x) 2 (rS x) 32 (rS x)) (∀(a:Nat),cN (aB (rS x)) a aia (∃(b:Nat),az (Mz x<=b) (bt (IZ x) (rH (Dw x))) (aK (aB (rS x)) (Mz x) a b) (cv (aB (rS x)) (bG a) (kD (aa1 x) b) 50 (gD (λa=>dg a (rS x) a (rS x) (ov a (qf x)).1 (cC (Ms x))) (λa=>dg a (rS x) a (rS x) (ov a (qf x)).2 (jP x).v)))))) (ahJ x) (oZ (Ms x))) (ahJ x) (hasB (wQ x) (wS x) (Ms x))) (ahJ x) (decide ((jP x).v=[]))) (∀(d:Nat),aJ (Mz x) d (∀(_:Loop),(∃(a:Nat×Wk×Nat×Nat),az (aqS m x a) (0=lH a) (aK (FI x) (uf a) (zN x) (uw a)) (aC (rH (Dw x)=x8 a) (aK (Mz x) (ue a) d (ux a)) (gy (eO (qf x).ud (qf x).us) (kW a)) (cv (FI x) (aF (zN x)) (BR a) 9 [wU (qf x)]) (cv (Mz x) (bG d) (BQ a) 50 (jK (avC x) (avC x)))))/\(∀(d:Nat×Wk×Nat×Nat),aqS m x d->aM (lH d) 16 (ail d/\ja (aqR x d) (aqN m x d c b) (aj (fQ (bx (pJ x)+bx (jP x).p)) (k8 3 (lq 1 (Ms x)/\(∃(_:Unit),cX True (cat (Ms x) (fq (lH d))=ki (jP x) (pJ x) (BT d)) (aa (b d) (BQ d)) (c d) (BR d))) (∃(_:Unit),cX True (Ms x=ki (jP x) (pJ x) (BT d)) (aa (b d) (BQ d)) (c d) (BR d)) (jP x)) (∀(_:Unit),True->aY (gd (wQ x)/\gd (wS x)) (∃(e:D4×h_),cK (az (XA (lF e) (w9 e)) (Wk.Small (kU e)) (fF (mK e) (uq e) (oK e) (vj e)) (cW e.2)) (aqR x d=e.2) (wQ x=BW e) (wS x=BX e) (aK (uf d) (mK e) (uw d) (uq e)) (aT (x8 d=BS e) (aK (ue d) (oK e) (ux d) (vj e)) (gy (Mj d) (kU e)) (gu (uq e) (c d) (kU e)) (gz (vj e) (b d) (kU e)) (Da x=DF e) (aa (SB.fmap (Cb x).ad (aaP x) X) (IF e)) (aa (arR x) (C6 (w9 e))) (Bk (cS e.2) (∀(a:Nat×Nat),fF (mK e) a.1 (oK e) a.2->(∃(b:D4×Nd×h_),aC (arz m b) (qx (oI e) (jP b)) ((oI e).p=(jP b).p) ((oI e).v=(jP b).v) (aT (dn 0 0 (oI e) b) (dn 1 1 (oI e) b) (dn 2 2 (oI e) b) (dn 3 3 (oI e) b) (dn 4 4 (oI e) b) (dn 5 5 (oI e) b) (dn 6 6 (oI e) b) (dn 7 7 (oI e) b) (aT (dn 8 8 (oI e) b) (dn 9 9 (oI e) b) (dn 10 10 (oI e) b) (dn 11 11 (oI e) b) (dn 12 12 (oI e) b) (dn 13 13 (oI e) b) (dn 14 14 (oI e) b) (dn 15 15 (oI e) b) (aT (ki (jP x) (pJ x) (BT d)=pJ b) (BW e=wQ b) (BX e=wS b) (aK (mK e) (FI b) a.1 (zN b)) (BS e=IZ b) (aK (oK e) (rS b) a.2 (Dm b)) (gy (eO (kU e).ud (kU e).us) (qf b)) (eZ (mK e) (aF a.1) (λa=>lT a (kU e)) (mQ (qf b) (zN b)) 9) (az0 m a b x e d)))))) (Bk (cH e.2) (jY (vi e) (∀(b:Nat×Nat),aa2 b e->(∃(c:D4×Nd×h_),aC (arz m c) (qx (a e) (jP c)) ((a e).p=(jP c).p) ((a e).v=(jP c).v) (aT (dn 0 0 (a e) c) (dn 1 1 (a e) c) (dn 2 2 (a e) c) (dn 3 3 (a e) c) (dn 4 4 (a e) c) (dn 5 5 (a e) c) (dn 6 6 (a e) c) (dn 7 7 (a e) c) (aT (dn 8 8 (a e) c) (dn 9 9 (a e) c) (dn 10 10 (a e) c) (dn 11 11 (a e) c) (dn 12 12 (a e) c) (dn 13 13 (a e) c) (dn 14 14 (a e) c) (dn 15 15 (a e) c) (aT (ki (jP x) (pJ x) (BT d)=pJ c) (BW e=wQ c) (BX e=wS c) (aK (Q (P6 e)) (FI c) b.1 (zN c)) (BS e=IZ c) (aK (oK e) (rS c) b.2 (Dm c)) (gy (eO (kQ (kU e).ud (vi e)) (qh (kU e).us (vi e) (Wk.used (kU e) (vi e)+1))) (qf c)) (eZ (Q (P6 e)) (aF b.1) (λa=>aU a (P6 e)) (mQ (qf c) (zN c)) 9) (az0 m b c x e d)))))) (ar0 m x) (lF e)) (ar0 m x))))) (aqN m x d c b) (dj (wQ x) (wS x) (ki (jP x) (pJ x) (BT d)))))) (Bk (ah6 m x) (∃(a:Nat×Nat),cI (air m a x) (aK (uf d) (cm (IA m x)) (uw d) a.1) (x8 d=eX (IA m x)) (aK (ue d) (cD (IA m x)) (ux d) a.2) (gy (Mj d) (IA m x)) (gu a.1 (c d) (IA m x)) (gz a.2 (b d) (IA m x))) (Exists C2))))))) (eY 7 (aA (wQ x)) (aA (wS x)::SV.func (Fn.func 47) [rK 4 0] H::fz (SV.map 1) (dh 2 1 (FI x) (zN x)) (bF (IZ x+1)) (dh 3 2 (rS x) (Dm x)) H) 92)) qz8) qz6) (λa=>mD (vi a) (lF a))):=⟨by kernel_rfl,by kernel_rfl⟩
section
attribute [local irreducible] bM getD cS cH af gF dj hasB oZ ak cC ki qy lX nO eE Wk.used
set_option maxHeartbeats 4000000 in
theorem M7 {x:D4×Nd×h_}(hx:(ML (m+1)).pre x):au (runM (anB m x.1 x.2.1 x.2.2) 84 Y (ML (m+1)) x):=by
 refine au.xD (ab5 m x) (by delta Fk Bk I6 Er NI fu dQ fM aM aJ fq aF bx eC bF rK aj bH aC fQ az bE dK dM dD cM bt jk aA dU eY ja fz dy cW aY aD aX bN bJ aB b8 gZ dh cv aV br cI cK eZ dg fF aP cN k9 aT cX ff bS cE dS dB gG fk aU lq hJ k8 gL rH C2 vC lp cD eO eX gy jK bG mD gz gu jY gD jg aK ue kW BC ux qz6 cm uf wU uw qz8 arL lH ahk PY Mj x8 BQ BR BT ail ov gd lT qx C9 jG tq th kU lF w9 vj uq oK mK vi oI P6 IF BS DF BW BX aa2 C6 uT Da x9 aaP aiJ IP arR zR az0 avC qf Cb jP pJ Dm zN Mz aa1 ahJ aqN rS IA ow aqR aqS Dw FI Ms ah6 aia arz air IZ ar0 dn wQ wS;exact rfl) ?_;obtain⟨⟨w,s,c1,c2,yy,room⟩,y,p⟩:=x;obtain⟨hw,_,⟨hc1,hc2⟩,hf,hm,hy,hp⟩:=hx;dsimp only at hw hc1 hc2 hf hm hy hp ⊢;have hm:401<=s.lk+(m+1):=hm;have hyp:=hy.p;have hcat:(cat p y.p).length=p.length+y.p.length:=by unfold cat;simp
 have hlk:=hf.lk;have hfs:=hf.fs;have hns:=hf.ns;by_cases hl:400<=s.lk
 ·have hB:lX w (m+1) s y p=false:=by unfold lX qy;rw[o_ hl];rfl
  rw[hB,k_ (show(400:Int)<=(s.lk:Int)by omega)];exact⟨λ_=>⟨(λh=>by cases h),λ_=>⟨(_,_),Yv⟩⟩,(λh=>by cases h)⟩
 refine⟨λh=>absurd (i_ h) (by omega),λ_=>⟨⟨by omega,by omega⟩,⟨by omega,?_⟩,?_⟩⟩
 ·
  have no:p5 w y p=D->(s.p4 w y p).fs=s.fs:=λh=>by show(if p5 w y p=C then _ else _)=_;rw[h];rfl
  have yes:p5 w y p=C->(s.p4 w y p).fs=s.fs++[(cC (cat p y.p),y.v)]:=λh=>by show(if p5 w y p=C then _ else _)=_;rw[h];rfl
  have eb:p5 w y p=(!decide (y.v=[])&&(hasB w.fr w.to (cat p y.p)&&oZ (cat p y.p))):=rfl;have le0:p5 w y p=D->aa (SB.rows C s.fs.length [nj s.fs,nk s.fs] D (c2*2) 50) (kD (s.p4 w y p) c2):=λh=>by unfold kD;rw[no h];exact aa.refl _
  have le1:p5 w y p=C->∀ c,aa (SB.rows C (s.fs.length+1) [.str λj=>if j<s.fs.length then(s.fs.getD j ([],[])).1 else l9 [cC (cat p y.p)] (j-s.fs.length),.str λj=>if j<s.fs.length then(s.fs.getD j ([],[])).2 else l9 [y.v] (j-s.fs.length)] D (c*2) 50) (kD (s.p4 w y p) c):=λh c=>by unfold kD;rw[yes h];exact VH
  have wfr:=hw.fr;have wto:=hw.to;refine⟨λhv=>⟨⟨wfr,wto⟩,λhh=>⟨by omega,λhk=> ?_,λhk=> ?_⟩,λhh=> ?_⟩,λhv=> ?_⟩
  ·rw[hv,hh,hk] at eb;have l1:=le1 eb;refine⟨rfl,rfl,rfl,⟨by omega,trivial,by omega,by omega⟩,λc hc=>⟨rfl,⟨c,?_⟩⟩⟩;rw[o_ (show p5 w y p=C from eb),bn]
   exact⟨hc,by omega,⟨rfl,rfl⟩,l1 c⟩
  all_goals
   first
    | rw[hv,hh,hk] at eb
    | rw[hv,hh] at eb
    | rw[hv] at eb
   have l0:=le0 (eb.trans (by first | rfl | simp))
   have e0:p5 w y p=false:=eb.trans (by first | rfl | simp)
   refine⟨c2,?_⟩;rw[e0];simp only[Bool.false_eq_true,if_false]
   repeat' first
    | exact l0
    | refine And.intro ?_ ?_
    | exact trivial
    | assumption
    | omega
    | fail
 ·intro c2' hc2' R;refine⟨⟨(0,s.p4 w y p,c1,c2'),⟨Nat.zero_le _,by unfold eE;rfl,hc1,hc2'⟩,rfl,⟨rfl,rfl⟩,rfl,⟨rfl,rfl⟩,aa.refl _,aa.refl _,aa.refl _⟩,λz hz=> ?_⟩;obtain⟨i,si,d1,d2⟩:=z;obtain⟨hi16,hi,hd1,hd2⟩:=hz;dsimp only at hi16 hi hd1 hd2 ⊢;obtain⟨fi,hlki⟩:=xm (ES w m) (hf.p4 (by omega) w y p) hi;have hlki:s.lk+1<=si.lk:=hlki;have fil:=fi.lk;simp only[-eq_self,Int.toNat_natCast];refine⟨λhlt=> ?_,λhlt=> ?_⟩
  ·have hlt:i<16:=by have:=i_ hlt;omega
   simp only[-eq_self,B5 y.r hlt];have bad:eE w (qy w m) y p (i+1) (s.p4 w y p)=X->∀(a b:h_),(lX w (m+1) s y p=C->∃(q:Nat×Nat),((nO w (m+1) s y p).ns.length<=q.1/\(nO w (m+1) s y p).fs.length<=q.2)/\False)/\(lX w (m+1) s y p=D->∃(q:h_×h_),aa (SB.cells [SV.str D a,SV.str D b] 2 207) (SB.cells [SV.str D q.1,SV.str D q.2] 2 207)):=λh a b=>by have hB:=Xh hl (ye (by omega:i+1<=16) h);rw[hB];exact⟨(λh=>by cases h),λ_=>⟨(a,b),Yu⟩⟩
   have hsuc:i+1<=16:=by omega
   have hmea:16-(i+1)<16-i:=by omega
   have same: ∀ {s':Wk},eE w (qy w m) y p (i+1) (s.p4 w y p)=F s'->s'.ns.length<=d1->s'.fs.length<=d2->((i+1<=16/\eE w (qy w m) y p (i+1) (s.p4 w y p)=F s'/\s'.ns.length<=d1/\s'.fs.length<=d2)/\16-(i+1)<16-i):=λh a b=>⟨⟨hsuc,h,a,b⟩,hmea⟩
   refine⟨⟨by omega,by omega,by omega⟩,λh0=>⟨⟨by omega,by omega⟩,(i+1,si,d1,d2),same ((gP hi).trans (qg (i_ h0))) hd1 hd2,by omega,⟨rfl,rfl⟩,rfl,⟨rfl,rfl⟩,aa.refl _,aa.refl _,aa.refl _⟩,λh0=> ?_⟩;have h0:=j_ h0;have htl:=ajd hy p i;refine⟨by omega,⟨λh3=>⟨by omega,(),trivial,asH (i_ h3) i hlt,aa.refl _,aa.refl _⟩,λh3=>⟨(),trivial,by unfold ki;rw[p_ (j_ h3)],aa.refl _,aa.refl _⟩⟩,λ_ _=>⟨⟨hw.fr,hw.to⟩,λhM=> ?_,λhM=>⟨⟨by omega,by omega⟩,(i+1,si,d1,d2),same ((gP hi).trans (yd hM)) hd1 hd2,by omega,⟨rfl,rfl⟩,rfl,⟨rfl,rfl⟩,aa.refl _,aa.refl _,aa.refl _⟩⟩⟩;have hrl:(y.r i).length<9223372036854775808:=by
    rcases hy.r i hlt with e | e
    ·exact absurd e h0
    ·have:=AO e;omega
   have go: ∀ {yy:Nd} {s2:Wk},pM w si (y.r i)=F (yy,s2)->s2.Fit (s2.lk+1)/\(401<=s2.lk+m)/\yy.xJ/\(ki y p i).length<=13*s2.lk/\s2.Small:=λh=>by obtain⟨q1,q2,q3⟩:=K4 fi h;exact⟨by rw[q2];exact q1,by omega,kj q3,by omega,q1.small (by omega)⟩
   have on: ∀ {yy:Nd} {s2:Wk},pM w si (y.r i)=F (yy,s2)->lX w m s2 yy (ki y p i)=C->eE w (qy w m) y p (i+1) (s.p4 w y p)=F (nO w m s2 yy (ki y p i)):=λh hb=>by rw[gP hi,oP h0 hM h,Jq hb]
   have off: ∀ {yy:Nd} {s2:Wk},pM w si (y.r i)=F (yy,s2)->lX w m s2 yy (ki y p i)=D->eE w (qy w m) y p (i+1) (s.p4 w y p)=none:=λh hb=>by rw[gP hi,oP h0 hM h,Af hb]
   refine⟨(⟨w,si,d1,d2,yy,room⟩,y.r i),⟨hw,fi.small (by omega),⟨hd1,hd2⟩,hrl⟩,rfl,rfl,rfl,⟨rfl,rfl⟩,rfl,⟨rfl,rfl⟩,aa.refl _,aa.refl _,aa.refl _,rfl,aa.refl _,aa.refl _,?_⟩;dsimp only;have inn:cS (y.r i)=C->pM w si (y.r i)=F (getD (y.r i),si):=Jh;have inh:cS (y.r i)=D->cH (y.r i)=C->gF w (af (y.r i))=C->pM w si (y.r i)=F (getD (w.at (af (y.r i))),si.take w (af (y.r i))):=Be;have inb:cS (y.r i)=D->(cH (y.r i)=D∨gF w (af (y.r i))=D)->eE w (qy w m) y p (i+1) (s.p4 w y p)=none:=λh1 h2=>by rw[gP hi,A9 h0 hM (QZ h1 h2)]
   refine⟨λh1 e he=> ?_,λh1=>⟨λh2=>⟨λh3 e he=> ?_,λh3 z=>bad (inb h1 (.inr h3)) _ _⟩,λh2 z=>bad (inb h1 (.inl h2)) _ _⟩⟩
   ·have hfol:=inn h1;obtain⟨g1,g2,g3,g4,g5⟩:=go hfol;refine⟨(⟨w,si,e.1,e.2,yy,room⟩,getD (y.r i),ki y p i),⟨hw,g5,he,g1,g2,g3,g4⟩,rfl,rfl,rfl,rfl,rfl,rfl,rfl,rfl,rfl,rfl,rfl,rfl,rfl,rfl,rfl,rfl,rfl,rfl,rfl,rfl,rfl,rfl,⟨rfl,rfl⟩,rfl,⟨rfl,rfl⟩,aa.refl _,aa.refl _,aa.refl _,rfl,aa.refl _,aa.refl _,?_⟩;dsimp only;exact⟨λhb q hq=>⟨⟨by omega,by omega⟩,(i+1,nO w m si (getD (y.r i)) (ki y p i),q.1,q.2),⟨⟨hsuc,on hfol hb,hq.1,hq.2⟩,hmea⟩,by omega,rfl,rfl,⟨rfl,rfl⟩,rfl,⟨rfl,rfl⟩,aa.refl _,aa.refl _,aa.refl _,aa.refl _,aa.refl _⟩,λhb z=>bad (off hfol hb) _ _⟩
   ·have hfol:=inh h1 h2 h3;obtain⟨g1,g2,g3,g4,g5⟩:=go hfol;refine⟨(⟨w,si.take w (af (y.r i)),e.1,e.2,yy,room⟩,getD (w.at (af (y.r i))),ki y p i),⟨hw,g5,he,g1,g2,g3,g4⟩,rfl,rfl,rfl,rfl,rfl,rfl,rfl,rfl,rfl,rfl,rfl,rfl,rfl,rfl,rfl,rfl,rfl,rfl,rfl,rfl,rfl,rfl,⟨rfl,rfl⟩,rfl,⟨rfl,rfl⟩,aa.refl _,aa.refl _,aa.refl _,rfl,aa.refl _,aa.refl _,?_⟩;dsimp only;exact⟨λhb q hq=>⟨⟨by omega,by omega⟩,(i+1,nO w m (si.take w (af (y.r i))) (getD (w.at (af (y.r i)))) (ki y p i),q.1,q.2),⟨⟨hsuc,on hfol hb,hq.1,hq.2⟩,hmea⟩,by omega,rfl,rfl,⟨rfl,rfl⟩,rfl,⟨rfl,rfl⟩,aa.refl _,aa.refl _,aa.refl _,aa.refl _,aa.refl _⟩,λhb z=>bad (off hfol hb) _ _⟩
  ·have e16:i=16:=by have:=j_ hlt;omega
   subst e16;obtain⟨k1,k2⟩:=Xi hl hi;rw[k1,k2];exact⟨λ_=>⟨(d1,d2),⟨hd1,hd2⟩,⟨rfl,rfl⟩,rfl,⟨rfl,rfl⟩,aa.refl _,aa.refl _,aa.refl _⟩,(λh=>by cases h)⟩
end
end
section
open Go Sx
set_option maxRecDepth 20000
theorem SU (h:aq O 84 (dI (ML m))):aR O (λf=>av f (V1 m)):=.cons h (de _) (.cons abp (de _) (.cons aou (aE _) (.cons Zj (aE _) (.cons agY (bK _) SS))))
theorem abF: ∀ m,aq O 84 (dI (ML m))
 | 0=>jT (n:=20) c4 (by kernel_rfl) (by kernel_rfl) (ML 0) λx hx=>by obtain⟨_,_,_,hf,hm,_⟩:=hx;have:=hf.lk;omega
 | m+1=>jT (n:=20) c4 (by kernel_rfl) (by kernel_rfl) (ML (m+1)) λx hx=>⟨anB m x.1 x.2.1 x.2.2,.of bI (SU (abF m)) aO,rfl,M7 hx⟩
theorem akd (m:Nat):aR O (λf=>av f (V1 m)):=SU (abF m)
def Bl (fr to:h_):Nat->List Rw->h_->List h_
 | 0,_,_=>[]
 | m+1,l,p=>(I 16).flatMap λi=>if bz l i=[] then [] else bif dj fr to (ki (gR (m+1) l) p i)then(if(ctext m (bz l i)).length<32 then [] else [ctext m (bz l i)])++Bl fr to m (bz l i) (ki (gR (m+1) l) p i)else []
def kg (c:Nat->Nat):Nat->Nat
 | 0=>0
 | n+1=>kg c n+c n
def yT (fr to:h_):Nat->List Rw->h_->Nat
 | 0,_,_=>1
 | m+1,l,p=>1+kg (λi=>if bz l i=[] then 0 else bif dj fr to (ki (gR (m+1) l) p i)then yT fr to m (bz l i) (ki (gR (m+1) l) p i)else 0) 16
def sP (w:Sp)(s:Wk)(V:List h_)(E:List (h_×h_))(c:Nat):Wk:=V.foldl (λs t=>s.take w (bg t)) {s with lk:=s.lk+c,fs:=s.fs++E}
theorem CD (w:Sp)(a:Nat)(b:List (h_×h_)): ∀(V:List h_) (s:Wk),V.foldl (λs t=>s.take w (bg t)) {s with lk:=a,fs:=b}={V.foldl (λs t=>s.take w (bg t)) s with lk:=a,fs:=b}
 | [],_=>rfl
 | t::V,s=>CD w a b V (s.take w (bg t))
theorem VG (w:Sp): ∀(V:List h_) (s:Wk),(V.foldl (λs t=>s.take w (bg t)) s).lk=s.lk/\(V.foldl (λs t=>s.take w (bg t)) s).fs=s.fs
 | [],_=>⟨rfl,rfl⟩
 | t::V,s=>VG w V (s.take w (bg t))
theorem U1 (w:Sp)(s:Wk)(V:List h_)(E:List (h_×h_))(c:Nat):(sP w s V E c).lk=s.lk+c:=(VG w V _).1
theorem afK (w:Sp)(s:Wk)(V:List h_)(E:List (h_×h_))(c:Nat):(sP w s V E c).fs=s.fs++E:=(VG w V _).2
theorem JM (w:Sp)(s:Wk)(V V':List h_)(E E':List (h_×h_))(c c':Nat):sP w (sP w s V E c) V' E' c'=sP w s (V++V') (E++E') (c+c'):=by
 have h1:=U1 w s V E c;have h2:=afK w s V E c;have e:sP w (sP w s V E c) V' E' c'={V'.foldl (λs t=>s.take w (bg t)) (sP w s V E c)with lk:=(sP w s V E c).lk+c',fs:=(sP w s V E c).fs++E'}:=CD w _ _ V' _;have e':sP w s (V++V') (E++E') (c+c')={V'.foldl (λs t=>s.take w (bg t)) (V.foldl (λs t=>s.take w (bg t)) s)with lk:=s.lk+(c+c'),fs:=s.fs++(E++E')}:=by unfold sP;rw[CD,List.foldl_append]
 have e2:sP w s V E c={V.foldl (λs t=>s.take w (bg t)) s with lk:=s.lk+c,fs:=s.fs++E}:=CD w _ _ V s;rw[e,h1,h2,e',e2,CD];simp only[c!,c5]
theorem XG (w:Sp)(s:Wk):sP w s [] [] 0=s:=by unfold sP;rw[an];rfl
theorem RV (w:Sp)(s:Wk)(t:h_):s.take w (bg t)=sP w s [t] [] 0:=by unfold sP;rw[an];rfl
def Full (w:Sp)(L:List h_):Prop:=∀ t,t∈ L->gF w (bg t)=C/\w.at (bg t)=t
theorem Full.mono {L':List h_}(h:Full w L)(hs: ∀ t,t∈ L'->t∈ L):Full w L':=λt ht=>h t (hs t ht)
theorem asA {c:Nat->Nat}(h:n<=m):kg c n<=kg c m:=by
 induction m with
 | zero=>have:n=0:=by omega
         subst this;exact J _
 | succ m ih =>
   by_cases e:n=m+1
   ·subst e;exact J _
   ·have:=ih (by omega);show _<=kg c m+c m;omega
theorem abq {l:List Rw}{p:h_}(s:Wk)(hk: ∀ x,x∈ l->oZ (cat p x.1)=C):s.p4 w (gR m l) p=sP w s [] (Pv w.fr w.to p (gR m l)) 1:=by
 have e:(s.p4 w (gR m l) p).fs=s.fs++Pv w.fr w.to p (gR m l):=by
  cases m with
  | zero=>show(if p5 w iL p=C then s.fs++[(cC (cat p iL.p),iL.v)] else s.fs)=s.fs++[]
          rw[p_ (by unfold p5;simp[iL]),an]
  | succ m=>exact avQ s hk
 have:s.p4 w (gR m l) p={s with lk:=s.lk+1,fs:=(s.p4 w (gR m l) p).fs}:=rfl;rw[this,e];rfl
theorem EL {l:List Rw}(h:dZ 0 l):l=[]:=by
 cases l with
 | nil=>rfl
 | cons r l=>exact absurd (h.len r (M ..)) (cx _)
theorem aeg (fr to p:h_){l:List Rw}(h:dZ (m+1) l) :
  n9 fr to p l=Pv fr to p (gR (m+1) l)++(I 16).flatMap λi=>n9 fr to (ki (gR (m+1) l) p i) (bz l i):=by
 by_cases hl:l=[]
 ·subst hl;rw[zg (f:=λi=>n9 fr to (ki (gR (m+1) []) p i) (bz [] i)) λi _=>rfl];rfl
 ·exact akz fr to p hl h
theorem GJ {α:Type}(f:Nat->List α)(n:Nat):(I (n+1)).flatMap f=(I n).flatMap f++f n:=by rw[List.range_succ,List.flatMap_append];simp
theorem abS {w:Sp}: ∀ {m:Nat} {l:List Rw} {p:h_} {j:Nat} {s:Wk},m<=13->dZ m l->m<=j->0<j->Full w (Bl w.fr w.to m l p)->(∀ x,x∈ l->oZ (cat p x.1)=C)->s.lk+yT w.fr w.to m l p<=400->
  qy w j s (gR m l) p=F (sP w s (Bl w.fr w.to m l p) (n9 w.fr w.to p l) (yT w.fr w.to m l p))
 | m,l,p,0,s,_,_,_,h,_,_,_=>absurd h (d_ 0)
 | 0,l,p,j+1,s,_,hr,_,_,_,hk,hl=>by
   have e:=EL hr;subst e;have hl:s.lk+1<=400:=hl;unfold qy;rw[p_ (by omega),abq (m:=0) (l:=[]) s hk];have key: ∀ n,n<=16->∀ s1:Wk,eE w (qy w j) (gR 0 []) p n s1=F s1:=by
    intro n;induction n with
    | zero=>intro _ s1;rfl
    | succ n ih =>intro hn s1;unfold eE;rw[ih (by omega)];exact qg (s6 n (by omega))
   rw[key 16 (J _)];rfl
 | m+1,l,p,j+1,s,hm,hr,hj,_,hf,hk,hl=>by
   have hN:yT w.fr w.to (m+1) l p=1+kg (λi=>if bz l i=[] then 0 else bif dj w.fr w.to (ki (gR (m+1) l) p i)then yT w.fr w.to m (bz l i) (ki (gR (m+1) l) p i)else 0) 16:=rfl
   have hV:Bl w.fr w.to (m+1) l p=(I 16).flatMap λi=>if bz l i=[] then [] else bif dj w.fr w.to (ki (gR (m+1) l) p i)then(if(ctext m (bz l i)).length<32 then [] else [ctext m (bz l i)])++Bl w.fr w.to m (bz l i) (ki (gR (m+1) l) p i)else []:=rfl
   rw[hV] at hf ⊢;rw[hN] at hl ⊢;generalize hc:(λi=>if bz l i=[] then 0 else bif dj w.fr w.to (ki (gR (m+1) l) p i)then yT w.fr w.to m (bz l i) (ki (gR (m+1) l) p i)else 0)=c at hl ⊢
   generalize hV2:(λi=>if bz l i=[] then [] else bif dj w.fr w.to (ki (gR (m+1) l) p i)then(if(ctext m (bz l i)).length<32 then [] else [ctext m (bz l i)])++Bl w.fr w.to m (bz l i) (ki (gR (m+1) l) p i)else [])=V at hf ⊢
   unfold qy;rw[p_ (by omega),abq (m:=m+1) s hk];have key: ∀ n,n<=16->eE w (qy w j) (gR (m+1) l) p n (sP w s [] (Pv w.fr w.to p (gR (m+1) l)) 1)=F (sP w s ((I n).flatMap V) (Pv w.fr w.to p (gR (m+1) l)++(I n).flatMap λi=>n9 w.fr w.to (ki (gR (m+1) l) p i) (bz l i)) (1+kg c n)):=by
    intro n;induction n with
    | zero=>intro _;show F _=F _;simp[kg]
    | succ n ih =>
      intro hn;rw[gP (ih (by omega))];have hle:kg c (n+1)<=kg c 16:=asA hn;have hs1:kg c (n+1)=kg c n+c n:=rfl;rw[GJ,GJ,hs1,← c5,← c!,← JM];have hlk:=U1 w s ((I n).flatMap V) (Pv w.fr w.to p (gR (m+1) l)++(I n).flatMap λi=>n9 w.fr w.to (ki (gR (m+1) l) p i) (bz l i)) (1+kg c n);generalize sP w s ((I n).flatMap V) (Pv w.fr w.to p (gR (m+1) l)++(I n).flatMap λi=>n9 w.fr w.to (ki (gR (m+1) l) p i) (bz l i)) (1+kg c n)=s1 at hlk ⊢;have hfn: ∀ t,t∈ V n->gF w (bg t)=C/\w.at (bg t)=t:=λt ht=>hf t (Z.2 ⟨n,ag.2 (by omega),ht⟩);have ec:c n=if bz l n=[] then 0 else bif dj w.fr w.to (ki (gR (m+1) l) p n)then yT w.fr w.to m (bz l n) (ki (gR (m+1) l) p n)else 0:=by rw[← hc]
      have ev:V n=if bz l n=[] then [] else bif dj w.fr w.to (ki (gR (m+1) l) p n)then(if(ctext m (bz l n)).length<32 then [] else [ctext m (bz l n)])++Bl w.fr w.to m (bz l n) (ki (gR (m+1) l) p n)else []:=by rw[← hV2]
      by_cases he:bz l n=[]
      ·rw[qg (by rw[Hj m l (by omega),o_ he]),ec,ev,o_ he,o_ he,he];show F s1=F (sP w s1 [] [] 0);rw[XG]
      ·rw[p_ he] at ec ev;cases hmt:dj w.fr w.to (ki (gR (m+1) l) p n)with
       | false =>rw[hmt,cond_false] at ec ev;rw[yd hmt,ec,ev,akA hmt,XG]
       | true =>
         rw[hmt,cond_true] at ec ev;have ho:=mW hr n;have hv:=jB (m:=m) (by omega) ho he;have hk0:=anN ho he;have er:(gR (m+1) l).r n=j5 (ctext m (bz l n)):=by rw[Hj m l (by omega),p_ he]
         have hm0:0<m:=by
          cases m with
          | zero=>exact absurd (EL ho) he
          | succ m=>exact cy _
         have rest: ∀ s2:Wk,s2.lk=s1.lk->qy w j s2 (gR m (bz l n)) (ki (gR (m+1) l) p n)=F (sP w s2 (Bl w.fr w.to m (bz l n) (ki (gR (m+1) l) p n)) (n9 w.fr w.to (ki (gR (m+1) l) p n) (bz l n)) (yT w.fr w.to m (bz l n) (ki (gR (m+1) l) p n))):=λs2 h2 =>abS (by omega) ho (by omega) (by omega) (λt ht=>hfn t (by rw[ev];exact cl _ ht)) (λx hx=>by obtain⟨z,hz,e⟩:=YO (p:=p) hr hx;rw[e];exact hk z hz) (by omega)
         have hne: ¬ (gR (m+1) l).r n=[]:=by rw[er];exact(Zg hv hk0).2
         by_cases hs:(ctext m (bz l n)).length<32
         ·rw[o_ hs,W] at ev;have hin:cS ((gR (m+1) l).r n)=true:=by rw[er,tw hs];exact(OE hv hk0 hs).1
          have hg:getD ((gR (m+1) l).r n)=gR m (bz l n):=by rw[er,tw hs];exact sV hv
          rw[oP hne hmt (Jh hin),hg,rest s1 rfl,ec,ev]
         ·rw[p_ hs] at ev;obtain⟨h1,h2,h3⟩:=tv hs;have hin:cS ((gR (m+1) l).r n)=false:=by
           cases h:cS ((gR (m+1) l).r n)with
           | false=>rfl
           | true=>rw[er] at h;have:=vt h;omega
          obtain⟨f1,f2⟩:=hfn (ctext m (bz l n)) (by rw[ev];exact c7 _ (M ..));rw[oP hne hmt (Be hin (by rw[er];exact h1) (by rw[er,h2];exact f1)),er,h2,f2,sV hv,rest (s1.take w (bg (ctext m (bz l n)))) rfl,RV,JM,ec,ev,W,cB]
   rw[key 16 (J _),← aeg w.fr w.to p hr]
theorem K8 {K c:Nat->Nat}(h0: ∀ i,K i=0->c i=0)(h1: ∀ i,K i≠0->c i+2<=3*K i): ∀ n,kg c n=0∨(∃ i,i<n/\kg c n+2<=3*K i/\K i<=kg K n)∨kg c n+4<=3*kg K n
 | 0=>.inl rfl
 | n+1=>by
   have e1:kg c (n+1)=kg c n+c n:=rfl;have e2:kg K (n+1)=kg K n+K n:=rfl;rw[e1,e2];by_cases hz:K n=0
   ·rw[h0 n hz,hz];rcases K8 h0 h1 n with h | ⟨i,hi,h,h'⟩ | h
    ·exact .inl (by omega)
    ·exact .inr (.inl ⟨i,by omega,by omega,by omega⟩)
    ·exact .inr (.inr (by omega))
   ·have:=h1 n hz;rcases K8 h0 h1 n with h | ⟨i,hi,h,h'⟩ | h
    ·exact .inr (.inl ⟨n,by omega,by omega,by omega⟩)
    ·exact .inr (.inr (by omega))
    ·exact .inr (.inr (by omega))
theorem abJ (l:List Rw): ∀ n,kg (λi=>(bz l i).length) n=rA l n
 | 0=>rfl
 | n+1=>by show kg _ n+_=rA l n+_;rw[abJ l n]
theorem afE (fr to:h_): ∀ {m:Nat} {l:List Rw} {p:h_},dZ m l->l≠[]->yT fr to m l p+2<=3*l.length/\((∃ r s t,l=r::s::t/\¬ 0<cg r.1 ((s::t).getLastD r).1)->yT fr to m l p+3<=3*l.length)
 | 0,l,p,h,hl=>absurd (EL h) hl
 | m+1,[],p,h,hl=>absurd rfl hl
 | m+1,[r],p,h,hl=>by have e:yT fr to (m+1) [r] p=1:=rfl;rw[e];exact⟨by show 1+2<=3*1;omega,fun⟨_,_,_,h,_⟩=>by cases h⟩
 | m+1,r::s::t,p,h,_=>by
   generalize hc:(λi=>if bz (r::s::t) i=[] then 0 else bif dj fr to (ki (gR (m+1) (r::s::t)) p i)then yT fr to m (bz (r::s::t) i) (ki (gR (m+1) (r::s::t)) p i)else 0)=c
   have hN:yT fr to (m+1) (r::s::t) p=1+kg c 16:=by rw[← hc];rfl
   have hL:(r::s::t).length=t.length+2:=rfl;have c0: ∀ i,(bz (r::s::t) i).length=0->c i=0:=λi hi=>by rw[← hc];exact o_ (List.eq_nil_of_length_eq_zero hi)
   have c1: ∀ i,(bz (r::s::t) i).length≠0->c i+2<=3*(bz (r::s::t) i).length:=λi hi=>by
    have hne:bz (r::s::t) i≠[]:=λe=>hi (by rw[e];rfl);have:=(afE fr to (p:=ki (gR (m+1) (r::s::t)) p i) (mW h i) hne).1;rw[← hc];dsimp only;rw[p_ hne];cases dj fr to (ki (gR (m+1) (r::s::t)) p i)with
    | true=>exact this
    | false=>show 0+2<=_;omega
   by_cases hk:0<cg r.1 ((s::t).getLastD r).1
   ·refine⟨?_,fun⟨_,_,_,e,hn⟩=>by injection e with e1 e;injection e with e2 e3;subst e1;subst e2;subst e3;exact absurd hk hn⟩;have k0:bz (r::s::t) 0=eV (cg r.1 ((s::t).getLastD r).1) (r::s::t):=by rw[dO,o_ hk,o_ rfl]
    have hne:bz (r::s::t) 0≠[]:=by rw[k0,Cw];exact List.cons_ne_nil _ _
    have kl:(bz (r::s::t) 0).length=t.length+2:=by rw[k0];show(c6 _ _).length=_;rw[b_];rfl
    have hb:=(afE fr to (p:=ki (gR (m+1) (r::s::t)) p 0) (mW h 0) hne).2 ⟨_,_,_,k0.trans (Cw _),by have:((s.1.drop (cg r.1 ((s::t).getLastD r).1),s.2)::eV (cg r.1 ((s::t).getLastD r).1) t).getLastD (r.1.drop (cg r.1 ((s::t).getLastD r).1),r.2)=_:=Kl (cg r.1 ((s::t).getLastD r).1) r (s::t);rw[this,JY];exact d_ 0⟩
    have hc0:c 0+3<=3*(t.length+2):=by
     rw[← hc];dsimp only;rw[p_ hne];cases dj fr to (ki (gR (m+1) (r::s::t)) p 0)with
     | true=>rw[← kl];exact hb
     | false=>show 0+3<=_;omega
    have hz: ∀ n,0<n->kg c n=c 0:=λn=>by
     induction n with
     | zero=>intro h;omega
     | succ n ih =>
       intro _;show kg c n+c n=_;by_cases e:n=0
       ·subst e;exact cB _
       ·rw[ih (by omega),c0 n (by rw[dO,o_ hk,p_ e];rfl)];rfl
    rw[hN,hz 16 (by decide),hL];omega
   ·have hlt: ∀ i,(bz (r::s::t) i).length<=t.length+1:=λi=>by
     rw[dO,p_ hk];show(c6 _ (jz i (r::s::t))).length<=_;rw[b_];have hle:(jz i (r::s::t)).length<=(r::s::t).length:=List.length_filter_le _ _;by_cases e:(jz i (r::s::t)).length=(r::s::t).length
     ·have ha:=List.length_filter_eq_length_iff.1 e;have h1:=ha r (M ..);have h2:=ha _ (zo r (s::t));refine absurd ?_ hk;generalize ((s::t).getLastD r)=z at h2 ⊢;obtain⟨a,v⟩:=r;obtain⟨b,v'⟩:=z;cases a with
      | nil=>cases h1
      | cons a q =>
        cases b with
        | nil=>cases h2
        | cons b q' =>have e1:a.toNat=i:=i_ h1;have e2:b.toNat=i:=i_ h2;have e:a=b:=UInt8.toNat_inj.1 (by omega);show 0<cg (a::q) (b::q');unfold cg;rw[o_ e];exact cy _
     ·rw[hL] at hle e;omega
    have hS:=K8 (K:=λi=>(bz (r::s::t) i).length) c0 c1 16;rw[abJ] at hS;have hK:=Eo (r::s::t) 16;rw[hL] at hK;have:yT fr to (m+1) (r::s::t) p+3<=3*(t.length+2):=by
     rw[hN];rcases hS with hS | ⟨i,_,hS,_⟩ | hS
     ·omega
     ·have:=hlt i;omega
     ·omega
    rw[hL];exact⟨by omega,λ_=>this⟩
theorem Lj (fr to:h_): ∀ {m:Nat} {l:List Rw} {p t:h_},t∈ Bl fr to m l p->t∈ dH m l
 | 0,_,_,_,h=>by cases h
 | m+1,l,p,t,h=>by
   unfold Bl at h;obtain⟨i,hi,h⟩:=Z.1 h;unfold dH;refine Z.2 ⟨i,hi,?_⟩;by_cases e:bz l i=[]
   ·rw[o_ e] at h;cases h
   ·rw[p_ e] at h ⊢;cases hm:dj fr to (ki (gR (m+1) l) p i)with
    | false=>rw[hm] at h;cases h
    | true =>
      rw[hm,cond_true] at h;rcases b!.1 h with h | h
      ·exact c7 _ h
      ·exact cl _ (Lj fr to h)
theorem ajj {fr to:h_}: ∀ {m:Nat} {l:List Rw} {p:h_},dZ m l->(∀ q:h_,(∃ x,x∈ l/\∃ u,cat p x.1=q++u)->dj fr to q=C)->Bl fr to m l p=dH m l
 | 0,_,_,_,_=>rfl
 | m+1,l,p,h,hq=>by
   unfold Bl dH;refine oX λi _=> ?_;by_cases e:bz l i=[]
   ·rw[o_ e,o_ e]
   ·rw[p_ e,p_ e];have kf: ∀ x,x∈ bz l i->∃ y,y∈ l/\cat (ki (gR (m+1) l) p i) x.1=cat p y.1:=λx hx=>YO (p:=p) h hx;have hm:dj fr to (ki (gR (m+1) l) p i)=true:=by obtain⟨x,hx⟩:=List.exists_mem_of_ne_nil _ e;obtain⟨y,hy,e2⟩:=kf x hx;exact hq _ ⟨y,hy,x.1,e2.symm⟩
    rw[hm,cond_true,ajj (mW h i) λq ⟨x,hx,u,e3⟩=>by obtain⟨y,hy,e2⟩:=kf x hx;exact hq q ⟨y,hy,u,e2.symm.trans e3⟩]
def qz (fr to:h_)(l:List Rw):List h_:=ctext 13 l::Bl fr to 13 l []
def q9 (fr to:h_)(l:List Rw):List h_:=fJ (qz fr to l)
def Inj (L:List h_):Prop:=∀ t,t∈ L->∀ u,u∈ L->bg t=bg u->t=u
structure axI (L:List h_)(s:Wk):Prop where
 pos: ∀ h,0<=s.used h
 mem: ∀ t,t∈ L->(s.used (bg t)=0↔t∉ s.ns)
theorem avh (hi:Inj L){s:Wk}(h:axI L s)(ht:t∈ L)(hf:w.at (bg t)=t):(s.take w (bg t)).ns=(if t∈ s.ns then s.ns else s.ns++[t])/\axI L (s.take w (bg t)):=by
 have e:(s.take w (bg t)).ns=if t∈ s.ns then s.ns else s.ns++[t]:=by
  show(if s.used (bg t)=0 then s.ns++[w.at (bg t)] else s.ns)=_
  rw[hf];by_cases hm:t∈ s.ns
  ·rw[o_ hm,p_ (λe=>(h.mem t ht).1 e hm)]
  ·rw[p_ hm,o_ ((h.mem t ht).2 hm)]
 refine⟨e,λg=> ?_,λu hu=> ?_⟩
 ·rw[Ai];have h1:=h.pos g;have h2:=h.pos (bg t);split<;>omega
 ·rw[Ai,e];have h2:=h.pos (bg t);by_cases hut:bg u=bg t
  ·have:=hi u hu t ht hut;subst this;rw[o_ rfl];constructor
   ·intro h0;omega
   ·intro hn;refine absurd ?_ hn;split
    ·assumption
    ·exact cl _ (M ..)
  ·rw[p_ hut,h.mem u hu];have hne:u≠t:=λe=>hut (by rw[e]);split
   ·exact Iff.rfl
   ·rw[b!,c_];exact⟨λa b=>b.elim a hne,λa b=>a (.inl b)⟩
theorem ag1 {w:Sp}{L:List h_}(hi:Inj L): ∀(V:List h_) (s:Wk),(∀ t,t∈ V->t∈ L/\w.at (bg t)=t)->axI L s->(V.foldl (λs t=>s.take w (bg t)) s).ns=V.foldl (λu x=>if x∈ u then u else u++[x]) s.ns
 | [],_,_,_=>rfl
 | t::V,s,hV,h=>by obtain⟨h1,h2⟩:=hV t (M ..);obtain⟨h3,h4⟩:=avh hi h h1 h2;rw[ay,ay,ag1 hi V _ (λu hu=>hV u (T _ hu)) h4,h3]
theorem avg (hi:Inj L){V:List h_}(E:List (h_×h_))(c:Nat)(hV: ∀ t,t∈ V->t∈ L/\w.at (bg t)=t):(sP w Wk.start V E c).ns=fJ V:=by have:=ag1 hi V {Wk.start with lk:=Wk.start.lk+c,fs:=Wk.start.fs++E} hV ⟨λ_=>Int.le_refl 0,λt _=>⟨(λ_ h=>by cases h),λ_=>rfl⟩⟩;exact this
theorem ajk (fr to:h_): ∀(m:Nat) (l:List Rw) (p:h_),(Bl fr to m l p).length+1<=yT fr to m l p
 | 0,_,_=>J _
 | m+1,l,p=>by
   unfold Bl yT;have key: ∀ n,((I n).flatMap λi=>if bz l i=[] then [] else bif dj fr to (ki (gR (m+1) l) p i)then(if(ctext m (bz l i)).length<32 then [] else [ctext m (bz l i)])++Bl fr to m (bz l i) (ki (gR (m+1) l) p i)else []).length<=kg (λi=>if bz l i=[] then 0 else bif dj fr to (ki (gR (m+1) l) p i)then yT fr to m (bz l i) (ki (gR (m+1) l) p i)else 0) n:=by
    intro n;induction n with
    | zero=>exact J _
    | succ n ih =>
      rw[GJ,bn];show _<=kg _ n+_;refine Nat.add_le_add ih ?_;dsimp only;by_cases e:bz l n=[]
      ·rw[o_ e,o_ e];exact J _
      ·rw[p_ e,p_ e];cases dj fr to (ki (gR (m+1) l) p n)with
       | false=>exact J _
       | true =>simp only[cond_true];have:=ajk fr to m (bz l n) (ki (gR (m+1) l) p n);rw[bn];split<;>simp<;>omega
   have:=key 16;omega
theorem atC (fr to:h_)(p:h_):yT fr to 13 [] p=1:=by
 show 1+kg (λi=>if bz [] i=[] then 0 else _) 16=1
 simp[kg,bz]
theorem aji {to:h_}{l:List Rw}(h:dZ 13 l)(hn:l.length<=40)(p:h_):yT fr to 13 l p<=120:=by
 by_cases e:l=[]
 ·subst e;rw[atC];omega
 ·have:=(afE fr to (p:=p) h e).1;omega
theorem Va {to:h_}{l:List Rw}(h:dZ 13 l)(hn:l.length<=40):(q9 fr to l).length<=120:=by have h1:=Js _ (qz fr to l) rfl;have h2:=ajk fr to 13 l [];have h3:=aji (fr:=fr) (to:=to) h hn [];have h4:(qz fr to l).length=(Bl fr to 13 l []).length+1:=rfl;unfold q9;omega
theorem asG {l:List Rw}(h:dZ 13 l):getD (ctext 13 l)=gR 13 l:=by
 by_cases e:l=[]
 ·subst e;exact sV (Bs 13)
 ·exact sV (jB (J _) h e)
theorem Ll {l:List Rw}(h:dZ 13 l)(hn:l.length<=40)(hk: ∀ x,x∈ l->oZ x.1=C)(hf:Full w (qz w.fr w.to l)) :
  uZ (bg (ctext 13 l)) w=F (sP w Wk.start (qz w.fr w.to l) (n9 w.fr w.to [] l) (yT w.fr w.to 13 l [])):=by
 obtain⟨h1,h2⟩:=hf _ (M ..);have hv:=aji (fr:=w.fr) (to:=w.to) h hn [];unfold uZ;rw[h1,cond_true,h2,asG h];rw[RV,abS (J _) h (by decide) (by decide) (λt ht=>hf t (T _ ht)) hk (by rw[U1];show 0+0+_<=400;omega),JM,W,cB];rfl
theorem Xp {l:List Rw}(hi:Inj (jy 13 l))(hf:Full w (qz w.fr w.to l))(E:List (h_×h_))(c:Nat):(sP w Wk.start (qz w.fr w.to l) E c).ns=q9 w.fr w.to l :=
 avg hi E c λt ht=>⟨by
  unfold qz at ht;rcases ct.1 ht with ht | ht
  ·subst ht;exact M ..
  ·exact T _ (Lj _ _ ht),(hf t ht).2⟩
theorem ZU (hi:Inj L)(hf: ∀ i,i<w.n->w.f i∈ L)(ht:t∈ L)(hd:bw w.f w.n (bg t)=C):w.full.at (bg t)=t:=by obtain⟨g1,g2,g3⟩:=lC _ _ _ hd;exact hi _ (hf (fD w.f w.n (bg t)).toNat (by omega)) t ht g3
theorem ET: ∀(V:List h_) (a:h_) (u:List h_),∃ r,V.foldl (λu x=>if x∈ u then u else u++[x]) (a::u)=a::r
 | [],a,u=>⟨u,rfl⟩
 | x::V,a,u=>by
   rw[ay];split
   ·exact ET V a u
   ·exact ET V a (u++[x])
theorem amH (fr to:h_)(l:List Rw): ∃ r,q9 fr to l=ctext 13 l::r:=by obtain⟨r,h⟩:=ET (Bl fr to 13 l []) (ctext 13 l) [];exact⟨r,h⟩
theorem uG {to:h_}{l:List Rw}(h:t∈ qz fr to l):t∈ jy 13 l:=by
 unfold qz at h;rcases ct.1 h with h | h
 ·subst h;exact M ..
 ·exact T _ (Lj _ _ h)
theorem Vb {to:h_}{l:List Rw}:t∈ q9 fr to l↔t∈ qz fr to l:=su _ _ rfl t
theorem UF {n':Nat}{f':Nat->h_}:kZ n f n' f'=C↔n=n'/\∀ i,i<n->f i=f' i:=by
 unfold kZ;rw[Bool.and_eq_true,m_,List.all_eq_true];constructor
 ·rintro⟨h1,h2⟩;exact⟨by omega,λi hi=>i_ (h2 i (ag.2 hi))⟩
 ·rintro⟨h1,h2⟩;exact⟨by omega,λi hi=>k_ (h2 i (ag.1 hi))⟩
theorem atB {e:List (h_×h_)}(he:NK e)(hn:e.length<=40)(hi:Inj (jy 13 (rowsOf e)))(hle:OR w.fr w.to=C)(h1:w.n=(q9 w.fr w.to (rowsOf e)).length)(h2: ∀ i,i<w.n->w.f i=(q9 w.fr w.to (rowsOf e)).getD i []) :
  sk (bg (ctext 13 (rowsOf e))) w=F (cG w.fr w.to e):=by
 have hr:=J2 he;have hl:(rowsOf e).length<=40:=by unfold rowsOf;rw[b_];exact hn
 have hb:=Va (fr:=w.fr) (to:=w.to) hr hl;obtain⟨r,hh⟩:=amH w.fr w.to (rowsOf e);have h0:0<w.n:=by rw[h1,hh];exact cy _
 have e0:w.f 0=ctext 13 (rowsOf e):=by rw[h2 0 h0,hh];rfl
 have hin: ∀ i,i<w.n->w.f i∈ jy 13 (rowsOf e):=λi hi=>by rw[h2 i hi];exact uG (Vb.1 (F9 (by omega)))
 have hf:Full w.full (qz w.fr w.to (rowsOf e)):=λt ht=>by
  have hd:bw w.f w.n (bg t)=true:=by
   obtain⟨q,hq,e1⟩:=bl (Vb.2 ht);have:w.f q=t:=by rw[h2 q (by omega),a_,a! hq];exact e1
   rw[← this];exact zf _ _ q (by omega)
  have ha:=ZU hi hin (uG ht) hd;refine⟨?_,ha⟩;unfold gF;rw[ha,(vp hr (uG ht)).1];show(bw w.f w.n (bg t)&&C)=C;rw[hd];rfl
 obtain⟨S,e1,e2,e3⟩: ∃ S,uZ (bg (ctext 13 (rowsOf e))) w.full=F S/\S.ns=q9 w.fr w.to (rowsOf e)/\S.fs=cG w.fr w.to e:=by
  refine⟨_,Ll (w:=w.full) hr hl (λx hx=>by obtain⟨e,_,rfl⟩:=c8.1 hx;exact Py e.1) hf,Xp (w:=w.full) hi hf _ _,?_⟩
  rw[afK];show []++n9 w.fr w.to [] (rowsOf e)=_;rw[W,Zn]
 have hs:kZ S.ns.length (λi=>S.ns.getD i []) w.n w.f=true:=by rw[e2];exact UF.2 ⟨h1.symm,λi hi'=>(h2 i (by omega)).symm⟩
 unfold sk;rw[hle,k_ h0,k_ (show w.n<=200 by omega),k_ (show bg (w.f 0)=_ by rw[e0]),e1];dsimp only;rw[hs,e3];rfl
theorem agu (r:Nat->h_): ∀(k i:Nat),i<k->cH (r i)=C->∃ j,j<fP r k/\iU r k j=af (r i)
 | 0,i,h,_=>absurd h (cx _)
 | k+1,i,h,hb=>by
   simp only[fP,iU];by_cases e:i=k
   ·subst e;rw[hb];exact⟨fP r i,d! _,by rw[cond_true,o_ rfl]⟩
   ·obtain⟨j,h1,h2⟩:=agu r k i (by omega) hb;cases cH (r k)with
    | false=>exact⟨j,h1,h2⟩
    | true=>exact⟨j,Nat.lt_succ_of_lt h1,by rw[cond_true,p_ (by omega)];exact h2⟩
theorem agZ {r:Nat->h_}: ∀ {k:Nat},(∀ j,j<k->cH (r j)=D)->fP r k=0
 | 0,_=>rfl
 | k+1,h=>by unfold fP;rw[h k (d! k)];exact agZ λj hj=>h j (by omega)
theorem aff {l:List Rw}(hm:m<=13)(h:dZ m l)(hl:l≠[])(hs:(ctext m l).length<32):nV (ctext m l)=0:=by
 obtain⟨h1,_,_⟩:=Ei (OE (jB hm h hl) (anN h hl) hs).1;unfold nV;refine agZ λj hj=> ?_;obtain⟨K,e,hK⟩:=Zy (Wp (L:=32) (t:=ctext m l) h1 hs hs);rcases hK j hj with e | e
 ·rw[show(getD (ctext m l)).r j=[] from e];rfl
 ·cases hb:cH ((getD (ctext m l)).r j)with
  | false=>rfl
  | true=>have:=ru hb;omega
theorem OC {P:h_->Prop}: ∀ {m:Nat} {l:List Rw},m<=13->dZ m l->l≠[]->(∀ j,j<nV (ctext m l)->P (lJ (ctext m l) j))->(∀ t,t∈ dH m l->P (bg t)->∀ j,j<nV t->P (lJ t j))->∀ t,t∈ dH m l->P (bg t)
 | 0,_,_,_,_,_,_,t,ht=>by cases ht
 | m+1,l,hm,h,hl,h0,hc,t,ht=>by
   unfold dH at ht;obtain⟨i,hi,ht⟩:=Z.1 ht;have hi:=ag.1 hi;by_cases e:bz l i=[]
   ·rw[o_ e] at ht;cases ht
   ·rw[p_ e] at ht;have ho:=mW h i;have hv:=jB (m:=m) (by omega) ho e;have er:(getD (ctext (m+1) l)).r i=j5 (ctext m (bz l i)):=by rw[sV (jB hm h hl),Hj m l hi,p_ e]
    by_cases hs:(ctext m (bz l i)).length<32
    ·rw[o_ hs,W] at ht;exact OC (by omega) ho e (λj hj=>by rw[aff (by omega) ho e hs] at hj;exact absurd hj (cx _)) (λu hu=>hc u (R7 hi e hu)) t ht
    ·rw[p_ hs] at ht;obtain⟨g1,g2,_⟩:=tv hs;have hp:P (bg (ctext m (bz l i))):=by obtain⟨j,hj,e2⟩:=agu (getD (ctext (m+1) l)).r 16 i hi (by rw[er];exact g1);have:=h0 j hj;unfold lJ at this;rw[e2,er,g2] at this;exact this
     rcases b!.1 ht with ht | ht
     ·rw[c_] at ht;subst ht;exact hp
     ·exact OC (by omega) ho e (hc _ (acw hi e hs) hp) (λu hu=>hc u (R7 hi e hu)) t ht
theorem axK {P:h_->Prop}{l:List Rw}(h:dZ 13 l)(h0:P (bg (ctext 13 l)))(hc: ∀ t,t∈ jy 13 l->P (bg t)->∀ j,j<nV t->P (lJ t j)): ∀ t,t∈ jy 13 l->P (bg t):=by
 intro t ht;unfold jy at ht;rcases ct.1 ht with ht | ht
 ·subst ht;exact h0
 ·by_cases e:l=[]
  ·subst e;have:dH 13 []=[]:=zg λi _=>rfl;rw[this] at ht;cases ht
  ·exact OC (J _) h e (hc _ (M ..) h0) (λu hu=>hc u (T _ hu)) t ht
noncomputable def Bf (n:Nat)(f g:Nat->h_)(y:JG)(fr to:h_):Sp:=⟨fr,to,(sw n f g).length,vr n f g,C,0,0,ko y.Fr,fD (vr n f g) (sw n f g).length⟩
theorem agz {u:h_}(hu:u∈ jy 13 (aQ n (λi=>ak (f i)) g)): ∃ q,q<(sw n f g).length/\vr n f g q=u:=by obtain⟨q,hq,e⟩:=bl ((su _ _ rfl _).2 hu);refine⟨q,hq,?_⟩;show(fJ _).getD q []=u;rw[a_,a! hq];exact e
theorem Eh (n:Nat)(f g:Nat->h_):vr n f g 0=ctext 13 (aQ n (λi=>ak (f i)) g):=by obtain⟨r,h⟩:=ET (dH 13 (aQ n (λi=>ak (f i)) g)) (ctext 13 (aQ n (λi=>ak (f i)) g)) [];have:sw n f g=ctext 13 (aQ n (λi=>ak (f i)) g)::r:=h;unfold vr;rw[this];rfl
theorem adv (h:kz (sw n f g).length (vr n f g)=C):Inj (jy 13 (aQ n (λi=>ak (f i)) g)):=λt ht u hu e=>by obtain⟨q,hq,rfl⟩:=agz ht;obtain⟨r,hr,rfl⟩:=agz hu;exact F3 h hr hq e
theorem avV (hc:iT n f g=0)(ha:kz (sw n f g).length (vr n f g)=C){y:JG}(hy:UZ (sw n f g).length (vr n f g) (bg (vr n f g 0)) y)(fr to:h_) :
  Full (Bf n f g y fr to) (jy 13 (aQ n (λi=>ak (f i)) g)):=by
 have hr:=nX hc;have self: ∀ t,t∈ jy 13 (aQ n (λi=>ak (f i)) g)->K9 (sw n f g).length (vr n f g) (bg t)=t:=λt ht=>by obtain⟨q,hq,rfl⟩:=agz ht;exact asD ha hq
 have hin:=axK (P:=λh=>h∈ y.Fr) hr (by rw[← Eh];exact hy.bf.root) λt ht hp j hj=>by
  obtain⟨k,hk,e⟩:=bl hp;have e1:y.Fr.getD k []=bg t:=by rw[a_,a! hk];exact e
  have:=hy.bf.clo k hk hk j;rw[e1,self t ht] at this;exact this hj
 intro t ht;have hat:(Bf n f g y fr to).at (bg t)=t:=self t ht;refine⟨?_,hat⟩;unfold gF;rw[hat,(vp hr ht).1];show(ko y.Fr (bg t)&&C)=C;unfold ko;rw[k_ (hin t ht)];rfl
theorem avW (hc:iT n f g=0)(ha:kz (sw n f g).length (vr n f g)=C){y:JG}(hy:UZ (sw n f g).length (vr n f g) (bg (vr n f g 0)) y)(fr to:h_) :
  ∃ s,uZ (bg (vr n f g 0)) (Bf n f g y fr to)=F s/\s.ns=q9 fr to (aQ n (λi=>ak (f i)) g):=by
 have hr:=nX hc;have hf:=(avV hc ha hy fr to).mono (L':=qz fr to (aQ n (λi=>ak (f i)) g)) λt ht=>uG ht;have hl:(aQ n (λi=>ak (f i)) g).length<=40:=by rw[fI];exact(nW hc).2
 refine⟨_,?_,Xp (w:=Bf n f g y fr to) (adv ha) hf (n9 fr to [] (aQ n (λi=>ak (f i)) g)) (yT fr to 13 (aQ n (λi=>ak (f i)) g) [])⟩;rw[Eh];exact Ll (w:=Bf n f g y fr to) hr hl (λx hx=>by rw[vN] at hx;obtain⟨e,_,rfl⟩:=c8.1 hx;exact Py e.1) hf
structure UX where
 n:Nat
 f:Nat->h_
 g:Nat->h_
 y:JG
 fr:h_
 to:h_
 root:h_
 room:Int
noncomputable def UX.ns (x:UX):List h_:=q9 x.fr x.to (aQ x.n (λi=>ak (x.f i)) x.g)
structure Rm (n:Nat)(f g:Nat->h_)(y:JG):Prop where
 E7:iT n f g=0
 apart:kz (sw n f g).length (vr n f g)=C
 st:UZ (sw n f g).length (vr n f g) (bg (vr n f g 0)) y
structure Rl (x:UX):Prop where
 held:Rm x.n x.f x.g x.y
 fr:x.fr.length<=1000
 to:x.to.length<=1000
 root:x.root=gQ x.n x.f x.g∨x.root.length≠32
def vq (room:Int)(y:JG):Mem:=[(0,pg room 1),(1,.fmap (ko y.Fr) (.ref 2 y.g) X)]
noncomputable def xM:mg :=
 {G:=UX,n:=3,N:=4,pre:=Rl,args:=λx=>[.ptr 0 C 0,.str D x.root,.agg [.str D x.fr,.str D x.to]],mem:=λx=>vq x.room x.y++[(2,x.y.A.afQ)],
  Fg:=λx=>.fork (decide (x.root=gQ x.n x.f x.g)) λb=>match b with
   | false=>.ret (.dr [.bW,.int .i64 C 4]) (vq x.room x.y)
   | true=>.fork (OR x.fr x.to) λb=>match b with
     | false=>.ret (.dr [.bW,.int .i64 C 1]) (vq x.room x.y)
     | true=>.all Nat λc=>.req (x.ns.length<=c) (.ret (.dr [.bY 3 1 C 0 x.ns.length c,.int .i64 C 0]) (vq x.room x.y++[(3,.rows C x.ns.length [xW x.ns] D (c*1) 9)]))}
noncomputable def af1:iG:={bQ with cO:=λf=>av f (V1 401)}
theorem ayB:Sx.Good O af1:=.of bI (akd 401) aO
end
end Go.Proofs.YtoibaecagklkaaaGreatDoor
