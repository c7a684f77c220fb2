/- A part of the proof. -/
import Derived.Test.YtoibaecagklkaaaGreatDoorMr
open Bool renaming and_eq_true->a!,false->C,not_eq_false'->c5,not_eq_true'->Z,or_eq_true->c6,true->F
open Decidable renaming byContradiction->ey,decide->M
open Go.Op renaming bytesLess->ag
open Go.Proofs.Tryz renaming f107->bf,f118->bl,f119->bn,f120->X,f21->b_,f218->b!,f23->cj,f26->cl,f72->ct,func120->cx,prog->I
open Int renaming toNat_natCast->cy
open List renaming dropLast_concat_getLast->c7,filter_append->c8,filter_cons->c_,flatten_append->c!,getElem?_eq_getElem->d_,length->K,length_append->O,length_cons->Y,length_eq_zero_iff->d!,length_nil->ei,map_append->ej,mem_append->an,mem_map->cB,mem_range->ay,mem_singleton->cL,nil->Q,range_succ->en,take_of_length_le->ep
open Nat renaming blt_eq->er,le_refl->S,succ_pos->eu,zero_add->a_,zero_le->c4
open Option renaming none->J,some->V
open UInt8 renaming ofNat->W
namespace Go.Proofs.YtoibaecagklkaaaGreatDoor
open Go Sx
variable {b:h_}{c c' i n:Nat}{f g:Nat->h_}{ty:TypeId}
section
open Go Sx
set_option maxRecDepth 20000
def fJ (l:List h_):List h_:=l.foldl (λu x=>if x∈ u then u else u++[x]) []
theorem EU (l:List h_)(x:h_):fJ (l++[x])=if x∈ fJ l then fJ l else fJ l++[x]:=by unfold fJ;rw[List.foldl_append];rfl
theorem su: ∀(n:Nat) (l:List h_),l.length=n->∀ s,s∈ fJ l↔s∈ l
 | 0,l,h,s=>by rw[d!.1 h];exact Iff.rfl
 | n+1,l,h,s=>by
   obtain⟨k,x,rfl⟩: ∃ k x,l=k++[x]:=⟨l.dropLast,l.getLast (by intro e;rw[e] at h;cases h),(c7 _).symm⟩
   have ih:=su n k (by rw[O] at h;simpa using h);rw[EU];by_cases hx:x∈ fJ k
   ·rw[o_ hx,ih s,an,cL];exact⟨.inl,λh=>h.elim id λe=>e▸ (ih x).1 hx⟩
   ·rw[p_ hx,an,an,ih s]
theorem Js: ∀(n:Nat) (l:List h_),l.length=n->(fJ l).length<=n
 | 0,l,h=>by rw[d!.1 h];exact S _
 | n+1,l,h=>by
   obtain⟨k,x,rfl⟩: ∃ k x,l=k++[x]:=⟨l.dropLast,l.getLast (by intro e;rw[e] at h;cases h),(c7 _).symm⟩
   have ih:=Js n k (by rw[O] at h;simpa using h);rw[EU];split
   ·omega
   ·rw[O];simpa using ih
def pO (l:List h_)(s:h_):Int:=(l.count s:Int)
def uJ (l:List h_)(s:h_):Bool:=M (s∈ l)
noncomputable def ad4:List (FuncId×PT):=(62,bV UH JX)::(64,bV UH QN)::(63,Aw 13)::mX
theorem S3:aR I (λf=>av f ad4):=.cons anH (bR _ _) (.cons asj (bR _ _) (.cons (R8 13) (He 13) gT))
def azK (l:List h_):fC:=.all Nat λc=>.req (l.length<=c) (.new (λk=>.dr [.bY k 1 F 0 l.length c,.int .i64 F 0]) (.rows F l.length [.str λi=>l.getD i []] C (c*1) 9))
def Wv (n:Nat)(f g:Nat->h_):fC:=.fork (M (iT n f g=0)) λb=>match b with
 | true=>azK (fJ (jy 13 (aQ n (λi=>ak (f i)) g)))
 | false=>.fork (M (iT n f g=1)) λb=>match b with
   | true=>.ret (.dr [.bW,.int .i64 F 1])
   | false=>.ret (.dr [.bW,.int .i64 F 12])
def YH (R:Loop)(P:Pd)(key:Nat)(L:List h_)(c:Nat):Mem:=[(1,.cells [.bY key 1 F 0 (fJ L).length c] 1 29),(key,.rows F (fJ L).length [.str λi=>(fJ L).getD i []] C (c*1) 9),(2,.fmap (uJ L) (.int .i64 (pO L)) J),
 (3,.cells [.map 2] 1 90),(9,.loop .ready J R),(6,P.parts 7),(7,P.lists 6)]
structure NoS where
 L:List h_
 c:Nat
 P:Pd
 s:h_
def cyN (R:Loop):vV :=
 {G:=NoS,N:=10,H:=11,pre:=λx=>x.L.length<=100000/\(fJ x.L).length<=x.c,args:=λx=>[.str C x.s],mem:=λx=>YH R x.P 10 x.L x.c,val:=λ_=>.bool F F,B:=Nat,
  post:=λx c=>(fJ (x.L++[x.s])).length<=c,back:=λx c=>YH R x.P 10 (x.L++[x.s]) c}
structure TeS where
 L:List h_
 c:Nat
 P:Pd
 a:Nat
 T:List h_
def ctN (R:Loop)(d:Nat):vV :=
 {G:=TeS,N:=10,H:=11,pre:=λx=>Told x.P d x.a x.T/\(x.L++x.T).length<=100000/\(fJ x.L).length<=x.c,args:=λx=>[.l7 6 x.a 0,.yield 9],mem:=λx=>YH R x.P 10 x.L x.c,val:=λ_=>.bool F F,B:=Nat,
  post:=λx c=>(fJ (x.L++x.T)).length<=c,back:=λx c=>YH R x.P 10 (x.L++x.T) c}
def avO (st:Sx.St):List Nat:=match st.m.get 1 with
 | some (.cells [.bY k _ _ _ _ _] _ _)=>[k]
 | _=>[]
def vz (x:TeS)(Ks:List (List h_))(i:Nat):List h_:=x.L++x.P.mP x.a::(Ks.take i).flatten
noncomputable def aue (R:Loop)(x:TeS)(Ks:List (List h_)):aN :={α:=Nat×Nat,pre:=λ_ y=>y.1<=Ks.length/\(fJ (vz x Ks y.1)).length<=y.2,nF:=λ_ y=>Ks.length-y.1,fresh:=1,slots:=λ_ y=>[(19,.int .i64 C y.1)],mem:=λst y=>YH R x.P st.nx (vz x Ks y.1) y.2,drop:=avO}
noncomputable def axy (R:Loop)(d:Nat)(x:TeS)(Ks:List (List h_)):VC :=lZ I (recC 107 (tU (ctN R d))) [(9,tU (cyN R))] Ny [(4,always (aue R x Ks))] 100 bf ((ctN R (d+1)).args x) ((ctN R (d+1)).mem x) 11 ((ctN R (d+1)).fit x)
noncomputable def af6:iG:={bQ with cO:=λf=>av f ad4,iter:=λf=>if f=107 then V (YJ 9 10 cyN (λR=>ctN R 14))else J}
section
variable (n m : Nat) (f : Nat × Nat) (o : Nat-> h_) (g : Bool) (x : TeS) (y : NoS) (h : List h_) (z : List (List h_))
abbrev Ih:=y.L++[y.s]
abbrev nR:=aj (Er g) (Er n) (b8 m m)
abbrev Fw:=x.L++x.T
abbrev k6:=K (fJ h)
abbrev ve:=k6 y.L
abbrev aaa:=cY (k6 x.L) (aF x.c) (λa=>aU a (fJ x.L)) 9
abbrev ahg:=dflt (uJ y.L y.s) (pO y.L y.s)+1
abbrev aaj:=eO (uJ x.L) (pO x.L)
abbrev TL:=br n 1000 (∀(a:Nat),a<n->bS (o a))
abbrev P0:List SV:=[bq 12]
abbrev aam:=eY 1 (SV.map 2) Q 90
abbrev P9:=gV vB
abbrev aay:=cY (k6 (Ih y)) (aF n) (λa=>aU a (fJ (Ih y))) 9
abbrev aaz:=cY (k6 (Fw x)) (aF n) (λa=>aU a (fJ (Fw x))) 9
abbrev aq2:=aa (eO (kQ (uJ y.L) y.s) (qh (pO y.L) y.s (ahg y))) (eO (uJ (Ih y)) (pO (Ih y)))
abbrev Mo:=k6 (Ih y)
abbrev Mp:=k6 (Fw x)
abbrev aii:=fF (K y.L) 100000 (ve y) y.c
abbrev aik:=fF (K (Fw x)) 100000 (k6 x.L) x.c
abbrev aiO:=Pl.n vB uy
abbrev Z7:=cY (k6 (vz x z f.1)) (aF f.2) (λa=>aU a (fJ (vz x z f.1))) 9
abbrev aad:=eO (uJ (vz x z f.1)) (pO (vz x z f.1))
abbrev aqu:=gr 2 165 (bJ x.P.mP [jV 7 1 x.P.fb x.P.nb x.P.cb]) x.P.D
abbrev aqw:=mz x.P.n2 x.P.D2 [uQ 6 x.P]
abbrev aij:=fF f.1 (K z) (k6 (vz x z f.1)) f.2
end
theorem aAH (R:Loop)(d:Nat)(x:TeS)(Ks:List (List h_)):dw (jh 1 (m4 0 0 (gV (jW (gV (dJ (iE (dJ (uO (wJ (jh 0 P9)))) (jh 2 (m4 1 0 (gV (jW (gV (jW (uO (wJ (jh 0 P9))))))))) (Pl.s 2 aiO)))))))) (axy R d x Ks) (aV (x.P.D x.a)/\(∃(a:NoS),az (aii a) (x.P.mP x.a=a.s) (aK (k6 x.L) (ve a) x.c a.c) (aC (aa (aaa x) (bN (ve a) (aF a.c) 9 (bJ (λb=>aU b (fJ a.L)) Q))) (aa (aaj x) (eO (uJ a.L) (pO a.L))) (uR 7 (aqu x) a.P) (pS 6 (aqw x) a.P) (∀(b:Nat),aJ (Mo a) b (aj (aV (a.P.D x.a)) (∃(c:Nat×Nat),az (aij c x Ks) (mL c) (Mo a=k6 (vz x Ks c.1)/\b=c.2) (aC (aa (aay b a) (Z7 c x Ks)) (aa (eO (uJ (Ih a)) (pO (Ih a))) (aad c x Ks)) (bH 1 aam [SV.map (pE 10 11 2)] 90) (uR 7 (gr 2 165 (bJ a.P.mP [jV (pE 10 11 7) 1 a.P.fb a.P.nb a.P.cb]) a.P.D) x.P) (pS 6 (mz a.P.n2 a.P.D2 [uQ (pE 10 11 6) a.P]) x.P))) (∀(b:Nat×Nat),aij b x Ks->lS (a.P.nb x.a) (eD b) (aj (cw (a.P.nb x.a) (eD b)) (aV (x.P.D2 (a.P.fb x.a))/\fZ b<x.P.n2 (a.P.fb x.a)) (∃(c:TeS),cM (Told c.P d c.a c.T) (aik c) (x.P.g (a.P.fb x.a) (fZ b)=c.a) (aK (k6 (vz x Ks b.1)) (k6 c.L) b.2 c.c) (aC (aa (Z7 b x Ks) (aaa c)) (aa (aad b x Ks) (aaj c)) (uR 7 (aqu x) c.P) (pS 6 (aqw x) c.P) (∀(a:Nat),cN (Mp c) a (kP b) (∃(d:Nat×Nat),cM (aij d x Ks) (aP (K Ks) d.1 (K Ks) b.1) (j8 b d) (Mp c=k6 (vz x Ks d.1)/\a=d.2) (aC (aa (aaz a c) (Z7 d x Ks)) (aa (eO (uJ (Fw c)) (pO (Fw c))) (aad d x Ks)) (bH 1 aam [SV.map (pE 10 (aB (11+11)) 2)] 90) (uR 7 (gr 2 165 (bJ c.P.mP [jV (pE 10 (aB (11+11)) 7) 1 c.P.fb c.P.nb c.P.cb]) c.P.D) x.P) (pS 6 (mz c.P.n2 c.P.D2 [uQ (pE 10 (aB (11+11)) 6) c.P]) x.P))))))) (∃(a:Nat),cX (Mp x<=a) (aK (k6 (vz x Ks b.1)) (Mp x) b.2 a) (aa (aad b x Ks) (eO (uJ (Fw x)) (pO (Fw x)))) (Z7 b x Ks) (aaz a x)))))))):=⟨by kernel_rfl,by kernel_rfl⟩
theorem awx (n:Nat)(f g:Nat->h_)(z:Bool)(o c:Nat)(key:Option Nat):dw (m4 3 0 (oe (wP 1 4 2 aiO aiO) (jh 0 (oy 1 0 P9)))) (je af6 26 cl [.cT 0 2 z o 0 n c] [fX z o c n f g key] (Wv n f g)) ((fun(a:TeS->Nat->SV)=>cE (aD (nR o n z) True (dy n)) (bE (iT n f g) 0 (∃(a:Nat),br (k6 (jy 13 (kK n f g))) a False) (bE (iT n f g) 1 (ai (yH (wZ n f g)) (yH kI)) (ai (yH (wZ n f g)) (cU SV.bW P0)))) (aD (nR o n z) True (TL n f)/\(∀(b:Nat),aJ (zV n f g) b (∃(c:List Rw×Nat),cX (aj (dZ 13 c.1) (gA (mG c)) (13<=13)) (aK (zV n f g) (mG c) b c.2) (∀(b:Nat×Pd),Told b.2 14 b.1 (jy 13 c.1)->(∀(_:Loop),(∀(a:NoS),aii a->I6 (ahg a)/\bE (dflt (kQ (uJ a.L) a.s a.s) (qh (pO a.L) a.s (ahg a) a.s)) 1 (gL (ve a) (ve a) 2 (ve a) 16 (ve a)/\(∀(b:Nat),aJ (aB (ve a)) b (∃(c:Nat),az (Mo a<=c) (aK (aB (ve a)) (Mo a) b c) (eZ (aB (ve a)) (aF b) (λb=>dg b (ve a) b (ve a) (aU b (fJ a.L)) a.s) (aay c a) 9) (aq2 a)))) (∃(b:Nat),az (Mo a<=b) (aK (ve a) (Mo a) a.c b) (cv (ve a) (aF a.c) (aay b a) 9 (bJ (λb=>aU b (fJ a.L)) Q)) (aq2 a)))/\(∃(c:TeS),aT (Told c.P 14 c.a c.T/\aik c) (b.1=c.a) (k6 c.L=0) (fo (aaa c)) (aa vk (aaj c)) (bH 1 aam [SV.map (aB 1)] 90) (uR 7 (gr 2 165 (bJ b.2.mP [jV 7 1 b.2.fb b.2.nb b.2.cb]) b.2.D) c.P) (pS 6 (mz b.2.n2 b.2.D2 [uQ 6 b.2]) c.P) (∀(b:Nat),aJ (Mp c) b (bE (iT n f g) 0 (∃(d:Nat),dx (k6 (jy 13 (kK n f g))<=d) (aa (aaz b c) (cY (k6 (jy 13 (kK n f g))) (aF d) (λa=>aU a (fJ (jy 13 (kK n f g)))) 9)) (a c b) (fU (dh (pE 10 (oE (oE C1+3)) 10) 1 (k6 (jy 13 (kK n f g))) d))) (bE (iT n f g) 1 (ai (a c b) (yH kI)) (ai (a c b) (cU SV.bW P0)))))))) (T6 n b f g) (Mq c)))) (cJ (iT n f g) 0)) (λa=>λb=>fU (dh (pE 10 (oE (oE C1+3)) 10) 1 (Mp a) b))):=⟨by kernel_rfl,by kernel_rfl⟩
theorem Lf {u u':List h_}(h:u=u')(hc:c=c'):aa (.rows F u.length [.str λi=>u.getD i []] C (c*1) ty) (.rows F u'.length [.str λi=>u'.getD i []] C (c'*1) ty):=by subst h;subst hc;exact aa.refl _
theorem abZ {L L':List h_}(h:L=L'):aa (.fmap (uJ L) (.int .i64 (pO L)) J) (.fmap (uJ L') (.int .i64 (pO L')) J):=by subst h;exact aa.refl _
theorem apx (x:TeS)(Ks:List (List h_))(i:Nat)(hi:i<Ks.length):vz x Ks (i+1)=vz x Ks i++Ks[i]:=by unfold vz;rw[List.take_add_one,d_ hi,c!];simp
theorem ava (x:TeS)(Ks:List (List h_))(hT:x.T=x.P.mP x.a::Ks.flatten)(i:Nat)(hi:Ks.length<=i):vz x Ks i=x.L++x.T:=by unfold vz;rw[ep hi,hT]
theorem avb (x:TeS)(Ks:List (List h_))(hT:x.T=x.P.mP x.a::Ks.flatten)(i:Nat):(vz x Ks i).length<=(x.L++x.T).length:=by
 have h:Ks.flatten=(Ks.take i).flatten++(Ks.drop i).flatten:=by rw[← c!,List.take_append_drop]
 unfold vz;rw[hT,h];simp only[O,Y];omega
theorem afk (R:Loop)(d:Nat)(x:TeS)(hx:(ctN R (d+1)).pre x): ∃ bU,au (lZ I (recC 107 (tU (ctN R d))) [(9,tU (cyN R))] Ny bU 100 bf ((ctN R (d+1)).args x) ((ctN R (d+1)).mem x) (ctN R (d+1)).H ((ctN R (d+1)).fit x)):=by
 obtain⟨⟨hD,Ks,hnb,hD2,hT,hK⟩,hlen,hc⟩:=hx;have key:au (axy R d x Ks):=by
  refine au.xD (aAH R d x Ks) (by delta Fk I6 Ix NI aM aJ aF aj bH aC az cM bt eY cw bN bJ cY aB aV br eD j8 mL fF kP aP cN cX lS aU iM eO fZ aK gr jV pS mz uQ uR Ih Fw k6 ve aaa aaj aam aay aaz Mo Mp aii aik Z7 aad aqu aqw aij;exact rfl) ?_;have hlen:(x.L++x.T).length<=100000:=hlen;have hL:x.L.length<=100000:=by rw[O] at hlen;omega
  refine⟨hD,⟨x.L,x.c,x.P,x.P.mP x.a⟩,⟨hL,hc⟩,rfl,⟨rfl,rfl⟩,aa.refl _,aa.refl _,aa.refl _,aa.refl _,λy hy=>⟨hD,⟨(0,y),⟨c4 _,hy⟩,rfl,⟨rfl,rfl⟩,aa.refl _,aa.refl _,aa.refl _,aa.refl _,aa.refl _⟩,λz hz=>⟨λh=> ?_,λh=> ?_⟩⟩⟩
  ·obtain⟨i,c⟩:=z;obtain⟨hz1,hz2⟩:=hz;have hi:i<Ks.length:=by have:(i:Int)<(x.P.nb x.a:Int):=i_ h;omega
   have hpos:0<Ks.length:=by omega
   have hd:=hD2 hpos;have ek:(0:Nat)+((i:Nat):Int).toNat=i:=by omega
   have em:=apx x Ks i hi;have hml:=avb x Ks hT (i+1);rw[em] at hml;refine⟨⟨by omega,by show(i:Int)<(x.P.nb x.a:Int);omega⟩,⟨hd.1,by rw[ek];exact Nat.lt_of_lt_of_le hi hd.2⟩,⟨vz x Ks i,c,x.P,x.P.g (x.P.fb x.a) i,Ks[i]⟩,⟨hK i _ (d_ hi),by show(vz x Ks i++Ks[i]).length<=_;omega,hz2⟩,by rw[ek],⟨rfl,rfl⟩,aa.refl _,aa.refl _,aa.refl _,aa.refl _,λy hy=> ?_⟩;have hl:Ks.length<=100000:=by have:=Rj (P:=x.P) (d:=d) (n:=Ks.length) (f:=λi=>x.P.g (x.P.fb x.a) i) (B:=Ks.flatten) ⟨Ks,rfl,rfl,hK⟩;rw[O,hT,Y] at hlen;omega
   have ec:fJ (vz x Ks i++Ks[i])=fJ (vz x Ks (i+1)):=congrArg fJ em.symm;refine⟨⟨by omega,by omega⟩,(i+1,y),⟨⟨hi,?_⟩,by show _-(i+1)<_-i;omega⟩,by show(i:Int)+1=((i+1:Nat):Int);omega,⟨congrArg K ec,rfl⟩,Lf ec rfl,abZ em.symm,aa.refl _,aa.refl _,aa.refl _⟩;show(fJ (vz x Ks (i+1))).length<=y;rw[← ec];exact hy
  ·obtain⟨i,c⟩:=z;obtain⟨hz1,hz2⟩:=hz;have hi:Ks.length<=i:=by have: ¬ (i:Int)<(x.P.nb x.a:Int):=j_ h;omega
   have em:=ava x Ks hT i hi;have hz2:(fJ (vz x Ks i)).length<=c:=hz2;exact⟨c,by rw[← em];exact hz2,⟨congrArg (λl=>(fJ l).length) em,rfl⟩,Lf (congrArg fJ em) rfl,abZ em⟩
 exact⟨_,key⟩
theorem aj7:UY I 107 (YJ 9 10 cyN (λR=>ctN R 14)) :=aoM (n:=100) bI Tryz.func107 (by kernel_rfl) (by decide) (λ_=>rfl) (λ_ _=>rfl) (λR x h=>h.1) λR d x hx _=>afk R d x hx
theorem ayW:Sx.Good I af6:=.of bI S3 aO λf g h=>by
 simp only[af6] at h;split at h
 ·rename_i e;injection h with h;subst e;subst h;exact aj7
 ·cases h
theorem N5 (L:List h_)(s:h_):dflt (uJ L s) (pO L s)=pO L s:=by
 unfold dflt uJ pO;by_cases h:s∈ L
 ·rw[k_ h];rfl
 ·rw[l_ h,List.count_eq_zero_of_not_mem h];rfl
theorem aov (L:List h_)(s t:h_):kQ (uJ L) s t=uJ (L++[s]) t:=by unfold kQ uJ;rw[Bool.eq_iff_iff,c6,m_,m_,m_,an,cL]
theorem anO (L:List h_)(s t:h_):qh (pO L) s (pO L s+1) t=pO (L++[s]) t:=by
 unfold qh pO;rw[List.count_append,List.count_singleton];by_cases h:t=s
 ·subst h;simp
 ·rw[l_ h];have: ¬ s=t:=λe=>h e.symm;simp[this]
theorem agc (L:List h_)(s:h_):aa (.fmap (kQ (uJ L) s) (.int .i64 (qh (pO L) s (dflt (uJ L s) (pO L s)+1))) J) (.fmap (uJ (L++[s])) (.int .i64 (pO (L++[s]))) J):=by rw[N5];exact aa.fmap (aov L s) λt=>congrArg (Value.int .i64) (anO L s t)
theorem agd (L:List h_)(s:h_):dflt (kQ (uJ L) s s) (qh (pO L) s (dflt (uJ L s) (pO L s)+1) s)=1↔s∉ L:=by
 have h1:kQ (uJ L) s s=true:=by unfold kQ;simp
 have h2:qh (pO L) s (dflt (uJ L s) (pO L s)+1) s=pO L s+1:=by unfold qh;rw[N5];simp
 rw[h1,h2];show pO L s+1=1↔_;unfold pO;rw[← List.count_eq_zero];omega
theorem ayg (L:List h_)(s:h_):0<=pO L s/\pO L s<=(L.length:Int):=by unfold pO;have:=List.count_le_length (a:=s) (l:=L);omega
theorem av7 {u:List h_}{s:h_}{u':List h_}(h:u'=u++[s])(hc:c=c'):aa (.rows F (u.length+1) [.str λj=>if j<u.length then u.getD j [] else l9 [s] (j-u.length)] C (c*1) ty) (.rows F u'.length [.str λi=>u'.getD i []] C (c'*1) ty):=by
 subst h;subst hc;refine tM (by simp) rfl rfl λk c c' h1 h2 i hi E=> ?_
 match k,h1,h2 with
 | 0,h1,h2 =>
   injection h1 with h1;injection h2 with h2;subst h1;subst h2;simp only[bh.at,SV.val];rw[DR u s [] i hi];by_cases h:i<u.length
   ·rw[o_ h,o_ h]
   ·rw[p_ h,p_ h];rfl
 | k+1,h1,_=>simp at h1
theorem akx (n:Nat)(f g:Nat->h_):aQ (n+1) f g=aQ n f g++[(f n,g n)]:=by unfold aQ;rw[en,ej];rfl
theorem O4 {r:Rw}(h:r∈ aQ n f g): ∃ i,i<n/\r=(f i,g i):=by unfold aQ at h;obtain⟨i,hi,rfl⟩:=cB.1 h;exact⟨i,ay.1 hi,rfl⟩
theorem agn {f g:Nat->h_}: ∀ {n:Nat},(∀ i,i<n->qC f g i=F)->∀ i,i+1<n->ag (f i) (f (n-1))=F
 | 0,_,i,hi=>by omega
 | n+1,h,i,hi=>by
   have h1:ag (f (n-1)) (f n)=true:=by
    have:=h n (Nat.lt_succ_self n);unfold qC at this;simp only[a!,c6,m_] at this;rcases this.2.2 with e | e
    ·omega
    ·exact e
   show ag (f i) (f n)=F;by_cases e:i+1=n
   ·rw[← e] at h1;rw[← e];exact h1
   ·exact OY (agn (λj hj=>h j (by omega)) i (by omega)) h1
theorem Sk {f g:Nat->h_}: ∀ {n:Nat},(∀ i,i<n->qC f g i=F)->(aQ n f g).Pairwise λa b=>ag a.1 b.1=F
 | 0,_=>List.Pairwise.nil
 | n+1,h=>by rw[akx,List.pairwise_append];refine⟨Sk λi hi=>h i (by omega),List.pairwise_singleton _ _,λa ha b hb=> ?_⟩;obtain⟨i,hi,rfl⟩:=O4 ha;rw[cL] at hb;subst hb;exact agn h i (by omega)
theorem nW (h:iT n f g=0):NK (aQ n f g)/\n<=40:=by
 unfold iT at h;cases he:Yg n f g with
 | false=>rw[he] at h;exact absurd (show(1:Int)=0 from h) (by decide)
 | true =>
   rw[he,cond_true] at h;have hall: ∀ i,i<n->qC f g i=true:=λi hi=>List.all_eq_true.1 he i (ay.2 hi);refine⟨⟨Sk hall,λx hx=> ?_,λx hx=> ?_⟩,?_⟩
   ·obtain⟨i,hi,rfl⟩:=O4 hx;have:=hall i hi;unfold qC Ki at this;simp only[a!,Z,m_,n_] at this;exact⟨this.1.1,by have:=this.1.2;show(f i).length<=6;omega⟩
   ·obtain⟨i,hi,rfl⟩:=O4 hx;have:=hall i hi;unfold qC EX at this;simp only[a!,Z,m_,n_] at this;exact⟨List.length_pos_iff.2 this.2.1.1,by have:=this.2.1.2;show(g i).length<=80;omega⟩
   ·by_cases h40:(40:Int)<(n:Int)
    ·rw[o_ h40] at h;exact absurd h (by decide)
    ·omega
theorem ajF (n:Nat)(f g:Nat->h_):iT n f g=0∨iT n f g=1∨iT n f g=12:=by
 unfold iT;cases Yg n f g with
 | false=>exact .inr (.inl rfl)
 | true =>
   rw[cond_true];by_cases h:(40:Int)<(n:Int)
   ·rw[o_ h];exact .inr (.inr rfl)
   ·rw[p_ h];exact .inl rfl
theorem anI (h: ¬ iT n f g=0)(h1: ¬ iT n f g=1):iT n f g=12:=by
 rcases ajF n f g with e | e | e
 ·exact absurd e h
 ·exact absurd e h1
 ·exact e
theorem NJ {v:SV}{k:IntKind}{a b:Int}{l l':Bool}(h:a=b):ai (.dr [v,.int k l a]) (.dr [v,.int k l' b]):=by subst h;exact λE=>rfl
theorem vN (n:Nat)(f g:Nat->h_):aQ n (λi=>ak (f i)) g=rowsOf (aQ n f g):=by unfold aQ rowsOf;rw[List.map_map];rfl
theorem nX (h:iT n f g=0):dZ 13 (aQ n (λi=>ak (f i)) g):=by rw[vN];exact J2 (nW h).1
theorem afN (m:Nat)(l:List Rw):(jy m l).length<=m*l.length+1:=by have:=JR m l;unfold jy;rw[Y];omega
theorem ZB (n:Nat)(f g:Nat->h_)(hn:n<9223372036854775808)(z:Bool)(o c:Nat)(key:Option Nat):au (je af6 26 cl [.cT 0 2 z o 0 n c] [fX z o c n f g key] (Wv n f g)):=by
 refine au.xD (awx n f g z o c key) (by delta Fk Bk I6 Er aJ aF bF bq kI cP aj qd bH aC az cU bE eY cJ dy aD fU aX bN bJ cY aB oE b8 gZ yH dh cv aV br fo dx eZ dg fF gY aT cX bS cE aU gL eO bG aK iY DG kK T6 zV wZ gr jV pS mz uQ uR mG Mq gA C1 vk Ih nR Fw k6 ve aaa ahg aaj TL P0 aam aay aaz aq2 Mo Mp aii aik;exact rfl) ?_;simp only[a_,S,true_and,and_true,Z,c5,m_,n_];refine⟨hn,λh=>⟨λh'=>absurd h' h,λ_=>⟨λe=>NJ e,λe=>NJ (anI h e)⟩⟩,λh=> ?_⟩;obtain⟨he,h40⟩:=nW h;have hro:=nX h;have hl:=fI n (λi=>ak (f i)) g;refine⟨⟨by omega,λi hi=> ?_⟩,λc hc=>⟨(aQ n (λi=>ak (f i)) g,c),⟨hro,by rw[hl];omega⟩,⟨rfl,rfl⟩,?_,λx hx R=>⟨λy hy=> ?_,?_⟩⟩⟩
 ·have:=(he.key (f i,g i) (by unfold aQ;exact cB.2 ⟨i,ay.2 hi,rfl⟩)).2;have:(f i).length<=6:=this;omega
 ·exact tB
 ·have hL:y.L.length<=100000:=hy.1;have hu:=Js y.L.length y.L rfl;obtain⟨c1,c2⟩:=ayg y.L y.s;have hd:=N5 y.L y.s;rw[hd];refine⟨⟨by omega,by omega⟩,λh1=>⟨⟨by omega,by omega⟩,λc hc=>⟨c,?_⟩⟩,λh1=>⟨y.c,?_⟩⟩
  ·rw[← hd] at h1;have hn:y.s∉ fJ y.L:=λe=>(agd y.L y.s).1 h1 ((su _ _ rfl _).1 e);have e:fJ (y.L++[y.s])=fJ y.L++[y.s]:=by rw[EU,p_ hn]
   have el:(fJ (y.L++[y.s])).length=(fJ y.L).length+1:=by rw[e,O];rfl
   refine⟨by omega,⟨el.symm,rfl⟩,av7 e rfl,?_⟩;rw[← hd];exact agc _ _
  ·rw[← hd] at h1;have hn:y.s∈ fJ y.L:=(su _ _ rfl _).2 (ey λe=>h1 ((agd y.L y.s).2 e));have e:fJ (y.L++[y.s])=fJ y.L:=by rw[EU,o_ hn]
   refine⟨by rw[e];exact hy.2,⟨by rw[e],rfl⟩,Lf e.symm rfl,?_⟩;rw[← hd];exact agc _ _
 ·have hal:=afN 13 (aQ n (λi=>ak (f i)) g);have ha:([]++jy 13 (aQ n (λi=>ak (f i)) g):List h_).length<=100000:=by rw[List.nil_append];omega
  refine⟨⟨[],0,x.2,x.1,jy 13 (aQ n (λi=>ak (f i)) g)⟩,⟨hx,ha,S _⟩,rfl,rfl,rfl,aa.SA λ_=>rfl,aa.refl _,aa.refl _,aa.refl _,λy hy=>⟨λ_=>⟨y,hy,aa.refl _,λE=>rfl⟩,λh'=>absurd h h'⟩⟩
def Cz (z:Bool)(l:List Rw)(c:Nat):SB:=.rows z l.length [nj l,nk l] C (c*2) 50
def ze (l:List Rw):fC:=.all Nat λc=>.req (l.length<=c) (.new (λk=>.bY k 2 F 0 l.length c) (Cz F l c))
def qZ (fr to:h_)(n:Nat)(f g:Nat->h_)(i:Nat):List Rw:=cG fr to ((aQ n f g).take i)
noncomputable def axS (fr to:h_)(n:Nat)(f g:Nat->h_):aN :=
 {α:=Nat×Nat,pre:=λ_ x=>x.1<=n/\(qZ fr to n f g x.1).length<=x.2,nF:=λ_ x=>n-x.1,fresh:=1,slots:=λst x=>[(10,.int .i64 C x.1),(5,.bY st.nx 2 F 0 (qZ fr to n f g x.1).length x.2)],
  mem:=λst x=>[(st.nx,Cz F (qZ fr to n f g x.1) x.2)]}
noncomputable def am0 (fr to:h_)(n:Nat)(f g:Nat->h_):iG:={bQ with cO:=λf=>av f V8,bU:=λh=>if h=23 then [(3,always (axS fr to n f g))] else []}
theorem ayA (fr to:h_)(n:Nat)(f g:Nat->h_):Sx.Good I (am0 fr to n f g):=.of bI Kx aO
noncomputable def gQ (n:Nat)(f g:Nat->h_):h_:=bg (ctext 13 (aQ n (λi=>ak (f i)) g))
noncomputable def aiZ (n:Nat)(f g:Nat->h_):fC:=.fork (M (iT n f g=0)) λb=>match b with
 | true=>.ret (.dr [.str C (gQ n f g),.int .i64 F 0])
 | false=>.fork (M (iT n f g=1)) λb=>match b with
   | true=>.ret (.dr [.str F [],.int .i64 F 1])
   | false=>.ret (.dr [.str F [],.int .i64 F 12])
noncomputable def anu:iG:={bQ with cO:=λf=>av f ad4}
theorem ay1:Sx.Good I anu:=.of bI S3 aO
section
variable (n : Nat) (s t : h_) (z : Nat × Nat) (x y : Nat-> h_) (f : Nat × Pd)
abbrev aiG:=fU (ofG [Q])
abbrev aiK:=fU (ofG [Iv f])
abbrev Ia:=bN (K (qZ s t n x y z.1)) (bG z.2) 50 (iY (qZ s t n x y z.1) (qZ s t n x y z.1))
abbrev ou:=K (qZ s t n x y z.1)
abbrev mC:=cG s t (aQ n x y)
abbrev xd:=K (mC n s t x y)
abbrev IN:=qP n z/\ou n s t z x y<=z.2
abbrev aim:=gL (ou n s t z x y) (ou n s t z x y) 2 (ou n s t z x y) 32 (ou n s t z x y)/\(∀(a:Nat),cN (aB (ou n s t z x y)) a (I6 (eD z+1)) (∃(b:Nat×Nat),cM (IN n s t b x y) (vg n b z) (j8 z b) (aB (ou n s t z x y)=ou n s t b x y/\a=b.2) (cv (aB (ou n s t z x y)) (bG a) (Ia n s t b x y) 50 (gD (λa=>dg a (ou n s t z x y) a (ou n s t z x y) (gp a (qZ s t n x y z.1)).1 (x (0+iM z))) (λa=>dg a (ou n s t z x y) a (ou n s t z x y) (gp a (qZ s t n x y z.1)).2 (y (0+iM z)))))))
end
theorem alN (fr to:h_)(n:Nat)(f g:Nat->h_)(z:Bool)(o c:Nat)(key:Option Nat):dw (iE uy (wP 4 3 1 qe qe) Pl.k) (je (am0 fr to n f g) 23 cj [.cT 0 2 z o 0 n c,.agg [.str C fr,.str C to]] [fX z o c n f g key] (ze (cG fr to (aQ n f g)))) ((∃(a:Nat×Nat),az (IN n fr to a f g) (mL a) (ou n fr to a f g=0) (fo (Cz F (qZ fr to n f g a.1) a.2)))/\(∀(a:Nat×Nat),IN n fr to a f g->Fk (ya n a) (cK (qR n a) (qU o n a) (bS (f (fZ a))) (dB (SB.cells (eC (aA fr) (aA to)) 2 28)) (gd fr/\gd to) (Bk (hasB fr to (ak (f (fZ a)))) (aim n fr to a f g) (kP a/\(∃(b:Nat×Nat),cM (IN n fr to b f g) (vg n b a) (j8 a b) (ou n fr to a f g=ou n fr to b f g/\ur a b) (aa (Ia n fr to a f g) (Ia n fr to b f g)))))) (∃(b:Nat),dx (xd n fr to f g<=b) (aa (Ia n fr to a f g) (bN (xd n fr to f g) (bG b) 50 (jK (mC n fr to f g) (mC n fr to f g)))) (dh (aB 1) 2 (ou n fr to a f g) a.2) (dh (aB 1) 2 (xd n fr to f g) b)))):=⟨by kernel_rfl,by kernel_rfl⟩
theorem aAF (n:Nat)(f g:Nat->h_)(z:Bool)(o c:Nat)(key:Option Nat):dw (Pl.s 3 aq5) (je anu 21 b_ [.cT 0 2 z o 0 n c] [fX z o c n f g key] (aiZ n f g)) (cE (aD (nR o n z) True (dy n)) (aX (bE (iT n f g) 0 (ai (cP fu (wZ n f g) Q) (fU (aA (gQ n f g)))) (bE (iT n f g) 1 (ai (cP fu (wZ n f g) Q) FQ) (ai (cP fu (wZ n f g) Q) (cU fu P0)))) (aD True (ofQ [Q]) (bE (iT n f g) 0 (ai aiG (fU (aA (gQ n f g)))) (bE (iT n f g) 1 (ai aiG FQ) (ai aiG (cU fu P0))))) (cJ (iT n f g) 0)) (aD (nR o n z) True (TL n f)/\(∀(a:Nat),aJ (zV n f g) a (∃(b:List Rw×Nat),cX (aj (dZ 13 b.1) (gA (mG b)) (13<=13)) (aK (zV n f g) (mG b) a b.2) (∀(a:Nat×Pd),Told a.2 14 a.1 (jy 13 b.1)->aj (aV (a.2.D a.1)) (True/\ofQ [Iv a]) (bE (iT n f g) 0 (ai (aiK a) (fU (aA (gQ n f g)))) (bE (iT n f g) 1 (ai (aiK a) FQ) (ai (aiK a) (cU fu P0))))) (T6 n a f g) (Mq b)))) (cJ (iT n f g) 0)):=⟨by kernel_rfl,by kernel_rfl⟩
def HG (p:h_)(j:Nat):Int:=(ah p (2*(j:Int))*16%256+ah p (2*(j:Int)+1))%256
def Gn (p:h_):h_:=b7 (HG p) 0 (p.length/2)
noncomputable def amW (p:h_):iG:={bQ with cO:=λf=>av f Bw,bU:=λf=>if f=178 then [(2,always (U2 3 p.length (HW p)))] else []}
theorem ayu (p:h_):Sx.Good I (amW p):=.of bI n7 aO
noncomputable def amw (k:h_):aN :={α:=Nat,pre:=λ_ i=>i<=k.length,nF:=λ_ i=>k.length-i,fresh:=0,slots:=λ_ i=>[(3,.str C (b7 (jO k) 0 (2*i))),(4,.int .i64 C i)],mem:=λ_ _=>[]}
noncomputable def amV (k:h_):iG:={bQ with cO:=λf=>av f Bw,bU:=λf=>if f=55 then [(3,always (amw k))] else []}
theorem ayt (k:h_):Sx.Good I (amV k):=.of bI n7 aO
noncomputable def adO:List (FuncId×PT):=(178,aI oa)::(55,aI qJ)::Bw
noncomputable def axY (p:h_):aN :={α:=Nat,pre:=λ_ j=>j<=p.length/2,nF:=λ_ j=>p.length/2-j,fresh:=0,slots:=λ_ j=>[(4,.str C (b7 (HG p) 0 j)),(5,.int .i64 C (2*(j:Int)))],mem:=λ_ _=>[]}
noncomputable def amU (p:h_):iG:={bQ with cO:=λf=>av f adO,bU:=λf=>if f=139 then [(5,always (axY p))] else []}
def vm (p:h_):Bool:=!decide ((p.length:Int)%2=1)&&ig p
def abg (p:h_):fC:=.fork (vm p) λb=>match b with
 | true=>.ret (.dr [.str C (Gn p),.bool F F])
 | false=>.ret (.dr [.str F [],.bool F C])
def QH:List SV->Option (Prop×fC)
 | [.str C p]=>V (p.length<1099511627776,abg p)
 | _=>J
noncomputable def adP:List (FuncId×PT):=(139,bZ QH)::adO
noncomputable def amS:iG:={bQ with cO:=λf=>av f adP}
noncomputable def ao3:List (FuncId×PT):=(203,bZ wB)::adP
noncomputable def amT:iG:={bQ with cO:=λf=>av f ao3}
section
variable (n : Nat) (s : h_) (v w x y z : SV)
abbrev P4:=kM 2 2 (bx (ak s)) (bx (ak s)<=bx (ak s))
abbrev GG:=K s<1073741824
abbrev Qq:=bT (ak s) (cc 28) J 2 (bx (ak s))
abbrev IU:=M (Er (1:Int))
abbrev ary:=gX (P4 s) (GG (Qq s)) (Fk (gN (Qq s) IU=s) (P4 s/\bP v w v x (gU s)) (bP x w x x (gU s))) (Fk ([]=s) (P4 s/\bP v w v x (gU s)) (bP x w x x (gU s))) (ig (Qq s))
abbrev azY:=dM 2 (bx (ak s)) (gX (P4 s) (GG (Qq s)) (Fk (gN (Qq s) (cJ 0 1)=s) (P4 s/\bP v w v x (gU s)) (ary s y w x)) (Fk ([]=s) (P4 s/\bP v w v x (gU s)) (ary s y w x)) (ig (Qq s))) (bP x w x x (gU s))
abbrev Qg:=bT (ak s) (cc 28) J 1 (sA s)
abbrev arF:=gX (FF s) (GG (Qg s)) (Fk (gN (Qg s) IU=s) (FF s/\bP v w v x (gU s)) (azY s y w x z)) (Fk ([]=s) (FF s/\bP v w v x (gU s)) (azY s y w x z)) (ig (Qg s))
abbrev BJ:=2*NI n
abbrev Dl:=ff (W 0)
abbrev IB:=fq (dQ (bB s%2)+2)
abbrev IC:=fq (bB s%2)
end
theorem asV (p:h_)(R:SV->Prop):VC.holds (eS (amW p) 178 Tryz.f178 [.str C p] R)=(aiq p R):=by kernel_rfl
theorem awc (k:h_)(R:SV->Prop):VC.holds (eS (amV k) 55 Tryz.f55 [.str C k] R)=(cR (∀(a:Nat),aJ a (K k) (jH a (bB k) (cI (fE a (bB k)) (kM (sI a k) (sI a k) 255 ((0:Int)<16)) (fE a (bB k)) (kM (sI a k) (sI a k) 255 ((0:Int)<16)) (lq 2 (b7 (jO k) 0 (2*a))) (i5 a) (∃(b:Nat),gK (br b (K k) (aP (K k) b (K k) a)) (cat (b7 (jO k) 0 (2*a)) (W (Int.toNat (sI a k/16))::ff (W (Int.toNat (sI a k%16))))=b7 (jO k) 0 (2*b)) (gS a b))) (R (aA (b7 (jO k) 0 (2*a)))))) (λa=>gK (a<=K k) ([]=b7 (jO k) 0 (2*a)) (fy a))):=by kernel_rfl
theorem aAh (p:h_):VC.holds (jd (amU p) 139 Tryz.f139 [.str C p] (abg p))=(zS p/\bE (bB p%2) 1 (bP jl (iI (Gn p)) jl jl (vm p)) (cE (dA p) (bP jl (iI (Gn p)) jl jl (vm p)) (cR (∀(a:Nat),cN a (Iw p) (dD (BJ a)) (aM (BJ a+1) (bB p) (cK (Ix (BJ a) (bB p)) (dD (BJ a)) (Ix (BJ a+1) (bB p)) (lq 1 (b7 (HG p) 0 a)) (dK (BJ a) 2) (∃(b:Nat),gK (br b (Iw p) (aP (Iw p) b (Iw p) a)) (cat (b7 (HG p) 0 a) (fq (dQ (ah p (BJ a)*16)+ah p (BJ a+1)))=b7 (HG p) 0 b) (BJ a+2=BJ b))) (bP (iI (b7 (HG p) 0 a)) (iI (Gn p)) (iI (b7 (HG p) 0 a)) jl (vm p)))) (λa=>gK (a<=Iw p) ([]=b7 (HG p) 0 a) (0=BJ a))) (ig p))):=by kernel_rfl
theorem aAi (p:h_)(leaf:Bool):VC.holds (jd amS 203 Tryz.f203 [.str C p,.bool C leaf] (ZG p leaf))=((fun(a:SV)=>(fun(b:SV)=>cE (dA p) (gC a b a (ig p)) (aY (zS p) (zS p/\bE (bB p%2) 0 (az (lU 1 1) (lU 2 (bB p)) (bS (k5 (IB p) Dl p)) (Bk (vm (k5 (IB p) Dl p)) (bP (iI (Gn (k5 (IB p) Dl p))) b (iI (Gn (k5 (IB p) Dl p))) a (ig p)) (gC a b a (ig p)))) (gX (lU 1 (bB p)) (bS (cat (IB p) p)) (bP (iI (Gn (cat (IB p) p))) b (iI (Gn (cat (IB p) p))) a (ig p)) (gC a b a (ig p)) (vm (cat (IB p) p)))) (zS p/\bE (bB p%2) 0 (az (lU 1 1) (lU 2 (bB p)) (bS (k5 (IC p) Dl p)) (Bk (vm (k5 (IC p) Dl p)) (bP (iI (Gn (k5 (IC p) Dl p))) b (iI (Gn (k5 (IC p) Dl p))) a (ig p)) (gC a b a (ig p)))) (gX (lU 1 (bB p)) (bS (cat (IC p) p)) (bP (iI (Gn (cat (IC p) p))) b (iI (Gn (cat (IC p) p))) a (ig p)) (gC a b a (ig p)) (vm (cat (IC p) p)))) leaf) (ig p)) (iI (gN p leaf))) jl):=by kernel_rfl
theorem aAg (s:h_):VC.holds (jd amT 174 Tryz.f174 [.str C s] (Tk s))=((fun(a:SV)=>(fun(b:SV)=>(fun(c:SV)=>(fun(d:SV)=>(fun(e:SV)=>(fun(f:SV)=>bS s/\dM 1 (sA s) (gX (FF s) (GG (Qg s)) (Fk (gN (Qg s) (cJ 0 1)=s) (FF s/\bP f c f b (gU s)) (arF s e c b d a)) (Fk ([]=s) (FF s/\bP f c f b (gU s)) (arF s e c b d a)) (ig (Qg s))) (gC b c b (gU s))) (cP (oo (ak s) 1 (sA s) uv (cc 39) J) (tj (cJ 0 1)) pZ)) (cP (oo (ak s) 1 (sA s) uv (cc 39) J) (tj IU) pZ)) (cP (oo (ak s) 2 (sA s) uv (cc 39) J) (tj (cJ 0 1)) pZ)) (cP (aA (gM s)) (gb (fc s)) pZ)) (cP fu fR nu)) (cP (oo (ak s) 2 (sA s) uv (cc 39) J) (tj IU) pZ)):=by kernel_rfl
def Cr (k:Nat):List SV->Option (Prop×SV)
 | [.int .u64 C n]=>V (0<=n/\n<256^ k,.str C (GX k n))
 | _=>J
noncomputable def N3 (pt:PT):iG:={bQ with cO:=λf=>av f ((120,pt)::Bw)}
theorem VN {pt:PT}(h:aq I 120 pt)(hm:bC pt):Sx.Good I (N3 pt):=.of bI (aR.cons h hm n7) aO
section
variable (a : Int)
abbrev TJ:=dU a (A5 a) ((0:Int)<256)
end
theorem as0 (n:Int)(R:SV->Prop):VC.holds (eS (N3 akL) 120 X [.int .u64 C n] R)=(bE n 0 (R fu) (az (TJ n) (TJ n) False False)):=by kernel_rfl
theorem as2 (k:Nat)(n:Int)(R:SV->Prop):VC.holds (eS (N3 (aI (Cr k))) 120 X [.int .u64 C n] R)=(bE n 0 (R fu) (cK (TJ n) (TJ n) (Ix (iu n) (256^ k)/\lq 1 (GX k (iu n))/\R (kJ (GX k (iu n)) (fq (dQ n)))) (Ix (iu n) (256^ k)) (dB (eY 1 (kG (dQ (dQ n)) C) Q 5)) (lq 1 (GX k (iu n))/\R (kJ (GX k (iu n)) (fq (dQ n)))))):=by kernel_rfl
theorem acG {n:Int}(h0:0<=n)(h1:n<256^ 0):au (eS (N3 akL) 120 X [.int .u64 C n] (λv=>ai v (.str C (GX 0 n)))):=by
 refine au.j7 (as0 n _) (by delta Fk fu aj az bE dU A5 TJ;exact rfl) ?_;have h1:n<1:=h1;obtain rfl:n=0:=by omega
 exact⟨λ_=>λ_=>rfl,λh=>by simp at h⟩
theorem Sa {k:Nat}{n:Int}(h0:0<=n)(h1:n<256^ (k+1))(hk:k<8):au (eS (N3 (aI (Cr k))) 120 X [.int .u64 C n] (λv=>ai v (.str C (GX (k+1) n)))):=by
 refine au.j7 (as2 k n _) (by delta Fk Ix Er NI fu dQ fM iu fq bx aj aC fQ bE aA kJ dU eY A5 cK kG dB lq TJ;exact rfl) ?_;have hl:=Nk k (n/256);have h3:n<18446744073709551616:=by
  have: ∀ j,j<=8->(256:Int)^ j<=18446744073709551616:=by decide
  exact Int.lt_of_lt_of_le h1 (this (k+1) (by omega))
 rw[Int.pow_succ] at h1;generalize (256:Int)^ k=p at *;refine⟨λh=> ?_,λh=> ?_⟩
 ·have h:n=0:=by simpa using h
  subst h;rw[zc (Int.le_refl _)];exact λ_=>rfl
 ·have h: ¬ n=0:=by simpa using h
  have e:ai (.str C (cat (GX k (n/256)) [W (n%256%256).toNat])) (.str C (GX (k+1) n)):=by apply dc;rw[Hp (by omega),Int.emod_emod];rfl
  exact⟨by omega,by omega,⟨⟨by omega,by omega⟩,by omega,e⟩,⟨by omega,by omega⟩,rfl,by omega,e⟩
theorem R9: ∀ k,k<=8->aq I 120 (aI (Cr k))
 | 0,_=>by
   refine iH (VN (Nz _) ED) (n:=20) cx (by kernel_rfl) (by kernel_rfl) ?_;intro args p r h hp;unfold Cr at h;split at h
   ·cases h;exact⟨rfl,rfl,acG hp.1 hp.2⟩
   ·cases h
 | k+1,hk=>by
   refine iH (VN (R9 k (by omega)) (aE _)) (n:=20) cx (by kernel_rfl) (by kernel_rfl) ?_;intro args p r h hp;unfold Cr at h;split at h
   ·cases h;exact⟨rfl,rfl,Sa hp.1 hp.2 (by omega)⟩
   ·cases h
theorem amP:aq I 120 (aI vZ):=by
 refine iH (VN (R9 7 (by omega)) (aE _)) (n:=20) cx (by kernel_rfl) (by kernel_rfl) ?_;intro args p r h hp;unfold vZ at h;split at h
 ·cases h;exact⟨rfl,rfl,Sa hp.1 hp.2 (by omega)⟩
 ·cases h
noncomputable def O0:List (FuncId×PT):=(120,aI vZ)::Bw
theorem Eu:aR I (λf=>av f O0):=.cons amP (aE _) n7
noncomputable def XX:iG:={bQ with cO:=λf=>av f O0}
theorem aoq:Sx.Good I XX:=.of bI Eu aO
noncomputable def at7 (l:h_):aN :={α:=Int,pre:=λ_ i=>0<=i/\i<=l.length,nF:=λ_ i=>(l.length-i).toNat,fresh:=0,slots:=λ_ i=>[(3,.int .u64 C (num (l.take i.toNat))),(4,.int .i64 C i)],mem:=λ_ _=>[]}
noncomputable def Vl (l:h_):iG:={bQ with cO:=λf=>av f O0,bU:=λf=>if f=218 then [(3,always (at7 l))] else []}
theorem aos (l:h_):Sx.Good I (Vl l):=.of bI Eu aO
noncomputable def amu (n:Nat)(f:Nat->h_):aN :={α:=Nat,pre:=λ_ i=>i<=n,nF:=λ_ i=>n-i,fresh:=0,slots:=λ_ i=>[(3,.str C (flat (jw f 0 i))),(4,.int .i64 C i)],mem:=λ_ _=>[]}
noncomputable def ang (n:Nat)(f:Nat->h_):iG:={bQ with cO:=λf=>av f O0,bU:=λg=>if g=119 then [(3,always (amu n f))] else []}
theorem ayO (n:Nat)(f:Nat->h_):Sx.Good I (ang n f):=.of bI Eu aO
section
variable (s : h_) (a : Int) (x : SV-> Prop)
abbrev arX:=cat (fq (183+bx (digits (sK s)))) (digits (sK s))
abbrev arw:=dM (bB s) 55 (aj (dK 128 (bB s)) (lU 1 (bB s)) (x (kJ (fq (128+bB s)) s))) (aC (yD (sK s)) (dK 183 (bx (digits (sK s)))) (lU 1 (bx (digits (sK s)))) (fQ (bx (arX s)+bB s)) (x (kJ (arX s) s)))
abbrev aao:=num (List.take (Int.toNat a) s)
end
theorem awM (b:h_)(base:Int)(R:SV->Prop):VC.holds (eS XX 118 bl [.str C b,.int .i64 C base] R)=(dM (bB b) 55 (aj (dK base (bB b)) (lU 1 (bB b)) (R (kJ (fq (base+bB b)) b))) (cK (yD (sK b)) (dK base 55) (dK (base+55) (bx (digits (sK b)))) (lU 1 (bx (digits (sK b)))) (fQ (bx (cat (fq (base+55+bx (digits (sK b)))) (digits (sK b)))+bB b)) (R (kJ (cat (fq (base+55+bx (digits (sK b)))) (digits (sK b))) b)))):=by kernel_rfl
theorem awK (b:h_)(R:SV->Prop):VC.holds (eS XX 72 ct [.str C b] R)=(bE (bB b) 1 (vl b/\aM (rM b) 128 (R (aA b)) (arw b R)) (arw b R)):=by kernel_rfl
theorem alX (l:h_)(R:SV->Prop):VC.holds (eS (Vl l) 218 b! [.str C l] R)=((∃(a:Int),cM (0<=a) (gJ l a) (0=aao l a) (0=a) True)/\(∀(a:Int),0<=a/\gJ l a->aM a (bB l) (az (Ix a (bB l)) (0<=ah l a/\A5 (ah l a)) (dD a) (∃(b:Int),gK (aD (0<=b) (gJ l b) (mu (Int.toNat (bB l-a)) (bB l-b))) (i7 (i7 (aao l a*256)+ah l a)=aao l b) (bt a b))) (R (jJ (aao l a))))):=by kernel_rfl
theorem aws (n:Nat)(f:Nat->h_)(z:Bool)(o c:Nat)(key:Option Nat):VC.holds (je (ang n f) 119 bn [.cT 0 1 z o 0 n c] [⟨key,z,o,n,c,[.str f]⟩] (.ret (.str C (flat (jw f 0 n)))))=(cR (∀(a:Nat),aJ a n (Fk (rQ a n) (aC (mS a n) (pL o a n) (fQ (bx (flat (jw f 0 a))+bx (kY a f))) (i5 a) (∃(b:Nat),aC (br b n (aP n b n a)) (cat (flat (jw f 0 a)) (kY a f)=flat (jw f 0 b)) (gS a b) (tg (Seen.mk key z o n c (bJ f Q))) True)) (ai (aA (flat (jw f 0 a))) (aA (flat (jw f 0 n)))))) (λa=>aC (a<=n) ([]=flat (jw f 0 a)) (fy a) (tg (Seen.mk key z o n c (bJ f Q))) True)):=by kernel_rfl
theorem UW {base:Int}(h1:base=128∨base=192)(h2:b.length<1152921504606846976) :
  (M ((b.length:Int)<=55)=F->cat [W ((base+(b.length:Int))%256).toNat] b=di base b.length++b)/\
  (M ((b.length:Int)<=55)=C->cat (cat [W ((base+55+((digits ((b.length:Int)%18446744073709551616)).length:Int))%256).toNat] (digits ((b.length:Int)%18446744073709551616))) b=di base b.length++b):=by
 have e:(b.length:Int)%18446744073709551616=b.length:=by omega
 have hd:=qo b.length;constructor
 ·intro h;simp only[m_] at h;unfold di;rw[o_ (by omega),show(base+(b.length:Int))%256=base+b.length by omega];rfl
 ·intro h;simp only[n_] at h;unfold di;rw[e,p_ (by omega),show(base+55+((digits (b.length:Int)).length:Int))%256=base+55+((digits (b.length:Int)).length:Int)by omega];rfl
theorem ace {base:Int}(h1:base=128∨base=192)(h2:b.length<1152921504606846976):au (eS XX 118 bl [.str C b,.int .i64 C base] (λv=>ai v (.str C (di base b.length++b)))):=by refine au.j7 (awM b base _) (by delta Fk I6 Ix NI dQ fM fq bx bB aj aC fQ dK dM aA i7 yD kJ lU cK sK;exact rfl) ?_;obtain⟨g1,g2⟩:=UW h1 h2;have hd:=qo ((b.length:Int)%18446744073709551616);refine⟨λh=>⟨by omega,by omega,dc (g1 h)⟩,λh=>⟨by omega,by omega,by omega,by omega,?_,dc (g2 h)⟩⟩;simp only[cat,O,Y,ei];omega
def Ln:List SV->Option (Prop×SV)
 | [.str C b,.int .i64 C base]=>V ((base=128∨base=192)/\b.length<1152921504606846976,.str C (di base b.length++b))
 | _=>J
theorem atK:aq I 118 (aI Ln):=by
 refine iH aoq (n:=20) Tryz.func118 (by kernel_rfl) (by kernel_rfl) ?_;intro args p r h hp;unfold Ln at h;split at h
 ·cases h;exact⟨rfl,rfl,ace hp.1 hp.2⟩
 ·cases h
theorem abO (hb:b.length<1152921504606846976):au (eS XX 72 ct [.str C b] (λv=>ai v (.str C (aS b)))):=by
 refine au.j7 (awK b _) (by delta Fk I6 Ix NI dQ fM aM fq bx bB aj aC fQ bE dK dM aA i7 yD kJ lU rM vl sK arX arw;exact rfl) ?_;obtain⟨g1,g2⟩:=UW (base:=128) (.inl rfl) hb;have hd:=qo ((b.length:Int)%18446744073709551616);have hc: ∀ x:UInt8,((cat [x] (digits ((b.length:Int)%18446744073709551616))).length:Int)<=9:=λx=>by simp only[cat,O,Y,ei];omega
 refine⟨λh=>⟨by simp at h;omega,λh2=>dc ?_,λh2=> ?_⟩,λh=> ?_⟩
 ·simp at h h2;exact(o_ ⟨by omega,h2⟩).symm
 ·have ht:di 128 b.length++b=aS b:=by simp only[n_] at h2;exact(tD λx=>h2 x.2).symm
  refine⟨λh=>⟨by omega,by omega,dc ((g1 h).trans ht)⟩,λh=>⟨by omega,by omega,by omega,?_,dc ((g2 h).trans ht)⟩⟩;have:=hc (W (((183:Int)+((digits ((b.length:Int)%18446744073709551616)).length:Int))%256).toNat);omega
 ·have ht:di 128 b.length++b=aS b:=by simp only[n_] at h;exact(tD λx=>h (by omega)).symm
  refine⟨λh=>⟨by omega,by omega,dc ((g1 h).trans ht)⟩,λh=>⟨by omega,by omega,by omega,?_,dc ((g2 h).trans ht)⟩⟩;have:=hc (W (((183:Int)+((digits ((b.length:Int)%18446744073709551616)).length:Int))%256).toNat);omega
theorem asE:aq I 72 (aI Ae):=by
 refine iH aoq (n:=20) Tryz.func72 (by kernel_rfl) (by kernel_rfl) ?_;intro args p r h hp;unfold Ae at h;split at h
 ·cases h;exact⟨rfl,rfl,abO hp⟩
 ·cases h
theorem RC {l:h_}(hl:l.length<=8):au (eS (Vl l) 218 b! [.str C l] (λv=>ai v (.int .u64 C (num l)))):=by
 refine au.j7 (alX l _) (by delta Fk I6 Ix NI aM bx bB aj az dK mu dD cM bt gK i7 gJ aD A5 jJ aao;exact rfl) ?_;refine⟨⟨0,by omega,rfl,rfl,trivial⟩,λx ⟨h1,h2⟩=>⟨λh=> ?_,λh=> ?_⟩⟩
 ·simp only[m_] at h;have h3:=ag2 h1 h hl;have h4:=apM (l.take x.toNat);have h5:=e8 l x;refine⟨by omega,by omega,by omega,x+1,by omega,?_,rfl,trivial⟩;rw[ZJ h1 h];omega
 ·simp only[n_] at h;obtain rfl:x=l.length:=by omega
  rw[cy,List.take_length];exact λ_=>rfl
def CW:List SV->Option (Prop×SV)
 | [.str C l]=>V (l.length<=8,.int .u64 C (num l))
 | _=>J
theorem aew:aq I 218 (bZ λl=>(CW l).map λp=>(p.1,.ret p.2)):=by
 refine ee (n:=20) (fn:=b!) Tryz.func218 (by kernel_rfl) (by kernel_rfl) ?_;intro args p a h hp;unfold CW at h;split at h
 ·rename_i l;cases h;exact⟨_,aos l,rfl,rfl,RC hp⟩
 ·cases h
theorem K2 (f:Nat->h_)(i:Nat):jw f 0 (i+1)=jw f 0 i++[f i]:=by unfold jw;rw[en,ej];simp
theorem J6 (l:List h_)(a:h_):flat (l++[a])=flat l++a:=by simp[flat]
theorem LF (f:Nat->h_){i:Nat}: ∀ {n:Nat},i<=n->(flat (jw f 0 i)).length<=(flat (jw f 0 n)).length
 | 0,h=>by obtain rfl:i=0:=by omega
           exact S _
 | n+1,h=>by
   by_cases e:i=n+1
   ·subst e;exact S _
   ·have:=LF f (i:=i) (n:=n) (by omega);rw[K2,J6,O];omega
theorem YK (z:Bool)(o c:Nat)(key:Option Nat)(hf:(flat (jw f 0 n)).length<1152921504606846976)(hn:n<1152921504606846976) :
  au (je (ang n f) 119 bn [.cT 0 1 z o 0 n c] [⟨key,z,o,n,c,[.str f]⟩] (.ret (.str C (flat (jw f 0 n))))):=by
 refine au.j7 (aws n f z o c key) (by delta Fk I6 Ix Sr Er NI aJ cQ bx aj aC fQ bt aA cw bJ br aP gS fy i5 cR lu iD tg mS rQ pL kY;exact rfl) ?_;refine⟨⟨0,c4 _,rfl,rfl,aa.refl _,trivial⟩,λx hx=>⟨λh=> ?_,λh=> ?_⟩⟩
 ·simp only[m_] at h;have h1:=LF f (i:=x+1) (n:=n) (by omega);rw[K2,J6,O] at h1;simp only[cy,a_];refine⟨by omega,⟨trivial,by omega⟩,by omega,by omega,x+1,by omega,?_,by omega,aa.refl _,trivial⟩;rw[K2,J6];rfl
 ·simp only[n_] at h;obtain rfl:x=n:=by omega
  exact λ_=>rfl
def zn (l:List h_):Prop:=(flat l).length<1152921504606846976/\l.length<1152921504606846976
def axg (l:List h_):SV:=.str C (flat l)
theorem aoN:aq I 119 (yS zn axg):=by
 refine Xe (gi (n:=20) Tryz.func119 (by kernel_rfl) (by kernel_rfl) ?_);intro vs l q a h hq;unfold Jo at h;split at h
 ·rename_i n f r hx;obtain⟨z,o,c,key⟩:=r;cases h;obtain⟨e1,e2⟩:=QK hx;rw[e1,e2];exact⟨_,ayO n f,rfl,rfl,YK z o c key hq.1 (by have:=hq.2;rwa [xq] at this)⟩
 ·cases h
noncomputable def akP:PT:=bZ λl=>(CW l).map λp=>(p.1,.ret p.2)
noncomputable def adX:List (FuncId×PT):=(118,aI Ln)::(72,aI Ae)::(218,akP)::(119,yS zn axg)::O0
theorem SY:aR I (λf=>av f adX):=.cons atK (aE _) (.cons asE (aE _) (.cons aew (bK _) (.cons aoN (DU _ _) Eu)))
noncomputable def XY:iG:={bQ with cO:=λf=>av f adX}
theorem adl:Sx.Good I XY:=.of bI SY aO
def nY (s:h_):Bool:=!decide (s=[])&&(M (ah s 0<128)|| !decide (55<lead s)||decide (lead s-54<=s.length))
def adq (s:h_):fC:=.fork (nY s) λb=>match b with
 | true=>.ret (.dr [.bool C (e9 s),.int .i64 C (cutFrom s),.int .u64 C (nh s),.bool F F])
 | false=>.ret (.dr [.bool F C,.int .i64 F 0,.int .u64 F 0,.bool F C])
def agO (l:List h_):SV:=.str C (di 192 (flat l).length++flat l)
section
variable (s : h_) (x : Nat-> h_)
abbrev jb:Nat->h_:=λa=>x a
abbrev Qf:=nH (M (192<=rM s))
abbrev FK:=1+(Bz s-55)
abbrev FL:=1+(Dc s-55)
abbrev arp:=m5 fR (bq 0) (SV.int IntKind.u64 F 1) pZ
abbrev arI:=m5 (Qf s) (bF (FK s)) (jJ (num (bT s BA (cc 43) 1 (FK s)))) pZ
abbrev arJ:=m5 (Qf s) (bF (FL s)) (jJ (num (bT s BA (cc 43) 1 (FL s)))) pZ
end
theorem awt (n:Nat)(f:Nat->h_)(z:Bool)(o c:Nat)(key:Option Nat):VC.holds (runT XY 73 Tryz.f73 n f z o c key agO)=(dx (nR o n z/\zn (jw (jb f) 0 n)) (((192:Int)=128∨Er (192:Int))/\dA (flat (jw (jb f) 0 n))) (aA (di 192 (td (jw (jb f) 0 n))++flat (jw (jb f) 0 n))) (agO (jw f 0 n))):=by kernel_rfl
theorem aAt (n:Int)(R:SV->Prop):VC.holds (eS XY 74 Tryz.f74 [.int .u64 C n] R)=(aj (yD n) (dA (digits n)) (R (aA (aS (digits n))))):=by kernel_rfl
theorem awo (s:h_):VC.holds (jd XY 202 Tryz.f202 [.str C s] (adq s))=((fun(a:SV)=>(fun(b:SV)=>ja s (gC a b a (nY s)) (aj (vl s) (I6 (rM s)) (aM (rM s) 128 (bP arp b arp a (nY s)) (dM 192 (rM s) (dM (rM s) 247 (I6 (Dc s)/\bP (cU (Qf s) (kI::jJ (i7 (Dc s))::pZ)) b (cU (Qf s) (kI::jJ (i7 (Dc s))::pZ)) a (nY s)) (az (I6 (Dc s)) (iJ (Dc s) 55) (I6 (FL s)) (aM (bB s) (FL s) (gC a b a (nY s)) (aC (I6 (FL s)) (I6 (FL s)) (aj uk (1<=FL s) (gJ s (FL s))) (fk 8 (bT s BA (cc 43) 1 (FL s))) (bP (arJ s) b (arJ s) a (nY s)))))) (dM (rM s) 183 (I6 (Bz s)/\bP (cU (Qf s) (kI::jJ (i7 (Bz s))::pZ)) b (cU (Qf s) (kI::jJ (i7 (Bz s))::pZ)) a (nY s)) (az (I6 (Bz s)) (iJ (Bz s) 55) (I6 (FK s)) (aM (bB s) (FK s) (gC a b a (nY s)) (aC (I6 (FK s)) (I6 (FK s)) (aj uk (1<=FK s) (gJ s (FK s))) (fk 8 (bT s BA (cc 43) 1 (FK s))) (bP (arI s) b (arI s) a (nY s)))))))))) (m5 (gb (e9 s)) (bF (cutFrom s)) (jJ (nh s)) pZ)) (m5 fR (bq 0) (SV.int IntKind.u64 F 0) nu)):=by kernel_rfl
structure It where
 D:Nat->Bool
 mP:Nat->h_
 fb:Nat->Nat
 nb:Nat->Nat
 cb:Nat->Nat
 us:Nat->Int
 hd:Nat->Int
 D2:Nat->Bool
 n2:Nat->Nat
 rf:Nat->Nat->h_
def It.items (A:It)(kR:Nat):SB:=.sy A.D [.str A.mP,.iP kR 1 F A.fb A.nb A.cb,.int .i64 A.us,.int .i64 A.hd] 4 133 C
def It.lists (A:It):SB:=.ni A.D2 A.n2 [.str A.rf] C
def nV (t:h_):Nat:=fP (getD t).r 16
def lJ (t:h_)(j:Nat):h_:=iU (getD t).r 16 j
structure Ce (f:Nat->h_)(i:Nat)(A:It)(g:h_->Nat):Prop where
 dom: ∀ h,bw f i h=F->A.D (g h)=F
 mP: ∀ h,bw f i h=F->A.mP (g h)=f (fD f i h).toNat
 nb: ∀ h,bw f i h=F->A.nb (g h)=nV (A.mP (g h))
 row: ∀ h,bw f i h=F->0<A.nb (g h)->A.D2 (A.fb (g h))=F/\A.nb (g h)<=A.n2 (A.fb (g h))/\∀ j,j<A.nb (g h)->A.rf (A.fb (g h)) j=lJ (A.mP (g h)) j
 us: ∀ a,A.D a=F->A.us a=0/\A.hd a=0
def I0 (n:Nat)(f:Nat->h_):Bool:=(List.range n).all λi=>bM (f i)
noncomputable def ad8:List (FuncId×PT):=(128,bZ (vA λx=>V (Fits x,Nq x)))::mX
theorem S7:aR I (λf=>av f ad8):=.cons aj1 (bK _) gT
structure RdG where
 n:Nat
 f:Nat->h_
 c:Nat
structure Xz where
 A:It
 g:h_->Nat
def ayp (n:Nat)(f:Nat->h_)(y:Xz)(k:Nat):Mem:=[(k,.fmap (bw f n) (.ref (k+1) y.g) J),(k+1,y.A.items (k+2)),(k+2,y.A.lists)]
def Ut:mg :=
 {G:=RdG,n:=1,N:=4,pre:=λx=>x.n<=1000/\∀ i,i<x.n->(x.f i).length<=1000,args:=λx=>[.bY 0 1 F 0 x.n x.c],mem:=λx=>[(0,.rows F x.n [.str x.f] F (x.c*1) 9)],
  Fg:=λx=>.fork (M (0<x.n)&&I0 x.n x.f) λb=>match b with
   | true=>.all Xz λy=>.req (Ce x.f x.n y.A y.g) (.ret (.dr [.map 1,.int .i64 F 0]) (ayp x.n x.f y 1))
   | false=>.ret (.dr [.mo,.int .i64 F 2]) []}
def aBv (st:Sx.St)(i:Nat):Nat:=match slot st.tmps i with
 | some (.map k)=>k
 | _=>0
noncomputable def aub (n:Nat)(f:Nat->h_):aN :=
 {α:=Nat×Xz,pre:=λ_ y=>iC n (λi=>bM (f i)) y.1/\Ce f y.1 y.2.A y.2.g,nF:=λ_ y=>n-y.1,fresh:=2,slots:=λ_ y=>[(16,.int .i64 C y.1)],
  mem:=λst y=>[(aBv st 4,.fmap (bw f y.1) (.ref st.nx y.2.g) J),(st.nx,y.2.A.items (st.nx+1)),(st.nx+1,y.2.A.lists)]}
noncomputable def anz (x:RdG):iG:={bQ with cO:=λf=>av f ad8,bU:=λh=>if h=80 then [(5,always (aub x.n x.f))] else []}
theorem ay7 (x:RdG):Sx.Good I (anz x):=.of bI S7 aO
section
variable (n m k : Nat) (x h : Nat × Xz) (z : Xz) (y : RdG) (A : Nat-> Int) (f : h_-> Bool) (o : Nat × Xz-> Nd) (g : h_-> Nat)
abbrev iZ:=x.2.A
abbrev Ik:=y.f (pY x.1)
abbrev jG:=SB.fmap f (iO.ref n g) J
abbrev PR:=jG 2 (bw y.f x.1) x.2.g
abbrev x4:=NI x.1
abbrev TK:=M (0<y.n)&&I0 y.n y.f
abbrev TM:=Ce y.f y.n z.A z.g
abbrev TQ:=fP (Nd.again (o x)).r 16
abbrev aqF:=id (jf (id 2) 6 3 (id 2))
abbrev aqG:=id (jf (id 3) 6 3 (id 3))
abbrev pQ:=bh.int IntKind.i64 A
abbrev aqY:=gr 4 133 (bJ (iZ x).mP [jV 3 1 (iZ x).fb (iZ x).nb (iZ x).cb,pQ (iZ x).us,pQ (iZ x).hd]) (iZ x).D
abbrev ahO:=iC y.n (λa=>bM (y.f a)) x.1/\Ce y.f x.1 (iZ x) x.2.g
abbrev aq4:List bh:=[pQ (λa=>bif(iZ x).D a then(iZ x).us a else 0),pQ (λa=>bif(iZ x).D a then(iZ x).hd a else 0)]
abbrev ahX:=mz (iZ x).n2 (iZ x).D2 [fW.str (iZ x).rf]
abbrev Mu:=(iZ x).D n
abbrev Uh:=qw [Ik x y]
abbrev aiE:=ahO x y/\aP y.n x.1 y.n h.1
abbrev GD:Nat:=bif Mu n x then m else k
end
theorem awC (x:RdG):dw (jQ 0 uy (wO (uW 2 (jQ 0 (jW Us) (rF 0 1 (jW Us) Us))) BI)) (runM (anz x) 80 Tryz.f80 Ut x) ((fun(a:Nat×Xz->Nd)=>pX x.n 0 (aV (TK x)->(∃(a:Xz),hJ (TM a x))) ((∃(a:Nat×Xz),aC (ahO a x) (0=x4 a) (aa vk (PR a x)) (∀(b:Nat),¬SB.nc 0 (It.items (iZ a) 3) b) (∀(b:Nat),¬SB.nc 0 (It.lists (iZ a)) b))/\(∀(b:Nat×Xz),ahO b x->lS x.n (x4 b) (az (cw x.n (x4 b)) (fO x.n (x4 b)) (uN (Ik b x)/\bS (Ik b x)) (Bk (bM (Ik b x)) (aD True (ofQ [Ik b x]) (Bk (bw x.f b.1 (Uh b x)) (jk (x4 b) (∃(a:Nat×Xz),k9 (aiE a b x) (bt (x4 b) (x4 a)) (aa (PR b x) (PR a x)) (aa (ahX b) (It.lists (iZ a))) (aqY b) (It.items (iZ a) 3))) (aY (Fits (Nd.again (a b))) (∀(c:Nat),aJ (TQ b a) c (∀(d:Nat),(∀(c:Nat),aV ((iZ b).D2 c)->(qO c d&&not (wK (TQ b a) 0 F))=C)->(∀(e:Nat),(∀(a:Nat),aV (Mu a b)->qO a e=C)->jk (x4 b) (∃(f:Nat×Xz),k9 (aiE f b x) (bt (x4 b) (x4 f)) (aa (jG (jf aqF 7 2 aqF) (kQ (bw x.f b.1) (Uh b x)) (Jc b.2.g (Uh b x) e)) (PR f x)) (aa (mz (λc=>bif(iZ b).D2 c then(iZ b).n2 c else TQ b a) (λc=>(iZ b).D2 c||qO c d&&not (wK (TQ b a) 0 F)) [fW.str (λc=>λd=>bif(iZ b).D2 c then(iZ b).rf c d else iU (Nd.again (a b)).r 16 d)]) (It.lists (iZ f))) (gr 4 133 (bJ (λa=>bif Mu a b then(iZ b).mP a else Ik b x) (jV (jf aqG 7 2 aqG) 1 (λa=>GD a ((iZ b).fb a) d b) (λc=>GD c ((iZ b).nb c) (TQ b a) b) (λa=>GD a ((iZ b).cb a) c b)::aq4 b)) (λa=>Mu a b||qO a e)) (It.items (iZ f) 3))))) (∀(a:Nat),(∀(c:Nat),aV (Mu c b)->qO c a=C)->jk (x4 b) (∃(c:Nat×Xz),k9 (aiE c b x) (bt (x4 b) (x4 c)) (aa (jG (jf (id 2) 6 2 (id 2)) (kQ (bw x.f b.1) (Uh b x)) (Jc b.2.g (Uh b x) a)) (PR c x)) (aa (ahX b) (It.lists (iZ c))) (gr 4 133 (bJ (λa=>bif Mu a b then(iZ b).mP a else Ik b x) (jV (jf (id 3) 6 2 (id 3)) 1 (λa=>GD a ((iZ b).fb a) 0 b) (λa=>GD a ((iZ b).nb a) 0 b) (λa=>GD a ((iZ b).cb a) 0 b)::aq4 b)) (λc=>Mu c b||qO c a)) (It.items (iZ c) 3))) (aZ (Nd.again (a b)))))) (aV (TK x)->(∃(a:Xz),hJ (TM a x))))) (Bk (TK x) (∃(a:Xz),cX (TM a x) (aa (PR b x) (jG 2 (bw x.f x.n) a.g)) (aa (ahX b) (It.lists a.A)) (aqY b) (It.items a.A 3)) False)))) (λa=>getD (Ik a x))):=⟨by kernel_rfl,by kernel_rfl⟩
theorem Kz (hi:i<n):(aQ n f g).take (i+1)=(aQ n f g).take i++[(f i,g i)]:=by have hl:=fI n f g;rw[Lb (by omega)];rw[HP hi]
theorem afU {fr to:h_}(hi:i<n)(h:hasB fr to (ak (f i))=F):qZ fr to n f g (i+1)=qZ fr to n f g i++[(f i,g i)]:=by unfold qZ cG;rw[Kz hi,c8];congr 1;rw[c_,h];rfl
theorem amF {fr to:h_}(hi:i<n)(h:hasB fr to (ak (f i))=C):qZ fr to n f g (i+1)=qZ fr to n f g i:=by unfold qZ cG;rw[Kz hi,c8,c_,h];simp
theorem afT (fr to:h_)(n:Nat)(f g:Nat->h_)(i:Nat):(qZ fr to n f g i).length<=n:=by
 have h1:=List.length_filter_le (λe:h_×h_=>hasB fr to (ak e.1)) ((aQ n f g).take i);have h2:((aQ n f g).take i).length<=(aQ n f g).length:=by rw[List.length_take];omega
 rw[fI] at h2;unfold qZ cG;omega
theorem afR (fr to:h_)(n:Nat)(f g:Nat->h_)(i:Nat)(hi:n<=i):qZ fr to n f g i=cG fr to (aQ n f g):=by unfold qZ;rw[ep (by rw[fI];exact hi)]
theorem we {z:Bool}{l l':List Rw}(h:l=l')(hc:c=c'):aa (Cz z l c) (Cz z l' c'):=by subst h;subst hc;exact aa.refl _
theorem Ht {l l':List Rw}{a:h_}(h:l'=l++[(a,b)])(hc:c=c'):aa (.rows F (l.length+1) [.str λj=>if j<l.length then(l.getD j ([],[])).1 else l9 [a] (j-l.length),.str λj=>if j<l.length then(l.getD j ([],[])).2 else l9 [b] (j-l.length)] C (c*2) ty) (.rows F l'.length [nj l',nk l'] C (c'*2) ty):=by subst h;subst hc;exact ai3 (r:=(a,b))
theorem Rp (fr to:h_)(n:Nat)(f g:Nat->h_)(hn:n<=1000)(hf: ∀ i,i<n->(f i).length<1099511627776)(hr:fr.length<=1000)(ht:to.length<=1000)(z:Bool)(o c:Nat)(key:Option Nat):au (je (am0 fr to n f g) 23 cj [.cT 0 2 z o 0 n c,.agg [.str C fr,.str C to]] [fX z o c n f g key] (ze (cG fr to (aQ n f g)))):=by
 refine au.xD (alN fr to n f g z o c key) (by delta Fk Bk I6 Ix Er NI aJ cQ eC aj aC az cM bt aA dy cw bN bJ aB b8 gZ dh cv aV fo dx cK dg eD j8 mL kP aP cN bS dB fk ur iM gL jK bG gD vg qP qR ya fZ qU iY gp gd Ia ou mC xd IN aim;exact rfl) ?_;simp only[cy,a_,S,true_and,m_,n_];refine⟨⟨(0,0),⟨c4 _,S _⟩,rfl,rfl,rfl⟩,λx ⟨h1,h2⟩=>⟨λh=> ?_,λh=> ?_⟩⟩
 ·obtain⟨i,c⟩:=x;have hlt:i<n:=by omega
  have hl:(qZ fr to n f g (i,c).fst).length<=n:=afT fr to n f g i;have hlt:(i,c).fst<n:=hlt;refine⟨by omega,hlt,hf i hlt,⟨hr,ht⟩,λhb=>⟨⟨by omega,by omega⟩,λc' hc'=>⟨⟨by omega,by omega⟩,(i+1,c'),?_⟩⟩,λhb=>⟨⟨by omega,by omega⟩,(i+1,c),?_⟩⟩
  ·have e:=afU (g:=g) hlt hb;have el:(qZ fr to n f g (i+1)).length=(qZ fr to n f g i).length+1:=by rw[e,O];rfl
   exact⟨⟨⟨by omega,by show _<=c';rw[el];exact hc'⟩,by show n-(i+1)<n-i;omega⟩,by show(i:Int)+1=((i+1:Nat):Int);omega,⟨el.symm,rfl⟩,Ht e rfl⟩
  ·have e:=amF (g:=g) hlt hb;exact⟨⟨⟨by omega,by show(qZ fr to n f g (i+1)).length<=c;rw[e];exact h2⟩,by show n-(i+1)<n-i;omega⟩,by show(i:Int)+1=((i+1:Nat):Int);omega,⟨congrArg K e.symm,rfl⟩,we (z:=F) e.symm rfl⟩
 ·obtain⟨i,c⟩:=x;have e:=afR fr to n f g i (by omega);exact⟨c,by rw[← e];exact h2,we (z:=F) e rfl,vS rfl (congrArg K e) rfl⟩
theorem Hu (l:List Rw):(ze l).Ok:=λ_=>⟨rfl,rfl,λk=>by
 show Nat.blt k (k+1)=F;rw[er];omega,λE E' k k' h=>by
 cases l with
 | nil=>rfl
 | cons a r =>show(SV.bY k 2 F 0 (a::r).length _).val E=(SV.bY k' 2 F 0 (a::r).length _).val E';have:=h (SB.o5 (i:=0) (eu _));simp only[SV.val];rw[this]⟩
def az9:List E6:=[.of (.slice dE),.agg [.one,.one]]
def Ni (vs:List SV)(l:List Seen):Option (Prop×fC):=match vs,l with
 | [_,.agg [.str C fr,.str C to]],[⟨_,_,_,n,_,[.str f,.str g]⟩]=>V (n<=1000/\(∀ i,i<n->(f i).length<1099511627776)/\fr.length<=1000/\to.length<=1000,ze (cG fr to (aQ n f g)))
 | _,_=>J
theorem NV:aq I 23 (bV az9 Ni):=by
 refine gi (n:=20) Tryz.func23 (by kernel_rfl) (by kernel_rfl) ?_;intro vs l q a h hq;unfold Ni at h;split at h
 ·rename_i v fr to key z o n c f g;cases h;exact⟨_,ayA fr to n f g,rfl,Hu _,Rp fr to n f g hq.1 hq.2.1 hq.2.2.1 hq.2.2.2 z o c key⟩
 ·cases h
theorem X8 {l:List Rw}(h:dZ 13 l):(ctext 13 l).length<=700:=by
 cases l with
 | nil=>show(eM iL).length<=700;decide +kernel
 | cons r l=>exact rj (S _) h (List.cons_ne_nil _ _)
theorem ae7 (n:Nat)(f g:Nat->h_)(hn:n<9223372036854775808)(z:Bool)(o c:Nat)(key:Option Nat):au (je anu 21 b_ [.cT 0 2 z o 0 n c] [fX z o c n f g key] (aiZ n f g)):=by
 refine au.xD (aAF n f g z o c key) (by delta Fk Bk Er fu aJ bF bq kI cP aj qd az cU bE aA cJ dy aD fU aX b8 aV br gY cX bS cE FQ bG aK iY DG kK T6 zV wZ mG Iv Mq gA nR TL P0 aiG aiK;exact rfl) ?_;simp only[a_,S,true_and,and_true,Z,c5,m_,n_];refine⟨hn,λh=>⟨λ_=>⟨λh'=>absurd h' h,λ_=>⟨λe=>NJ e,λe=>NJ (anI h e)⟩⟩,λh'=>absurd h' h⟩,λh=> ?_⟩;obtain⟨he,h40⟩:=nW h;have hro:=nX h;have hl:=fI n (λi=>ak (f i)) g;refine⟨⟨by omega,λi hi=> ?_⟩,λc hc=>⟨(aQ n (λi=>ak (f i)) g,c),⟨hro,by rw[hl];omega⟩,⟨rfl,rfl⟩,tB,λx hx=> ?_⟩⟩
 ·have:=(he.key (f i,g i) (by unfold aQ;exact cB.2 ⟨i,ay.2 hi,rfl⟩)).2;have:(f i).length<=6:=this;omega
 ·obtain⟨_,_,hb3,hb4⟩:=Ri hx;have ht:x.2.mP x.1=ctext 13 (aQ n (λi=>ak (f i)) g):=by injection hb3 with e _;exact e.symm
  rw[ht];have h7:(ctext 13 (aQ n (λi=>ak (f i)) g)).length<=700:=X8 hro;have ef:flat [ctext 13 (aQ n (λi=>ak (f i)) g)]=ctext 13 (aQ n (λi=>ak (f i)) g):=by unfold flat;simp
  refine⟨hb4,⟨by rw[ef];omega,by show 1<_;decide⟩,λ_=> ?_,λh'=>absurd h h'⟩;intro E;unfold ofG gQ;rw[ef]
noncomputable def QJ (vs:List SV)(l:List Seen):Option (Prop×fC):=match vs,l with
 | [_],[⟨_,_,_,n,_,[.str f,.str g]⟩]=>V (n<9223372036854775808,aiZ n f g)
 | _,_=>J
theorem asc (n:Nat)(f g:Nat->h_):(aiZ n f g).Ok:=λb=>by
 cases b with
 | true=>rfl
 | false=>intro b;cases b<;>rfl
theorem avM:aq I 21 (bV UH QJ):=by
 refine gi (n:=20) Tryz.func21 (by kernel_rfl) (by kernel_rfl) ?_;intro vs l q a h hq;unfold QJ at h;split at h
 ·rename_i v key z o n c f g;cases h;exact⟨_,ay1,rfl,asc n f g,ae7 n f g hq z o c key⟩
 ·cases h
def KH (vs:List SV)(l:List Seen):Option (Prop×fC):=match vs,l with
 | [_],[⟨_,_,_,n,_,[.str f,.str g]⟩]=>V (n<9223372036854775808,Wv n f g)
 | _,_=>J
theorem akN (n:Nat)(f g:Nat->h_):(Wv n f g).Ok:=λb=>by
 cases b with
 | false=>intro b;cases b<;>rfl
 | true =>
   intro c;refine⟨rfl,rfl,λk=>by simp[SV.wf,SV.lY,er],λE E' k k' h=> ?_⟩;simp only[SV.val,SV.vals];cases e:fJ (jy 13 (aQ n (λi=>ak (f i)) g))with
   | nil=>rfl
   | cons a r=>rw[h (by rw[e];exact SB.o5 (i:=0) (eu _))]
theorem apH:aq I 26 (bV UH KH):=by
 refine gi (n:=20) Tryz.func26 (by kernel_rfl) (by kernel_rfl) ?_;intro vs l q a h hq;unfold KH at h;split at h
 ·rename_i v key z o n c f g;cases h;exact⟨_,ayW,rfl,akN n f g,ZB n f g hq z o c key⟩
 ·cases h
theorem alr {s:h_}(h:c9 s=C):bM s=false:=by
 refine adh λhk=> ?_;unfold bO at hk;split at hk
 ·rename_i e;rw[e] at h;exact absurd (h.symm.trans ab9.1) (by decide)
 ·rw[h] at hk;exact absurd hk (show ¬ (0:Int)<= -1 by decide)
theorem afw {x:Nd}(h:aZ x=F):Fits x:=λj hj=>by have:=(kj h).ref j hj;omega
end
end Go.Proofs.YtoibaecagklkaaaGreatDoor
