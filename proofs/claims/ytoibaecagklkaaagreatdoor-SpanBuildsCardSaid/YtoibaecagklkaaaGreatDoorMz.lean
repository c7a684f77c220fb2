/- A part of the proof. -/
import Derived.Test.YtoibaecagklkaaaGreatDoorMy
open Bool renaming eq_false_iff->bf,false->I,true->F
open Go.Op renaming bytesLess->ag
open Go.Proofs.Tryz renaming f11->bl,f16->ay,f3->bn,f52->bU,f53->V,f91->a_,f94->b_,func91->b!,prog->M
open List renaming all_eq_true->cj,length->J,mem_map->cl,mem_range->a!,nil->R
open Nat renaming le_refl->K,le_succ_of_le->an,le_trans->O,not_lt_zero->ct,succ_pos->cx,zero_add->X,zero_le->Q
open Option renaming none->Y,some->N
open Option.some renaming inj->Z
namespace Go.Proofs.YtoibaecagklkaaaGreatDoor
open Go Sx
variable {c i n tot:Nat}{f g:Nat->h_}{w:Sp}{ty:TypeId}{s:Wk}
section
open Go Sx
set_option maxRecDepth 20000
theorem S4:aR M (λf=>av f ad5):=.cons av8 (de _) (.cons aiY (aE _) (.cons alb (aE _) (.cons asa (bK _) Ew)))
theorem Wk.Bd.mono {d:Nat}(h:s.Bd c)(hd:c<=d):s.Bd d:=⟨O h.ns hd,O h.fs hd,O h.lk hd⟩
theorem Wk.Fit.bd {k:Nat}(h:s.Fit k)(hk:k<=c)(hc:400<=c):s.Bd c:=⟨O h.ns hk,O h.fs (O h.lk hc),O h.lk hc⟩
section
variable {m : Nat} {q : Bt}
theorem ab8 (h:q.g.b=F):q.Xs m=false:=by unfold Bt.Xs;rw[h];rfl
theorem Bn (h:q.g.b=I):q.Xs m=lX q.g.w.full m q.g.s q.x q.p:=by unfold Bt.Xs;rw[h];rfl
theorem Wc {d1 d2:Nat}(hw:q.Xs m=I)(h1:s.ns.length<=d1)(h2:s.fs.length<=d2)(hb:s.Bd (bif q.g.b then q.C+1 else 500+40*m)):q.Post m (s,F,d1,d2):=⟨h1,h2,(λh=>by rw[hw] at h;cases h),λ_=>⟨rfl,hb⟩⟩
variable {y : Nat × Wk × Bool × Nat × Nat} (h : q.Pre (m + 1)) (hl : ¬ 400 <= q.g.s.lk) (hy : Ch m q y)
include h hl hy
theorem Ch.fit (hb:y.2.2.1=I):y.2.1.Fit y.2.1.lk/\q.g.s.lk+1<=y.2.1.lk/\Ro q.g.w.full y.2.1:=by obtain⟨g1,g2,_⟩:=h.go hy.b;have e:=hy.go hb;obtain⟨k1,k2⟩:=xm (ES _ _) (g1.p4 (by omega) q.g.w.full q.x q.p) e;exact⟨k1,k2,aeY (w:=q.g.w) (g2.p4 q.x q.p) e⟩
theorem Ch.bd:y.2.1.Bd (500+40*m+2*y.1):=by
 cases hb:y.2.2.1 with
 | false =>obtain⟨k1,_⟩:=hy.fit h hl hb;exact k1.bd (by have:=k1.lk;omega) (by omega)
 | true=>exact(hy.bad hb).2.2
omit h hl in
theorem Ch.lost (hs:y.2.2.1=I->y.1<16/\lK q.g.w.full (qy q.g.w.full m) q.x q.p y.1 y.2.1=Y):eE q.g.w.full (qy q.g.w.full m) q.x q.p 16 (q.g.s.p4 q.g.w.full q.x q.p)=none:=by
 cases hb:y.2.2.1 with
 | false =>obtain⟨h1,h2⟩:=hs hb;exact ye (by omega:y.1+1<=16) ((gP (hy.go hb)).trans h2)
 | true=>exact(hy.bad hb).2.1
theorem Ch.stop (hs:y.2.2.1=I->y.1<16/\lK q.g.w.full (qy q.g.w.full m) q.x q.p y.1 y.2.1=Y):q.Post (m+1) (y.2.1,F,y.2.2.2.1,y.2.2.2.2):=by
 refine Wc ?_ hy.c1 hy.c2 ((hy.bd h hl).mono ?_)
 ·rw[Bn hy.b,Xh hl (hy.lost hs)]
 ·have:=hy.i;rw[hy.b,cond_false];omega
omit h hl in
theorem Ch.skip (hi:y.1<16)(hs:y.2.2.1=I->lK q.g.w.full (qy q.g.w.full m) q.x q.p y.1 y.2.1=N y.2.1):Ch m q (y.1+1,y.2) :=⟨hi,hy.b,hy.c1,hy.c2,λhb=>(gP (hy.go hb)).trans (hs hb),λhb=>⟨(hy.bad hb).1,(hy.bad hb).2.1,(hy.bad hb).2.2.mono (by show _<=500+40*m+2*(y.1+1);omega)⟩⟩
omit h hl in
theorem Ch.on (hi:y.1<16){u:Bt}{r:Wk×Bool×Nat×Nat}(hw:u.g.w=q.g.w)(hb:u.g.b=y.2.2.1)(hs:y.2.2.1=I->lK q.g.w.full (qy q.g.w.full m) q.x q.p y.1 y.2.1=qy q.g.w.full m u.g.s u.x u.p)
  (hC:u.C+1<=500+40*m+2*(y.1+1)) (hr:u.Post m r) (m0:0<m):Ch m q (y.1+1,r):=by
 have hwl: ∀ v,u.Xs m=v->(v=F->r.1=nO q.g.w.full m u.g.s u.x u.p/\r.2.1=I)/\(v=I->r.2.1=F/\r.1.Bd (bif y.2.2.1 then u.C+1 else 500+40*m)):=λv hv=>⟨λe=>by have:=hr.yes (hv.trans e);rwa [hw] at this,λe=>by have:=hr.no (hv.trans e);rwa [hb] at this⟩
 cases hv:u.Xs m with
 | true =>
   obtain⟨e1,e2⟩:=(hwl _ hv).1 rfl;have hb':y.2.2.1=false:=by
    cases c:y.2.2.1 with
    | false=>rfl
    | true=>rw[ab8 (hb.trans c)] at hv;cases hv
   refine⟨hi,hy.b,hr.c1,hr.c2,λ_=> ?_,(λe=>by have e:r.2.1=true:=e;rw[e2] at e;cases e)⟩;show eE _ _ _ _ (y.1+1) _=N r.1;rw[gP (hy.go hb'),hs hb',e1];rw[Bn (hb.trans hb'),hw] at hv;exact Jq hv
 | false =>
   obtain⟨e1,e2⟩:=(hwl _ hv).2 rfl;refine⟨hi,hy.b,hr.c1,hr.c2,(λe=>by have e:r.2.1=false:=e;rw[e1] at e;cases e),λ_=>⟨m0,hy.lost λhb'=>⟨hi,?_⟩,e2.mono ?_⟩⟩
   ·rw[hs hb'];rw[Bn (hb.trans hb'),hw] at hv;exact Af hv
   ·show _<=500+40*m+2*(y.1+1);cases y.2.2.1<;>simp only[cond_true,cond_false]<;>omega
end
theorem aoe {l:List (h_×h_)}{k v:h_}:aa (.rows I (l.length+1) [.str λj=>if j<l.length then(l.getD j ([],[])).1 else l9 [k] (j-l.length),.str λj=>if j<l.length then(l.getD j ([],[])).2 else l9 [v] (j-l.length)] I (c*2) ty) (.rows F (l++[(k,v)]).length [nj (l++[(k,v)]),nk (l++[(k,v)])] I (c*2) ty):=UD.then VH
theorem asI {x:Nd}(hv:aZ x=F){p:h_}(hi:i<16)(h:x.r i≠[]):(x.k=2->ki x p i=cat p x.p)/\(¬ x.k=2->ki x p i=cat p [UInt8.ofNat i]):=by
 refine⟨λe=>by unfold ki;rw[p_ (by omega)],λe=> ?_⟩;have hk:=awb hv;by_cases k3:x.k=3
 ·have:=ajh k3;rw[hv] at this;have:x.p=[]:=by grind
  unfold ki cat;rw[o_ k3,this];simp
 ·exfalso;by_cases k1:x.k=1
  ·have:=ajg k1;rw[hv] at this;have:fH x.r 16=0:=by grind
   exact h (J'.1 this i hi)
  ·have:=ajf (x:=x) (by omega);rw[hv] at this;unfold wA at this;have:(List.range 16).all (λj=>decide (x.r j=[]))=true:=by grind
   exact h (i_ (cj.1 this i (a!.2 hi)))
theorem XF (u:Ro w.full s){h:h_}(hd:w.full.ad h=F):(s.MW (w.full.at h)).ns=(s.take w.full h).ns:=by
 show(bif MZ s.ns.length (λi=>s.ns.getD i []) (w.full.at h)then s.ns else s.ns++[w.full.at h])=if s.used h=0 then s.ns++[w.full.at h] else s.ns
 by_cases c:w.full.at h∈ s.ns
 ·rw[Ns.2 c,p_ (λe=>(u.iff h hd).1 e c)];rfl
 ·rw[bf.2 λe=>c (Ns.1 e),o_ ((u.iff h hd).2 c)];rfl
theorem atY (s:Wk)(t:h_):(s.MW t).ns.length<=s.ns.length+1:=by
 show(bif MZ s.ns.length (λi=>s.ns.getD i []) t then s.ns else s.ns++[t]).length<=_
 cases MZ s.ns.length (λi=>s.ns.getD i []) t<;>simp
section
attribute [local irreducible] bM getD cS cH af gF dj hasB oZ ak cC ki qy lX nO eE Wk.used p5
set_option maxHeartbeats 4000000 in
theorem aeb {m:Nat}{q:Bt}(h:q.Pre (m+1)):au (runM (anh m q) 91 a_ (O3 (m+1)) q):=by
 refine au.xD (awz m q) (by delta Fk Bk I6 Ix Er NI dQ fM aM aJ fq cQ aF bx bF aj bH aC fQ az bE dK mu dD cM bt jk aA lU gb ja iJ fz dy cW aY aD cw rI aX gE bN bJ cY aB b8 gZ dh cv aV br cI cK eZ dg gX aP cN gY aT dR bS cE dS aG nJ dB gG fk aU k8 fO yC gL rH cD eX jK bG gz gu gD jg rL aK cm wU ov gd lT qx yE aeO aeR qa x7 xg WQ o6 Ca PI kN LU wT zL zM Dj Dr Dt DI yJ aiw oL FG FH aaH IL IM FM zX zY IV aaV aa3 aa4 lR gq aeN WO M6 nU Tz aqi wW rP LW LX TF zI vh ahy BZ ahH aqJ P5 TV ahM T3 ahV aif ar1 arx aio aip aaY arU;exact rfl) ?_;dsimp only;simp only[X,true_and,K];have hw:=h.w;have hx:=kj h.x;have hxp:=hx.p;have hp:=h.p;have c1:=h.caps.c1;have c2:=h.caps.c2;have hcat:(cat q.p q.x.p).length=q.p.length+q.x.p.length:=by unfold cat;simp
 have S: ∀ B:SB,aa B B:=aa.refl;have hlk:q.g.s.lk<=100000:=by
  cases hb:q.g.b with
  | true=>obtain⟨g,_⟩:=h.bad hb;have:=g.lk;omega
  | false=>obtain⟨g,_⟩:=h.go hb;have:=g.lk;omega
 refine⟨by omega,λhb=>⟨({q.g.s with lk:=q.g.s.lk+1},F,q.g.c1,q.g.c2),Wc (ab8 hb) c1 c2 ?_,⟨rfl,rfl⟩,⟨rfl,rfl⟩,rfl,rfl,S _,S _⟩,λhb=> ?_⟩
 ·obtain⟨g,_⟩:=h.bad hb;rw[hb];exact⟨an g.ns,an g.fs,Nat.succ_le_succ g.lk⟩
 obtain⟨g1,g2,g3,g4⟩:=h.go hb;have gl:=g1.lk;refine⟨λhl=>⟨({q.g.s with lk:=q.g.s.lk+1},F,q.g.c1,q.g.c2),Wc ?_ c1 c2 ?_,⟨rfl,rfl⟩,⟨rfl,rfl⟩,rfl,rfl,S _,S _⟩,λhl=> ?_⟩
 ·rw[Bn hb];unfold lX qy;rw[o_ (by have:=i_ hl;omega)];rfl
 ·have:=g1.ns;have:=g1.fs;rw[hb,cond_false];exact⟨by show q.g.s.ns.length<=_;omega,by show q.g.s.fs.length<=_;omega,by show q.g.s.lk+1<=_;omega⟩
 have hl: ¬ 400<=q.g.s.lk:=by have:=j_ hl;omega
 have p4:(q.g.s.p4 q.g.w.full q.x q.p).fs=if p5 q.g.w.full q.x q.p=F then q.g.s.fs++[(cC (cat q.p q.x.p),q.x.v)] else q.g.s.fs:=rfl
 have eb:p5 q.g.w.full q.x q.p=(!decide (q.x.v=[])&&(hasB q.g.w.fr q.g.w.to (cat q.p q.x.p)&&oZ (cat q.p q.x.p))):=by with_unfolding_all rfl
 refine⟨⟨by omega,by omega,λhk=>⟨_,λ_=>rfl,rfl,hk.symm⟩,λhk=>⟨[],λe=>(by rw[hk] at e;cases e),rfl,hk.symm⟩⟩,λt ht=>⟨?_,λe2 he2=>⟨⟨(0,q.g.s.p4 q.g.w.full q.x q.p,I,q.g.c1,e2),⟨Q _,hb,c1,he2.2,λ_=>by unfold eE;rfl,λe=>by cases e⟩,rfl,⟨rfl,rfl⟩,⟨rfl,rfl⟩,rfl,rfl,S _,S _⟩,λy hy=>⟨?_,?_⟩⟩⟩⟩
 ·have fl:=g1.fs
  repeat' first
   | refine And.intro ?_ ?_
   | intro (_:_=F)
   | intro (_:_=I)
   | intro (_:Nat) (_:_<=_)
   | fail
  all_goals first
   | omega
   | exact hw.fr
   | exact hw.to
   | (have e0:p5 q.g.w.full q.x q.p=false:=by rw[eb];simp_all
      refine⟨q.g.c2,⟨hb,?_⟩,⟨?_,rfl⟩,?_,hb,?_⟩
      ·rw[p_ (by rw[e0];decide)];exact c2
      ·rw[p_ (by rw[e0];decide)]
      ·omega
      ·unfold kD;rw[p4,p_ (by rw[e0];decide)];exact S _)
   | (have e0:p5 q.g.w.full q.x q.p=true:=by rw[eb];simp_all
      have et:t=cC (cat q.p q.x.p):=ht (by assumption);refine⟨_,⟨hb,?_⟩,⟨?_,rfl⟩,?_,?_,hb,?_⟩
      ·rw[o_ e0];simpa using (by assumption)
      ·rw[o_ e0];simp
      ·rw[o_ e0];simp
      ·omega
      ·unfold kD;rw[p4,o_ e0,et];exact aoe)
 ·intro hi;have hi:y.1<16:=by have:=i_ hi;omega
  have hbd:=hy.bd h hl;obtain⟨b1,b2,b3⟩:=hbd;have m1:=h.m1;simp only[Int.toNat_natCast,B5 q.x.r hi];have nxt: ∀ {r:Wk×Bool×Nat×Nat},Ch m q (y.1+1,r)->Ch m q (y.1+1,r)/\16-(y.1+1)<16-y.1:=λa=>⟨a,by omega⟩
  have skp:(y.2.2.1=I->lK q.g.w.full (qy q.g.w.full m) q.x q.p y.1 y.2.1=N y.2.1)->Ch m q (y.1+1,y.2)/\16-(y.1+1)<16-y.1:=λa=>nxt (hy.skip hi a);refine⟨by omega,⟨λhk=>⟨by omega,cat q.p q.x.p,⟨by omega,λhr=>((asI h.x hi hr).1 (i_ hk)).symm⟩,rfl,S _,S _,S _⟩,λhk=>⟨cat q.p [UInt8.ofNat y.1],⟨by unfold cat;simp,λhr=>((asI h.x hi hr).2 (j_ hk)).symm⟩,by rw[show((y.1:Int)%256).toNat=y.1 by omega],S _,S _,S _⟩⟩,λt2 ht2=>⟨⟨by omega,by omega⟩,hi,λh0=>⟨⟨by omega,by omega⟩,(y.1+1,y.2),skp λ_=>qg (i_ h0),by omega,⟨rfl,rfl⟩,⟨rfl,rfl⟩,rfl,rfl,S _,S _⟩,λh0=> ?_⟩⟩;have h0:=j_ h0;obtain⟨ht1,ht2⟩:=ht2;have ht2:=ht2 h0;refine⟨⟨hw.fr,hw.to,by omega⟩,λhM=>⟨⟨by omega,by omega⟩,(y.1+1,y.2),skp λ_=>yd (by rw[← ht2];exact(by simpa using hM:dj q.g.w.fr q.g.w.to t2=I)),by omega,⟨rfl,rfl⟩,⟨rfl,rfl⟩,rfl,rfl,S _,S _⟩,λhM=> ?_⟩;have hM:dj q.g.w.full.fr q.g.w.full.to (ki q.x q.p y.1)=true:=by rw[← ht2];exact(by simpa using hM:dj q.g.w.fr q.g.w.to t2=F)
  have hmay:jN cS (q.x.r y.1)=true:=by
   rcases hx.r y.1 hi with e | e
   ·exact absurd e h0
   ·exact e
  have hrl:(q.x.r y.1).length<9223372036854775808:=by have:=AO hmay;omega
  have hm0:0<m:=by
   cases hbi:y.2.2.1 with
   | false =>obtain⟨k1,k2,_⟩:=hy.fit h hl hbi;have:=k1.lk;omega
   | true=>exact(hy.bad hbi).1
  have pre: ∀ {s2:Wk} {d1:Nat} {x2:Nd} {C:Nat},s2.ns.length<=d1->s2.fs=y.2.1.fs->s2.lk=y.2.1.lk->aZ x2=F->C<=100000->(y.2.2.1=I->s2.Fit (s2.lk+1)/\Ro q.g.w.full s2)->(y.2.2.1=F->s2.Bd C)->Bt.Pre m ⟨q.g.with (s2,y.2.2.1,d1,y.2.2.2.2),C,x2,t2⟩:=λ{s2 d1 x2 C} a1 a2 a3 a4 a5 a6 a7=>by refine⟨hm0,hw,⟨a1,by show s2.fs.length<=_;rw[a2];exact hy.c2,h.caps.h⟩,a4,by show t2.length<=_;omega,by omega,λhbi=> ?_,λhbi=>⟨a7 hbi,a5⟩⟩;obtain⟨k1,k2,_⟩:=hy.fit h hl hbi;obtain⟨f1,f2⟩:=a6 hbi;exact⟨f1,f2,by show 401<=s2.lk+m;omega,by show t2.length<=13*s2.lk;omega⟩
  refine⟨⟨by omega,by omega⟩,hi,⟨.inl hrl,hrl⟩,λhin=> ?_,λhin=> ?_⟩
  ·refine⟨⟨q.g.with y.2,500+40*m+2*y.1,getD (q.x.r y.1),t2⟩,pre hy.c1 rfl rfl (SJ hin) (by omega) (λhbi=> ?_) (λ_=>hy.bd h hl),rfl,rfl,⟨rfl,rfl,rfl,rfl⟩,⟨rfl,rfl⟩,⟨rfl,rfl⟩,⟨rfl,rfl⟩,rfl,rfl,rfl,rfl,rfl,rfl,rfl,rfl,rfl,rfl,rfl,rfl,rfl,rfl,rfl,rfl,rfl,rfl,rfl,rfl,rfl,rfl,S _,S _,S _,S _,λr hr=>⟨⟨by omega,by omega⟩,(y.1+1,r),nxt (hy.on hi (u:=⟨q.g.with y.2,500+40*m+2*y.1,getD (q.x.r y.1),t2⟩) rfl rfl (λ_=>by rw[oP h0 hM (Jh hin),← ht2];rfl) (by show 500+40*m+2*y.1+1<=_;omega) hr hm0),by omega,rfl,rfl,⟨rfl,rfl,rfl,rfl⟩,⟨rfl,rfl⟩,⟨rfl,rfl⟩,⟨rfl,rfl⟩,rfl,rfl,S _,S _,S _⟩⟩;obtain⟨k1,_,k3⟩:=hy.fit h hl hbi;exact⟨k1.mono (Nat.le_succ _),k3⟩
  ·have hhash:cH (q.x.r y.1)=true:=by unfold jN at hmay;rw[hin,Bool.or_false] at hmay;exact hmay
   refine⟨⟨by omega,by omega⟩,hi,⟨hrl,hhash⟩,⟨by omega,by have:=hw.n;omega⟩,⟨(q.g.w.n,-1),⟨K _,lB.none _ _ _⟩,rfl,rfl,S _,S _,S _⟩,λz hz=>⟨λhz0=> ?_,λhz0=> ?_⟩⟩
   ·have hz0:=i_ hz0;have hwn:=hw.n;have hz1:=hz.1;have ez:((z.1:Int)-1).toNat=z.1-1:=by omega
    have ez2:z.1-1+1=z.1:=by omega
    rw[ez];refine⟨⟨by omega,by omega⟩,by omega,λe=>⟨⟨by omega,by omega⟩,(z.1-1,(z.1:Int)-1),⟨⟨by show z.1-1<=_;omega,?_⟩,by show z.1-1<z.1;omega⟩,by show _=((z.1-1:Nat):Int)-1;omega,rfl,S _,S _,S _⟩,λe=>⟨⟨by omega,by omega⟩,(z.1-1,z.2),⟨⟨by show z.1-1<=_;omega,?_⟩,by show z.1-1<z.1;omega⟩,by show _=((z.1-1:Nat):Int)-1;omega,rfl,S _,S _,S _⟩⟩
    ·have:=lB.hit (g:=λi=>bg (q.g.w.f i)) (n:=q.g.w.n) (lo:=z.1-1) (by omega) (i_ e)
     rwa [show((z.1-1:Nat):Int)=(z.1:Int)-1 by omega] at this
    ·exact lB.azF (by rw[ez2];exact hz.2) (j_ e)
   ·have ez:z.1=0:=by have:=j_ hz0;omega
    obtain⟨_,hz⟩:=hz;rw[ez] at hz;have hd:=hz.done;refine⟨λhv=> ?_,λhv=> ?_⟩
    ·have hv:=i_ hv;have hno:bw q.g.w.f q.g.w.n (af (q.x.r y.1))=false:=by
      rcases hd with ⟨_,e⟩ | ⟨_,_,e,_⟩
      ·exact e
      ·omega
     have hlk:gF q.g.w.full (af (q.x.r y.1))=false:=by unfold gF;rw[show q.g.w.full.ad (af (q.x.r y.1))=I from hno];rfl
     refine⟨(y.2.1,F,y.2.2.2.1,y.2.2.2.2),hy.stop h hl λ_=>⟨hi,A9 h0 hM (QZ hin (.inr hlk))⟩,⟨rfl,rfl⟩,⟨rfl,rfl⟩,rfl,rfl,S _,S _⟩
    ·have hv:=j_ hv;obtain⟨hd1,hd2,hd3,hd4⟩:bw q.g.w.f q.g.w.n (af (q.x.r y.1))=F/\z.2=fD q.g.w.f q.g.w.n (af (q.x.r y.1))/\0<=z.2/\z.2<q.g.w.n:=by
      rcases hd with ⟨e,_⟩ | e
      ·omega
      ·exact e
     have ea:q.g.w.full.at (af (q.x.r y.1))=q.g.w.f z.2.toNat:=by rw[hd2];rfl
     have hg:=hw.g z.2.toNat (by omega);have hf:=hw.f z.2.toNat (by omega);have hlk:gF q.g.w.full (af (q.x.r y.1))=true:=by unfold gF;rw[show q.g.w.full.ad (af (q.x.r y.1))=F from hd1,ea,hg];rfl
     obtain⟨s2,e1,e2,e3,e4,e5⟩: ∃ s2:Wk,s2.ns=(y.2.1.MW (q.g.w.f z.2.toNat)).ns/\s2.fs=y.2.1.fs/\s2.lk=y.2.1.lk/\(y.2.2.1=I->s2=y.2.1.take q.g.w.full (af (q.x.r y.1))/\s2.Fit (s2.lk+1)/\Ro q.g.w.full s2)/\(y.2.2.1=F->s2.Bd (500+40*m+2*y.1+1)):=by
      cases hbi:y.2.2.1 with
      | false =>obtain⟨k1,_,k3⟩:=hy.fit h hl hbi;refine⟨y.2.1.take q.g.w.full (af (q.x.r y.1)),?_,rfl,rfl,λ_=>⟨rfl,k1.take _ _,k3.take (HC q.g.w) hlk⟩,λe=>by cases e⟩;rw[← ea];exact(XF k3 hd1).symm
      | true =>refine⟨y.2.1.MW (q.g.w.f z.2.toNat),rfl,rfl,rfl,(λe=>by cases e),λ_=> ?_⟩;obtain⟨k1,k2,k3⟩:=(hy.bad hbi).2.2;exact⟨O (atY _ _) (by omega),an k2,an k3⟩
     refine⟨⟨hd3,hd4⟩,by omega,⟨by omega,hg⟩,⟨hd3,hd4⟩,by omega,(q.g.with y.2,q.g.w.f z.2.toNat),⟨⟨hy.c1,hy.c2,h.caps.h⟩,by show y.2.1.ns.length<=_;omega⟩,rfl,rfl,⟨rfl,rfl,rfl,rfl⟩,⟨rfl,rfl⟩,⟨rfl,rfl⟩,⟨rfl,rfl⟩,rfl,rfl,rfl,S _,S _,S _,S _,λc hc=> ?_⟩;have hc:s2.ns.length<=c:=by rw[e1];exact hc
     have e1':(bif MZ y.2.1.ns.length (λi=>y.2.1.ns.getD i []) (q.g.w.f z.2.toNat)then y.2.1.ns else y.2.1.ns++[q.g.w.f z.2.toNat])=s2.ns:=e1.symm
     have sn: ∀ l:List h_,l=s2.ns->aa (.rows F l.length [.str λi=>l.getD i []] I (c*1) 9) (mQ s2 c):=by rintro _ rfl;exact S _
     have sf: ∀ l:List (h_×h_),l=s2.fs->aa (.rows F l.length [.str λi=>(l.getD i ([],[])).1,.str λi=>(l.getD i ([],[])).2] I (y.2.2.2.2*2) 50) (kD s2 y.2.2.2.2):=by rintro _ rfl;exact S _
     have hC:500+40*m+2*y.1+1<=100000:=by omega
     refine⟨⟨q.g.with (s2,y.2.2.1,c,y.2.2.2.2),500+40*m+2*y.1+1,getD (q.g.w.f z.2.toNat),t2⟩,pre hc e2 e3 (sW hg) hC (λhbi=>(e4 hbi).2) e5,rfl,rfl,⟨rfl,rfl,rfl,rfl⟩,⟨rfl,rfl⟩,⟨by show y.2.1.fs.length=s2.fs.length;rw[e2],rfl⟩,⟨congrArg J e1',rfl⟩,by show(y.2.1.lk:Int)=s2.lk;rw[e3],rfl,rfl,rfl,rfl,rfl,rfl,rfl,rfl,rfl,rfl,rfl,rfl,rfl,rfl,rfl,rfl,rfl,rfl,rfl,rfl,rfl,S _,S _,sf _ e2.symm,sn _ e1',λr hr=>⟨⟨by omega,by omega⟩,(y.1+1,r),nxt (hy.on hi (u:=⟨q.g.with (s2,y.2.2.1,c,y.2.2.2.2),500+40*m+2*y.1+1,getD (q.g.w.f z.2.toNat),t2⟩) rfl rfl (λhbi=> ?_) (by show 500+40*m+2*y.1+1+1<=_;omega) hr hm0),by omega,rfl,rfl,⟨rfl,rfl,rfl,rfl⟩,⟨rfl,rfl⟩,⟨rfl,rfl⟩,⟨rfl,rfl⟩,rfl,rfl,S _,S _,S _⟩⟩;rw[oP h0 hM (Be hin hhash hlk),← ht2,ea];show _=qy q.g.w.full m s2 (getD (q.g.w.f z.2.toNat)) t2;rw[(e4 hbi).1]
 ·intro hi;have e16:y.1=16:=by have:=j_ hi;have:=hy.i;omega
  cases hbi:y.2.2.1 with
  | true =>refine⟨(y.2.1,F,y.2.2.2.1,y.2.2.2.2),hy.stop h hl (λe=>by rw[hbi] at e;cases e),⟨rfl,rfl⟩,⟨rfl,rfl⟩,rfl,rfl,S _,S _⟩
  | false =>have e:=hy.go hbi;rw[e16] at e;obtain⟨k1,k2⟩:=Xi hl e;refine⟨(y.2.1,I,y.2.2.2.1,y.2.2.2.2),⟨hy.c1,hy.c2,λ_=>⟨k2.symm,rfl⟩,λe'=> ?_⟩,⟨rfl,rfl⟩,⟨rfl,rfl⟩,rfl,rfl,S _,S _⟩;rw[Bn hb,k1] at e';cases e'
end
theorem Za: ∀ m,aq M 91 (dI (O3 m))
 | 0=>jT (n:=20) (fn:=a_) b! (by kernel_rfl) (by kernel_rfl) (O3 0) fun(q:Bt) (hq:q.Pre 0)=>absurd hq.m0 (Nat.lt_irrefl _)
 | m+1=>jT (n:=20) (fn:=a_) b! (by kernel_rfl) (by kernel_rfl) (O3 (m+1)) fun(q:Bt) hq=>⟨anh m q,.of bI (aR.cons (Za m) (de _) (aR.cons avK (bK _) S4)) aO,rfl,aeb hq⟩
end
section
open Go Sx
set_option maxRecDepth 20000
theorem akj:aR M (λf=>av f ao9):=.cons (Za 401) (de _) S4
theorem Ap :Cj w=F↔∀ i,i<w.n->bM (w.f i)=true:=by grind [cj,Cj]
theorem abR (h:Cj w=F):Na w=qy w.full 401 (Wk.start.take w.full (bg (w.f 0))) (getD (w.f 0)) []:=by grind [Na]
theorem avZ (hi:i<w.n)(h:bM (w.f i)=I):Na w=none:=by
 have:Cj w=false:=(by grind [Cj])
 grind [Na]
theorem Ys (w:Sp):w.full.at (bg (w.f 0))=w.f 0:=by show w.f (fD w.f w.n (bg (w.f 0))).toNat=_;rw[Gb];rfl
theorem an9 (h:0<w.n):w.full.ad (bg (w.f 0))=true:=vG w.f w.n 0 h
section
attribute [local irreducible] bM getD cS cH af dj hasB oZ ak cC ki qy lX nO eE
theorem afp (h:atX w):au (runM (anC w) 52 bU abU w):=by
 refine au.xD (awA w) (by delta Fk Bk I6 Ix Er NI fu aM aJ cQ aF bq aj aC az cM bt aA fR eY fz dy dA bN bJ cY aB b8 gZ dh cv aV fo cI cK eZ dg eD j8 mL kP aP cN aT bS nu aG nJ dB gG fk aU kO tu hJ iM gL uN cD eX bG gD jg rL jc nS DB fZ aK cm ov lT qx Io BK LR aeO aeR qa x7 xg WQ o6 Ca PI kN LU wT aac TG zL zM Dj Dr ahG Dt DI yJ aiw C9 aqO aqL oL FG FH aaH IL IM FM zX zY aie IV aaV arK aa3 aa4 lR gq oz oC;exact rfl) ?_;simp only[X,true_and,K,Int.toNat_natCast];have S: ∀ B:SB,aa B B:=aa.refl;have h0:=h.n0;have hn:=h.n;refine⟨⟨(0,0),⟨Q _,K _,λi hi=>absurd hi (ct _)⟩,rfl,rfl,rfl⟩,λy hy=>⟨λhi=> ?_,λhi=> ?_⟩⟩
 ·have hi:y.1<w.n:=by have:=i_ hi;omega
  have hf:=h.f y.1 hi;refine⟨⟨by omega,by omega⟩,hi,⟨by omega,by omega⟩,λhg=>⟨⟨by omega,by omega⟩,hi,by omega,⟨by omega,by omega⟩,λc hc=>⟨⟨by omega,by omega⟩,(y.1+1,c),⟨⟨hi,hc,λi hi'=> ?_⟩,by show w.n-(y.1+1)<_;omega⟩,by omega,⟨rfl,rfl⟩,Sx.aa.tO rfl rfl λj hj=> ?_⟩⟩,λhg=> ?_⟩
  ·by_cases e:i=y.1
   ·rw[e];exact hg
   ·exact hy.2.2 i (by have:i<y.1+1:=hi';omega)
  ·by_cases e:j<y.1
   ·rw[o_ e]
   ·rw[p_ e,show j=y.1 by omega,Nat.sub_self];rfl
  ·rw[avZ hi hg];exact⟨(λe=>by cases e),λ_=>⟨(Wk.start,0,0),⟨(λe=>by cases e),K _,K _,⟨Q _,Q _,Q _⟩⟩,rfl,rfl,rfl,rfl⟩⟩
 ·have e:y.1=w.n:=by have:=j_ hi;have:=hy.1;omega
  have hall:Cj w=true:=Ap.2 λi hi=>hy.2.2 i (by omega);have hg:=Ap.1 hall 0 h0;have hf:=h.f 0 h0;have hd:=an9 h0;have hlk:gF w.full (bg (w.f 0))=true:=by unfold gF;rw[hd,Ys,hg];rfl
  have e1:(bif MZ Wk.start.ns.length (λi=>Wk.start.ns.getD i []) (w.f 0)then Wk.start.ns else Wk.start.ns++[w.f 0])=(Wk.start.take w.full (bg (w.f 0))).ns:=by have:=XF (Ro.start w.full) hd;rw[Ys] at this;exact this
  have hfit:=K6 w.full (bg (w.f 0));have usd:=(Ro.start w.full).take (HC w) hlk;have hT:=abR hall;refine⟨⟨by omega,by omega⟩,h0,⟨by omega,by omega⟩,λ_=>⟨⟨by omega,by omega⟩,h0,(⟨w,Wk.start,I,y.2,0,0⟩,w.f 0),⟨⟨K _,K _,by have:=hy.2.1;show w.n<=y.2;omega⟩,Q _⟩,rfl,rfl,⟨rfl,rfl,rfl,rfl⟩,⟨e,rfl⟩,rfl,rfl,rfl,rfl,rfl,S _,by rw[e];exact S _,rfl,rfl,λc hc=> ?_⟩,λe=>by rw[hg] at e;cases e⟩;have hc:(Wk.start.take w.full (bg (w.f 0))).ns.length<=c:=by rw[← e1];exact hc
  generalize hs2:Wk.start.take w.full (bg (w.f 0))=s2 at *;have el:s2.lk=0:=by rw[← hs2];rfl
  have ef:s2.fs=[]:=by rw[← hs2];rfl
  have sn: ∀ l:List h_,l=s2.ns->aa (.rows F l.length [.str λi=>l.getD i []] I (c*1) 9) (mQ s2 c):=by rintro _ rfl;exact S _
  have sf: ∀ l:List (h_×h_),l=s2.fs->aa (.rows F l.length [.str λi=>(l.getD i ([],[])).1,.str λi=>(l.getD i ([],[])).2] I (0*2) 50) (kD s2 0):=by rintro _ rfl;exact S _
  refine⟨⟨⟨w,s2,I,y.2,c,0⟩,0,getD (w.f 0),[]⟩,⟨by decide,⟨hn,h.f,Ap.1 hall,h.fr,h.to⟩,⟨hc,by show s2.fs.length<=0;rw[ef];exact K _,by have:=hy.2.1;show w.n<=y.2;omega⟩,sW hg,Q _,by decide,λ_=>⟨by show s2.Fit (s2.lk+1);rw[el];exact hfit,usd,by show 401<=s2.lk+401;omega,Q _⟩,λe=>by cases e⟩,rfl,rfl,⟨rfl,rfl,rfl,rfl⟩,⟨rfl,rfl⟩,⟨by show 0=s2.fs.length;rw[ef];rfl,rfl⟩,⟨congrArg J e1,rfl⟩,by show((0:Nat):Int)=s2.lk;rw[el],rfl,rfl,rfl,rfl,rfl,rfl,rfl,rfl,rfl,rfl,rfl,rfl,rfl,rfl,rfl,rfl,rfl,rfl,rfl,rfl,rfl,S _,S _,sf _ ef.symm,sn _ e1,λr hr=> ?_⟩;have hwl: ∀ v,lX w.full 401 s2 (getD (w.f 0)) []=v->(v=F->r.1=nO w.full 401 s2 (getD (w.f 0)) []/\r.2.1=I)/\(v=I->r.2.1=F/\r.1.Bd (500+40*401)):=λv hv=>⟨λe=>hr.yes (by rw[Bn rfl];exact hv.trans e),λe=>hr.no (by rw[Bn rfl];exact hv.trans e)⟩
  cases hv:lX w.full 401 s2 (getD (w.f 0)) [] with
  | true =>obtain⟨r1,r2⟩:=(hwl _ hv).1 rfl;have ht:=Jq hv;have hb:=(ES w.full 401 _ _ _ _ (by rw[el];exact hfit) ht).1;rw[hT,ht];refine⟨λ_=>⟨(r.1,r.2.2.1,r.2.2.2),⟨λ_=>by rw[hT,ht,r1],hr.c1,hr.c2,?_⟩,⟨rfl,rfl⟩,⟨rfl,rfl⟩,by rw[r2];rfl,S _,S _⟩,(λe=>by cases e)⟩;show r.1.Bd _;rw[r1];exact hb.bd (by have:=hb.lk;omega) (by decide)
  | false =>obtain⟨r1,r2⟩:=(hwl _ hv).2 rfl;rw[hT,Af hv];exact⟨(λe=>by cases e),λ_=>⟨(r.1,r.2.2.1,r.2.2.2),⟨(λe=>by cases e),hr.c1,hr.c2,r2.mono (by decide)⟩,⟨rfl,rfl⟩,⟨rfl,rfl⟩,by rw[r1];rfl,S _,S _⟩⟩
theorem av2:aq M 52 (dI abU) :=jT (n:=20) Tryz.func52 (by kernel_rfl) (by kernel_rfl) abU fun(w:Sp) hw=>⟨anC w,.of bI akj aO,rfl,afp hw⟩
end
end
section
open Go Sx
set_option maxRecDepth 20000
theorem Yl (c:Nat):aa (SB.cells [SV.str F [(97:UInt8)],SV.str F [(49:UInt8)],SV.str F [(98:UInt8)],SV.str F [(50:UInt8)]] c 50) (SB.view I 0 2 [bh.str eF,bh.str eG]):=by
 refine aa.of rfl rfl λhno=>⟨rfl,λE o ⟨c,fr,h1,h2,h3,_⟩=>⟨c,_,fr,h1,λi k col hi hk=> ?_⟩,λh=>by cases h⟩
 match i,hi,k,hk with
 | 0,_,0,hk=>obtain rfl:=Z hk;exact h3 0 (.str F [97]) rfl
 | 0,_,1,hk=>obtain rfl:=Z hk;exact h3 1 (.str F [49]) rfl
 | 1,_,0,hk=>obtain rfl:=Z hk;exact h3 2 (.str F [98]) rfl
 | 1,_,1,hk=>obtain rfl:=Z hk;exact h3 3 (.str F [50]) rfl
 | i+2,hi,_,_=>omega
 | _,_,k+2,hk=>simp at hk
theorem aya {p:Nat->Prop}(h0:p 0)(h1:p 1)(i:Nat)(hi:i<2):p i:=by
 match i,hi with
 | 0,_=>exact h0
 | 1,_=>exact h1
theorem Nh {A:It}:aa (.sy A.D [.str A.mP] 4 133 I) A.afQ :=⟨rfl,λ_ _ ha=>⟨ha,λ_ _ h=>h,λh=>by cases h⟩⟩
theorem RU:au (asn anF 11 bl [] (.ret (.bool F F))):=by
 refine au.xD al9 (by delta Fk Bk Ix Er NI fu gO aJ eC aj bH aC az bE cM gK fR nT Mw cc ja fz dy aD cw aX bJ aB b8 bA aV dx cN nM aT ff bS cE pT aU nH tn i9 bG uP gD jg gr pX gA uh mC IU jG tq th uV BB qK Ip Iu BG TB aah ahn TP aqB ahD BM aaN;exact rfl) ?_;have hB:hoB 2 eF eG=true:=by decide +kernel
 refine⟨⟨2,eF,eG,0,2⟩,⟨by decide,hB⟩,⟨rfl,rfl,rfl⟩,Yl _,λy hy=> ?_⟩;have hr:=ald 2 eF eG;dsimp only at hy ⊢;have l1: ∀ b:UInt8,[b].length<=1000:=λb=>by show(1:Nat)<=1000;decide
 have le1:OR [98] [99]=true:=by decide +kernel
 have le2:OR [98] [97]=false:=by decide +kernel
 refine⟨⟨2,eF,eG,y,[98],[99],gQ 2 eF eG,2000⟩,⟨⟨hy,l1 _,l1 _,.inl rfl⟩,rfl,le1⟩,rfl,rfl,rfl,rfl,aa.fmap (λ_=>rfl) (λ_=>rfl),Nh,λc hc=>⟨⟨⟨trivial,⟨trivial,trivial,trivial⟩,⟨rfl,by rw[X];exact K _⟩,trivial⟩,⟨hy.E7,hy.apart,rfl,le1,rfl,λi hi=>rfl,l1 _,l1 _⟩⟩,λc1 hc1=>⟨⟨⟨trivial,⟨trivial,trivial,trivial⟩,trivial,trivial⟩,rfl,l1 98,l1 98⟩,⟨2,eF,eG,y,[98],[97],gQ 2 eF eG,2000⟩,⟨⟨hy,l1 _,l1 _,.inl rfl⟩,rfl,le2⟩,rfl,rfl,rfl,rfl,aa.fmap (λ_=>rfl) (λ_=>rfl),Nh,⟨2,eF,eG,y,[98],[99],[63],2000⟩,⟨⟨hy,l1 _,l1 _,.inr (by show(1:Nat)≠32;decide)⟩,λe=>by have:=congrArg J e;rw[hr] at this;exact absurd this (by show ¬ (1:Nat)=32;decide)⟩,rfl,rfl,rfl,rfl,aa.fmap (λ_=>rfl) (λ_=>rfl),Nh,⟨⟨trivial,⟨trivial,trivial,trivial⟩,⟨rfl,by rw[X];exact K _⟩,trivial⟩,by decide,⟨by decide +kernel,by decide +kernel,rfl,le1,rfl,λi hi=>rfl,l1 _,l1 _⟩⟩,?_⟩⟩⟩
 repeat' first
  | exact trivial
  | exact rfl
  | exact λ_=>rfl
  | refine And.intro ?_ ?_
  | exact λh=>absurd h (by decide +kernel)
  | intro (_:_=F)
  | intro (_:_=I)
  | refine aya ?_ ?_
  | intro (_:Nat)
  | intro (_:_<=_)
  | decide +kernel
  | fail
def Jp (vs:List SV):Option (Prop×fC):=match vs with
 | []=>N (True,.ret (.bool F F))
 | _=>Y
theorem afG:aq M 11 (bZ Jp):=by
 refine ee (n:=40) Tryz.func11 (by kernel_rfl) (by kernel_rfl) ?_;intro vs q a h hq
 match vs,h with
 | [],h =>cases h;exact⟨_,aza,rfl,rfl,RU⟩
def Bg (L:List h_):fC:=.all Nat λc=>.req (L.length<=c) (.new (λk=>.bY k 1 F 0 L.length c) (.rows F L.length [xW L] I (c*1) 9))
noncomputable def Gv (vs:List SV)(l:List Seen):Option (Prop×fC):=match vs,l with
 | [_],[⟨_,_,_,n,_,[.str f,.str g]⟩]=>N (iT n f g=0,Bg (sw n f g))
 | _,_=>Y
noncomputable def au3:List (FuncId×PT):=(93,bV UH EF)::(94,dI (NR 13))::(95,EI 13)::CP
noncomputable def acO:iG:={bQ with cO:=λf=>av f au3}
noncomputable def au2:List (FuncId×PT):=(144,akL)::(93,bV UH EF)::(146,bZ W3)::CP
noncomputable def acN:iG:={bQ with cO:=λf=>av f au2}
noncomputable def ajc:mg:=asC abU (λw=>atX w/\(Na w).isSome=F) λw=>.all (Wk×Nat×Nat) λy=>.req (XC w F y) (.ret (.dr [.bY 1 2 F 0 y.1.fs.length y.2.2,.bY 2 1 F 0 y.1.ns.length y.2.1,.bool F F]) [(1,kD y.1 y.2.2),(2,mQ y.1 y.2.1)])
theorem afo:aq M 52 (dI ajc):=zz av2 fun(w:Sp) hw=>⟨hw.1,λG h=>by show(Sx.fork (Na w).isSome _).holds;rw[dY,hw.2];exact h⟩
noncomputable def Cp (vs:List SV)(l:List Seen):Option (Prop×fC):=match vs,l with
 | [_,.str I fr,.str I to],[⟨_,_,_,n,_,[.str f,.str g]⟩]=>N ((iT n f g=0/\kz (sw n f g).length (vr n f g)=F)/\fr.length<=1000/\to.length<=1000,Bg (q9 fr to (aQ n (λi=>ak (f i)) g)))
 | _,_=>Y
noncomputable def Vj:iG:={bQ with cO:=λf=>av f ((53,bV UH Gv)::(52,dI ajc)::CP)}
section
variable (n : Nat) (y z : Nat-> h_) (x : BeG)
abbrev aqE:=ai (SV.slc (aB 1) 0 1 F 1) (dh (aB 1) 1 1 n)
abbrev KT:=J x.o
abbrev ahs:=cY (KT x) x.co (λa=>aU a x.o) 9
abbrev ahA:=J (tQ 13 x.l x.o)
abbrev BP:=kK n y (jb z)
abbrev C':=J (BP n y z)
end
theorem ath (n:Nat)(f g:Nat->h_)(z:Bool)(o c:Nat)(key:Option Nat):dw (A4 2 aaE) (je acO 53 V [.cT 0 2 z o 0 n c] [fX z o c n f g key] (Bg (sw n f g))) (aD (nR o n z) True (TL n f)/\(∀(a:Nat),aJ (C' n f g) a (aD (aD i9 (b8 (C' n f g) (C' n f g)) True) (Rws 13 (C' n f g) (λa=>(gp a (BP n f g)).1) (λa=>(gp a (BP n f g)).2)) (∃(b:BeG),cI (BeG.Pre 13 b) (aK (C' n f g) (FC b) a b.c) (aK 1 (KT b) 1 b.co) (0<KT b) (cv (C' n f g) (bG a) (SB.rows F (FC b) (iY b.l b.l) F (bG b.c) 50) 50 (iY (BP n f g) (BP n f g))) (aa (SB.cells [aA (ctext 13 (aQ (C' n f g) (λa=>(gp a (BP n f g)).1) (λa=>(gp a (BP n f g)).2)))] 1 9) (ahs b)) (∀(a:Nat),aJ (ahA b) a (∃(c:Nat),dx (tf n f g<=c) (eZ (ahA b) a (λa=>aU a (tQ 13 b.l b.o)) (cY (tf n f g) (aF c) (λa=>aU a (sw n f g)) 9) 9) (dh 5 1 (ahA b) a) (dh 5 1 (tf n f g) c))))))):=⟨by kernel_rfl,by kernel_rfl⟩
theorem atg (f g:Nat->h_)(z:Bool)(o c:Nat)(key:Option Nat):dw Pl.k (je acN 53 V [.cT 0 2 z o 0 0 c] [fX z o c 0 f g key] (Bg (sw 0 f g))) (aj (aj (Er z) (Er o) (0<=0)/\True) (gA 0) (∀(a:Nat),a<0->bS (f a))/\(∀(a:Nat),aJ 0 a (pX 0 0 (aj (aV (aZ va)) (Fits va) oN/\jH 0 2 (∃(a:Nat),aj (1<=a) (aa (SB.cells [aA (eM va)] 1 9) (cY 1 (aF a) (λa=>aU a (sw 0 f g)) 9)) (aqE a)) False) (pX 0 1 (cK (cw 0 0) (0<0) (cw 0 0) (0<0) (aj (aV (aZ (iX R 1 Xw))) (Fits (iX R 1 Xw)) oN) (jH 0 2 (∃(a:Nat),aj (1<=a) (aa (SB.cells [aA (eM (iX R 1 Xw))] 1 9) (cY 1 (aF a) (λa=>aU a (sw 0 f g)) 9)) (aqE a)) False)) False)))):=⟨by kernel_rfl,by kernel_rfl⟩
theorem alO (n:Nat)(f g:Nat->h_)(fr to:h_)(z:Bool)(o c:Nat)(key:Option Nat):dw Pl.k (je Vj 16 ay [.cT 0 2 z o 0 n c,.str I fr,.str I to] [fX z o c n f g key] (Bg (q9 fr to (aQ n (λi=>ak (f i)) g)))) (aD (nR o n z) True (iT n (jb f) (jb g)=0)/\(∀(a:Nat),aJ (tf n (jb f) (jb g)) a (∃(b:Sp),cI (atX b/\aV (Option.isSome (Na b))) (fr=b.fr) (to=b.to) (aj (0=b.o+0) (tf n (jb f) (jb g)=b.n) (a=b.c)) (wK b.n 0 F=wK b.n 0 b.z) (eZ (tf n (jb f) (jb g)) (aF a) (λa=>aU a (sw n (jb f) (jb g))) (Io b) 9) (∀(a:Wk×Nat×Nat),XC b F a->(∃(b:Nat),dx (J (q9 fr to (kK n f g))<=b) (eZ (cm a.1) (aF a.2.1) (λb=>lT b a.1) (cY (J (q9 fr to (kK n f g))) (aF b) (λa=>aU a (q9 fr to (kK n f g))) 9) 9) (dh 4 1 (cm a.1) a.2.1) (dh 4 1 (J (q9 fr to (kK n f g))) b)))))):=⟨by kernel_rfl,by kernel_rfl⟩
theorem asX (x:BeG):dw (C8 aaE) (runM am1 94 b_ (NR 0) x) (jH (FC x) 2 (∃(a:Nat),nK (J (tQ 0 x.l x.o)<=a) (aK (KT x) (J (tQ 0 x.l x.o)) x.co a) (ahs x) (FY (tQ 0 x.l x.o) a)) False):=⟨by kernel_rfl,by kernel_rfl⟩
theorem az5 {cs:List bh}:aa (.rows I n cs I tot ty) (.rows F n cs I tot ty) :=aa.of rfl rfl λ_=>⟨rfl,λ_ _ h=>h,λh=>h⟩
theorem alf {z:Bool}{cs:List bh}:aa (.rows z n cs I tot ty) (.view z 0 n cs) :=aa.of rfl rfl λhno=>⟨hno,λE o ⟨ce,fr,h1,_,_,_,h4⟩=>⟨ce,ty,fr,h1,λi k col hi hk=>by rw[X];exact h4 i k col hi hk⟩,λh=>by cases h⟩
theorem abP {t:h_}(h:f 0=t)(ht:tot=1):aa (.cells [.str I t] 1 ty) (.rows F 1 [.str f] I tot ty):=by subst h;subst ht;exact Sx.aa.trans (Sx.aa.cells (cs':=me (.str f) 0 1) (λE=>rfl) rfl) (Sx.aa.trans Sx.aa.afq az5)
theorem XM:aq M 94 (dI (NR 0)) :=
 jT (n:=20) Tryz.func94 (by kernel_rfl) (by kernel_rfl) (NR 0) λx hx=>⟨am1,.of bI (aR.cons (Nz _) ED sY) aO,by rfl,by refine au.xD (asX x) (by delta Fk NI aM aj bN bJ cY jH aU aK nK FC KT ahs;exact rfl) ?_;have hx:x.Pre 0:=hx;have e:=EL hx.ok;rw[e];exact⟨λ_=>⟨x.co,hx.c,⟨rfl,rfl⟩,aa.refl _⟩,λh=>by simp at h⟩⟩
theorem NS: ∀ m,aq M 94 (dI (NR m))
 | 0=>XM
 | m+1=>ajB (NS m)
theorem avq (o:List h_)(t:h_):KQ o t=if t∈ o then o else o++[t]:=by
 unfold KQ;by_cases h:t∈ o
 ·rw[o_ h,Ns.2 h];rfl
 ·rw[p_ h,bf.2 λe=>h (Ns.1 e)];rfl
theorem ajA (l:List Rw):tQ 13 l [ctext 13 l]=fJ (jy 13 l):=by
 unfold tQ fJ jy;rw[List.foldl_cons,show KQ=λu x=>if x∈ u then u else u++[x] by funext u x;exact avq u x]
 rfl
theorem Lc (L:List h_):(Bg L).Ok:=λ_=>⟨rfl,rfl,λk=>by
 show Nat.blt k (k+1)=F;rw[Nat.blt_eq];omega,λE E' k k' h=>by
 cases L with
 | nil=>rfl
 | cons a r =>show(SV.bY k 1 F 0 (a::r).length _).val E=(SV.bY k' 1 F 0 (a::r).length _).val E';have:=h (SB.o5 (i:=0) (cx _));simp only[SV.val,this]⟩
theorem ayl (h:iT n f g=0)(hi:i<n):(f i).length<1099511627776:=(afS h).2 i hi
theorem Wu (n:Nat)(f g:Nat->h_)(h:iT n f g=0)(h0:0<n)(z:Bool)(o c:Nat)(key:Option Nat):au (je acO 53 V [.cT 0 2 z o 0 n c] [fX z o c n f g key] (Bg (sw n f g))):=by
 refine au.xD (ath n f g z o c key) (by delta Er aJ aF aj aC aA aD bN bJ cY b8 dh cv br cI dx eZ bS aU i9 bG aK iY DG kK gp nR TL jb FC tf KT ahs ahA BP C';exact rfl) ?_;have h40:=(nW h).2;have hr:=nX h;have hl:=fI n (λi=>ak (f i)) g;have ha:=afN 13 (aQ n (λi=>ak (f i)) g);have e:sw n f g=tQ 13 (aQ n (λi=>ak (f i)) g) [ctext 13 (aQ n (λi=>ak (f i)) g)]:=(ajA _).symm;refine⟨⟨⟨⟨rfl,rfl,by omega⟩,trivial⟩,by omega,λi hi=>ayl h hi⟩,λc hc=>⟨⟨⟨⟨rfl,by omega⟩,trivial⟩,⟨by rw[qI];exact hr,by rw[hl];exact h0,by rw[hl];omega,K _⟩⟩,⟨aQ n (λi=>ak (f i)) g,c,[ctext 13 (aQ n (λi=>ak (f i)) g)],1⟩,⟨hr,by rw[hl];omega,K _,K _,?_⟩,⟨rfl,rfl⟩,⟨rfl,rfl⟩,Nat.one_pos,tB,?_,λc' hc'=>⟨c',by rw[e];exact hc',?_,?_⟩⟩⟩
 ·show 1+(dH 13 (aQ n (λi=>ak (f i)) g)).length<=100000;have:(dH 13 (aQ n (λi=>ak (f i)) g)).length+1=(jy 13 (aQ n (λi=>ak (f i)) g)).length:=rfl;omega
 ·rw[qI];exact abP rfl rfl
 ·rw[e,Nat.mul_one];exact aa.refl _
 ·rw[e];exact λ_=>rfl
theorem Wt (f g:Nat->h_)(z:Bool)(o c:Nat)(key:Option Nat):au (je acN 53 V [.cT 0 2 z o 0 0 c] [fX z o c 0 f g key] (Bg (sw 0 f g))):=by refine au.xD (atg f g z o c key) (by delta Fk Ix Er NI aM aJ aF aj aC bE aA cw bN bJ cY aB dh aV cK jH bS dS oN aU WS Xw iX va pX gA aqE;exact rfl) ?_;refine⟨⟨⟨⟨rfl,rfl,K _⟩,trivial⟩,by decide,λi hi=>absurd hi (ct _)⟩,λc hc=>⟨λ_=>⟨⟨Bs 13,afw (Bs 13),by decide⟩,λ_=>⟨1,K _,abP rfl rfl,λ_=>rfl⟩,λh=>by simp at h⟩,λh=>by simp at h⟩⟩
theorem akM:aq M 53 (bV UH Gv):=by
 refine gi (n:=20) Tryz.func53 (by kernel_rfl) (by kernel_rfl) ?_;intro vs l q a h hq;unfold Gv at h;split at h
 ·rename_i n _ f g;cases h;cases n with
  | zero=>exact⟨acN,.of bI (aR.cons (Nz _) ED (.cons Ts (bR _ _) (.cons ai1 (bK _) sZ))) aO,rfl,Lc _,Wt f g _ _ _ _⟩
  | succ n=>exact⟨acO,.of bI (aR.cons Ts (bR _ _) (.cons (NS 13) (de _) (.cons (MC 13) (bR _ _) sZ))) aO,rfl,Lc _,Wu _ f g hq (cx n) _ _ _ _⟩
 ·cases h
theorem av0 (h:iT n f g=0)(ha:kz (sw n f g).length (vr n f g)=F)(hn:w.n=(sw n f g).length)(hf:w.f=vr n f g): ∃ s,Na w=N s/\s.ns=q9 w.fr w.to (aQ n (λi=>ak (f i)) g):=by
 obtain⟨he,h40⟩:=nW h;have hr:=nX h;have hi:=adv ha;have hin: ∀ i,i<w.n->w.f i∈ jy 13 (aQ n (λi=>ak (f i)) g):=λi h'=>by rw[hf];exact(su _ _ rfl _).1 (F9 (by show i<(sw n f g).length;omega))
 have hall:Cj w=true:=Ap.2 λi h'=>(vp hr (hin i h')).1;have hF:Full w.full (qz w.fr w.to (aQ n (λi=>ak (f i)) g)):=λt ht=>by
  have hd:bw w.f w.n (bg t)=true:=by obtain⟨q,hq,rfl⟩:=agz (uG ht);rw[← hf];exact zf _ _ q (by omega)
  have ha:=ZU hi hin (uG ht) hd;refine⟨?_,ha⟩;unfold gF;rw[ha,(vp hr (uG ht)).1];show(bw w.f w.n (bg t)&&F)=F;rw[hd];rfl
 have e0:w.f 0=ctext 13 (aQ n (λi=>ak (f i)) g):=by rw[hf,Eh]
 have hw:=Ll (w:=w.full) hr (by rw[fI];exact h40) (λx hx=>by rw[vN] at hx;obtain⟨e,_,rfl⟩:=cl.1 hx;exact Py e.1) hF
 obtain⟨g1,g2⟩:=hF _ (List.mem_cons_self ..);unfold uZ at hw;rw[g1,cond_true,g2] at hw;exact⟨_,by rw[abR hall,e0];exact hw,Xp (w:=w.full) hi hF _ _⟩
theorem azh (h:iT n f g=0):0<(sw n f g).length/\(sw n f g).length<=120:=by
 obtain⟨he,h40⟩:=nW h;have e:sw n f g=q9 [] asM (aQ n (λi=>ak (f i)) g):=by rw[vN,auk he,← vN];rfl
 refine⟨(agA h).pos,?_⟩;rw[e];exact Va (nX h) (by rw[fI];exact h40)
theorem Rr (n:Nat)(f g:Nat->h_)(fr to:h_)(h:iT n f g=0)(ha:kz (sw n f g).length (vr n f g)=F)(h1:fr.length<=1000)(h2:to.length<=1000)(z:Bool)(o c:Nat)(key:Option Nat):au (je Vj 16 ay [.cT 0 2 z o 0 n c,.str I fr,.str I to] [fX z o c n f g key] (Bg (q9 fr to (aQ n (λi=>ak (f i)) g)))):=by
 refine au.xD (alO n f g fr to z o c key) (by delta Er aJ aF aj aC aD bN bJ cY b8 dh cv aV cI dx eZ aU DG kK wK cm lT Io nR jb tf;exact rfl) ?_;obtain⟨l1,l2⟩:=azh h;refine⟨⟨⟨⟨rfl,rfl,by omega⟩,trivial⟩,h⟩,λc hc=> ?_⟩;obtain⟨s,e1,e2⟩:=av0 h ha (w:=⟨fr,to,(sw n f g).length,vr n f g,F,0,c,λ_=>I,λ_=>0⟩) rfl rfl;refine⟨⟨fr,to,(sw n f g).length,vr n f g,F,0,c,λ_=>I,λ_=>0⟩,⟨⟨l1,by show(sw n f g).length<=200;omega,(agA h).len,h1,h2⟩,by rw[e1];rfl⟩,rfl,rfl,⟨rfl,rfl,rfl⟩,rfl,?_,λy hy=>⟨y.2.1,?_⟩⟩
 ·exact alf
 ·have:=hy.s rfl;rw[e1] at this;have:=Z this;have e:y.1.ns=q9 fr to (aQ n (λi=>ak (f i)) g):=by rw[← this];exact e2
  rw[e];exact⟨by rw[← e];exact hy.c1,aa.refl _,λ_=>rfl⟩
theorem acB:aq M 16 (bV ai5 Cp):=by
 refine gi (n:=20) Tryz.func16 (by kernel_rfl) (by kernel_rfl) ?_;intro vs l q a h hq;unfold Cp at h;split at h
 ·cases h;exact⟨Vj,.of bI (aR.cons akM (bR _ _) (.cons afo (de _) sZ)) aO,rfl,Lc _,Rr _ _ _ _ _ hq.1.1 hq.1.2 hq.2.1 hq.2.2 _ _ _ _⟩
 ·cases h
noncomputable def afZ:mg:=asC xM (λx=>Rl x/\x.root=gQ x.n x.f x.g) λx=>.fork (OR x.fr x.to) λb=>match b with
 | true=>.all Nat λc=>.req (x.ns.length<=c) (.ret (.dr [.bY 3 1 F 0 x.ns.length c,.int .i64 F 0]) (vq x.room x.y++[(3,.rows F x.ns.length [xW x.ns] I (c*1) 9)]))
 | false=>.ret (.dr [.bW,.int .i64 F 1]) (vq x.room x.y)
theorem acD:aq M 13 (dI afZ):=zz D7 fun(x:UX) hx=>⟨hx.1,λG h=>by show(Sx.fork (decide (x.root=gQ x.n x.f x.g)) _).holds;rw[dY,k_ hx.2];exact h⟩
noncomputable def apf (n:Nat)(f g:Nat->h_):List (FuncId×PT):=(11,bZ Jp)::(12,dI yx)::(13,dI afZ)::(14,bV abv (xB n f g))::(16,bV ai5 Cp)::(18,bV ai5 JS)::(15,abK (bV avT vT))::(17,abK (bV avR tC))::mX
theorem akp (n:Nat)(f g:Nat->h_):aR M (λk=>av k (apf n f g)):=.cons afG (bK _) (.cons aoD (de _) (.cons acD (de _) (.cons (Lh n f g) (bR _ _) (.cons acB (bR _ _) (.cons U' (bR _ _) (.cons (Q4 ali) (GU (bR _ _)) (.cons (Q4 alj) (GU (bR _ _)) gT)))))))
noncomputable def anx (n:Nat)(f g:Nat->h_):iG:={bQ with cO:=λk=>av k (apf n f g)}
theorem ay5 (n:Nat)(f g:Nat->h_):Sx.Good M (anx n f g):=.of bI (akp n f g) aO
section
variable (n : Nat) (s t : h_) (x y : Nat-> h_)
abbrev Iy:=gb F
abbrev arn:=iT n (jb x) (jb y)=0/\aV (kz (tf n (jb x) (jb y)) (vr n (jb x) (jb y)))
abbrev IY:=J (q9 s t (BP n x y))
end
theorem Xo (n:Nat)(f g:Nat->h_)(z:Bool)(o c:Nat)(fr to:h_)(key:Option Nat):dw (jQ 1 P9 (oe (jh 3 P9) Pl.t)) (je (anx n f g) 3 bn [.cT 0 2 z o 0 n c,.str I fr,.str I to] [fX z o c n f g key] (.ret (.bool I F))) (True/\(∃(a:HoG),cX (dy a.n) (az (z=a.z) (o=a.o) (n=a.n) (c=a.c)) (Bk (aaS a) (∀(b:JG),ag7 a b->aM 50 (bB fr) (ai nM Iy) (aM 50 (bB to) (ai nM Iy) (∃(c:UX),cM (Rl c) (BB c) (bg (Mv a)=c.root) (fr=c.fr) (aC (to=c.to) (2000=c.room) (aa (jG 4 (uV b) b.g) (Ip c)) (TB c b) (Bk (Iu c) (∀(b:Nat),aJ (qK c) b (aX (pX (qK c) 0 (ai (tj (cJ 0 1)) Iy) (ai fR Iy)) (aD (aaN c) (NM n f g (bg (Mv a)) (Sp.mk fr to (qK c) (TP c) F 0 b (λ_=>I) (λ_=>0))) (∀(a:Nat),cN (xd n fr to f g) a (cM (nR o n z) BG (arn n f g) (gd fr) (gd to)) (∀(a:Nat),aJ (IY n fr to f g) a (cM (aj (i9/\b8 (qK c) (qK c)) (i9/\b8 (IY n fr to f g) (IY n fr to f g)) True) (dy (qK c)) (aV (kZ (qK c) (TP c) (IY n fr to f g) (λa=>aU a (q9 fr to (BP n f g))))) (aC (nR o n z/\BG) (gA n) (∀(a:Nat),a<n->gd (f a)) (gd fr) (gd to)) (∀(a:Nat),aJ (J (mC n fr to (jb f) (jb g))) a (dx (aj (i9/\b8 (xd n fr to f g) (xd n fr to f g)) (i9/\b8 (J (mC n fr to (jb f) (jb g))) (J (mC n fr to (jb f) (jb g)))) True/\dy (xd n fr to f g)) (aV (m7 (xd n fr to f g) (λa=>(jg a (mC n fr to f g)).1) (λa=>(jg a (mC n fr to f g)).2) (J (mC n fr to (jb f) (jb g))) (λa=>(jg a (mC n fr to (jb f) (jb g))).1) (λa=>(jg a (mC n fr to (jb f) (jb g))).2))) nM Iy)))))) (ag fr to||ew fr to))) (aX (ai (tj IU) Iy) (aD (aj True BG uh) (NM n f g (bg (Mv a)) (Sp.mk fr to 0 (λ_=>R) F 0 0 (λ_=>I) (λ_=>0))) (∀(a:Nat),cN (xd n fr to f g) a (cM (nR o n z) BG (arn n f g) (gd fr) (gd to)) (∀(a:Nat),aJ (IY n fr to f g) a (dx (aj True (i9/\b8 (IY n fr to f g) (IY n fr to f g)) True/\dy 0) (aV (kZ 0 (λ_=>R) (IY n fr to f g) (λa=>aU a (q9 fr to (BP n f g))))) fR Iy)))) (ag fr to||ew fr to))))))) (ai nM Iy)) (SB.view z o n (bJ f (bJ g R))) (ahh a))):=⟨by kernel_rfl,by kernel_rfl⟩
theorem Q2 (n:Nat)(f g:Nat->h_)(hn:n<9223372036854775808)(z:Bool)(o c:Nat)(fr to:h_)(key:Option Nat):au (je (anx n f g) 3 bn [.cT 0 2 z o 0 n c,.str I fr,.str I to] [fX z o c n f g key] (.ret (.bool I F))):=by
 refine au.xD (Xo n f g z o c fr to key) (by delta Fk Bk Er NI aM aJ bx bB aj aC az bE cM gK fR gb cJ tj dy aD aX bJ b8 aV dx cN nM cX fk aU ew i9 gD jg DG kK gr pX gA uh gd nR mC xd IU jb jG tq th uV aaS tf Mv ag7 ahh BB qK Ip Iu BG TB TP aaN BP Iy arn IY;exact rfl) ?_;have T:ai (SV.bool F F) (SV.bool I F):=λ_=>rfl;refine⟨trivial,⟨n,f,g,z,o,c⟩,hn,⟨rfl,rfl,rfl,rfl⟩,aa.refl _,λhB y hy=>⟨λ_=>T,λa1=>⟨λ_=>T,λa2=> ?_⟩⟩,λ_=>T⟩;have a1:=j_ a1;have a2:=j_ a2;have held:=YG hB hy;obtain⟨he,h40⟩:=nW held.E7;have f1:fr.length<=1000:=by omega
 have f2:to.length<=1000:=by omega
 have hr:=agB n f g;have hl:=Va (fr:=fr) (to:=to) (nX held.E7) (by rw[fI];exact h40);have b1:=afX fr to n f g;have h40:n<=40:=h40;have same:m7 (cG fr to (aQ n f g)).length (λi=>((cG fr to (aQ n f g)).getD i ([],[])).1) (λi=>((cG fr to (aQ n f g)).getD i ([],[])).2) (cG fr to (aQ n f g)).length (λi=>((cG fr to (aQ n f g)).getD i ([],[])).1) (λi=>((cG fr to (aQ n f g)).getD i ([],[])).2)=true:=(UE _ _).trans (k_ rfl);have hk: ∀ i,i<n->(f i).length<=1000:=λi hi=>by have:(f i).length<=6:=(he.key (f i,g i) (by unfold aQ;exact cl.2 ⟨i,a!.2 hi,rfl⟩)).2;omega
 refine⟨⟨n,f,g,y,fr,to,bg (vr n f g 0),2000⟩,⟨⟨held,f1,f2,.inl hr⟩,hr⟩,rfl,rfl,rfl,rfl,aa.fmap (λ_=>rfl) (λ_=>rfl),Nh,λhle c1 hc1=>⟨λe=> ?_,λ_=> ?_⟩,λhle=>⟨λ_=>λ_=>rfl,λe=> ?_⟩⟩
 ·rw[show(ag fr to||decide (fr=to))=F from hle] at e;cases e
 ·have hle:OR fr to=true:=hle;exact⟨⟨⟨trivial,⟨trivial,trivial,trivial⟩,⟨rfl,by omega⟩,trivial⟩,⟨held.E7,held.apart,hr,hle,rfl,λi hi=>rfl,f1,f2⟩⟩,λc2 hc2=>⟨⟨⟨⟨rfl,rfl,by omega⟩,trivial,trivial,trivial⟩,⟨held.E7,held.apart⟩,f1,f2⟩,λc3 hc3=>⟨⟨⟨⟨rfl,by omega⟩,⟨rfl,by omega⟩,trivial⟩,Nat.lt_of_le_of_lt hl (by decide)⟩,UF.2 ⟨rfl,λ_ _=>rfl⟩,⟨⟨⟨rfl,rfl,by omega⟩,trivial,trivial,trivial⟩,by omega,hk,f1,f2⟩,λc4 hc4=>⟨⟨⟨⟨rfl,by omega⟩,⟨rfl,by omega⟩,trivial⟩,by omega⟩,same,T⟩⟩⟩⟩
 ·rw[show(ag fr to||decide (fr=to))=I from hle] at e;cases e
end
namespace Sx
open Go Go.RowKit Go.WideShapes Go.ChangeShapes
theorem Ob {P:Program}{W:World}{H:Type}{enc:TypeId×Value->H}{e:TypeId}{fs:Array Field}{xs:List Value}{y:DataW H×List MemPlace}{m:Nat}(he:P.underlying e=N (.struct fs))
  (h:DataW.trod enc P W 0 (λ_=>F) F m e xs=N y)  {f:Field} (hf:fs[i]?=N f) (h1:P.cellsOf f.type=1) {x:Value} (hx:xs[f.offset]?=N x) :
  ∃ m' y',DataW.trod enc P W 0 (λ_=>F) F m' f.type [x]=N y':=by
 obtain⟨ys,m',rfl,_,_,hyl,hfield⟩:=DataW.trod_struct he h;have:=hfield i f hf;rw[h1] at this;have hd:(xs.drop f.offset).take 1=[x]:=by rw[List.take_one,List.head?_drop,hx];rfl
 rw[hd,List.getElem?_eq_getElem (by rw[hyl];exact(Array.getElem?_eq_some_iff.1 hf).1)] at this;exact⟨m',_,this⟩
def Stood (W:World)(b:Nat)(B:SB):Prop:=B.no=I->∃ ob,W.heap[b]?=N ob/\∀ E,cq E B ob
end Sx
end Go.Proofs.YtoibaecagklkaaaGreatDoor
