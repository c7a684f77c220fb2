/-
  The framework's part 31: calls that reach blocks at keys of their own (what a range over a function has in scope), and what they hold behind it.
-/
import Derived.Test.YtpaaiebohjjieaaGreatDoorMo
import Derived.Test.YtpaaiebohjjieaaGreatDoorMr
import Derived.Test.YtpaaiebohjjieaaGreatDoorMi
import Derived.Test.YtpaaiebohjjieaaGreatDoorMj
import Derived.Test.YtpaaiebohjjieaaGreatDoorMk
import Derived.Test.YtpaaiebohjjieaaGreatDoorMn
import Derived.Test.YtpaaiebohjjieaaGreatDoorMp
import Derived.Test.YtpaaiebohjjieaaGreatDoorMq
import Derived.Test.YtpaaiebohjjieaaGreatDoorMm
namespace Go.Proofs.YtpaaiebohjjieaaGreatDoor.Sx
open Go
noncomputable section
def kY (N nx k:Nat):Nat:=match Nat.blt k N with
 | true=>k
 | false=>nx+k
structure q8 where
 G:Type
 N:Nat
 H:Nat
 pre:G->Prop
 args:G->List SV
 mem:G->Mem
 val:G->SV
 B:Type
 post:G->B->Prop
 back:G->B->Mem
def Nc (H:Nat):Mem->Bool
 | []=>true
 | e::r=>Nat.blt e.1 H&&Nc H r
theorem EF {H:Nat}: ∀ {m:Mem} {k:Nat} {B:SB},Nc H m=true->m.get k=some B->k<H
 | [],_,_,_,h=>by cases h
 | e::r,k,B,hb,h=>by
   simp only[Nc,Bool.and_eq_true,Nat.blt_eq] at hb;by_cases he:e.1=k
   ·rw[← he];exact hb.1
   ·rw[Mem.get,if_neg he] at h;exact EF hb.2 h
def DR:SV->Option Nat
 | .yield k=>some k
 | _=>none
theorem GX {v:SV}{k:Nat}(h:DR v=some k):v=.yield k:=by
 unfold DR at h;split at h
 ·injection h with h;rw[h]
 ·cases h
def jG (base:Nat):List SV->List SV->Ren->(Ren->VC)->VC
 | [],[],aE,t=>t aE
 | h::hs,u::us,aE,t=>(match DR h,DR u with
   | some a,some b=>(match Nat.beq a b,Nat.blt a base with
     | true,true=>jG base hs us aE t
     | _,_=>.fail "call: another yield")
   | _,_=>yF base aE h u (fun aE=>jG base hs us aE t))
 | _,_,_,_=>.fail "call: so many arguments"
theorem qf {base:Nat}: ∀ {hs us:List SV} {aE:Ren} {t:Ren->VC},(jG base hs us aE t).holds ->
  ∃ ren',aE.le ren'/\(t ren').holds/\∀ ren'' (E:Nat->Nat),ren'.le ren''->SV.vals (Ren.E base ren'' E) hs=SV.vals E us
 | [],[],aE,t,h=>⟨aE,Ren.le_refl _,h,fun _ _ _=>rfl⟩
 | h::hs,u::us,aE,t,hh=>by
   simp only[jG] at hh;split at hh
   ·rename_i a b ha hb;split at hh
    ·rename_i e1 e2;obtain rfl:=Nat.eq_of_beq_eq_true e1;have e2:a<base:=by simpa [Nat.blt_eq] using e2
     obtain⟨r2,g1,g2,g3⟩:=qf hh;refine⟨r2,g1,g2,fun r'' E hle=> ?_⟩;rw[GX ha,GX hb];simp only[SV.vals,SV.val,g3 r'' E hle,Ren.BV e2]
    ·exact hh.elim
   ·obtain⟨r1,h1,h2,h3⟩:=vW hh;obtain⟨r2,g1,g2,g3⟩:=qf h2;exact⟨r2,Ren.le_trans h1 g1,g2,fun r'' E hle=>by simp only[SV.vals];rw[h3 r'' E (Ren.le_trans g1 hle),g3 r'' E hle]⟩
 | [],_::_,_,_,h=>h.elim
 | _::_,[],_,_,h=>h.elim
theorem sg {base:Nat}: ∀ {a b:List SV} {aE:Ren} {t t':Ren->VC},(∀ r,(t r).holds->(t' r).holds)->(jG base a b aE t).holds->(jG base a b aE t').holds
 | [],[],_,_,_,ht,h=>ht _ h
 | x::a,y::b,aE,t,t',ht,h=>by
   simp only[jG] at h ⊢;split at h
   ·split at h
    ·exact sg ht h
    ·exact h.elim
   ·exact GI (fun _ h=>sg ht h) h
 | [],_::_,_,_,_,_,h=>h.elim
 | _::_,[],_,_,_,_,h=>h.elim
def q8.ok (c:q8)(x:c.G):Bool:=Nat.ble c.N c.H&&(Nc c.H (c.mem x)&&(Mem.wf c.H (c.mem x)&&SV.gM c.H (c.args x)))
def q8.Bd (c:q8)(x:c.G)(nx:Nat)(K:SV->Mem->Nat->VC):VC:=.all c.B fun y=>.imp (c.post x y) (match Nc c.H (c.back x y)with
 | true=>K ((c.val x).Xx (kY c.N nx)) (LN (kY c.N nx) (c.back x y)) (nx+c.H)
 | false=>.fail "call: keys")
theorem q8.qR {c:q8}{x:c.G}{nx:Nat}{K K':SV->Mem->Nat->VC}(hK: ∀ v m nx,(K v m nx).holds->(K' v m nx).holds)(h:(c.Bd x nx K).holds):(c.Bd x nx K').holds:=by
 intro y hy;have h:=h y hy;cases hb:Nc c.H (c.back x y)with
 | false=>rw[hb] at h;exact h.elim
 | true=>rw[hb] at h;exact hK _ _ _ h
def o7 (c:q8):PT:=fun args m nx K=>.ex c.G fun x=>.and (.atom (c.pre x)) (match Nat.ble c.N nx,c.ok x with
 | true,true=>jG c.N (c.args x) args [] fun aE=>fY c.N m (c.mem x) [] aE fun _=>c.Bd x nx K
 | _,_=>.fail "call: keys")
theorem A9 (c:q8):aJ (o7 c):=by
 intro args m nx K K' hK h;obtain⟨x,h1,h2⟩:=h;refine⟨x,h1,?_⟩;show VC.holds _
 have h2:VC.holds (match Nat.ble c.N nx,c.ok x with
  | true,true=>jG c.N (c.args x) args [] fun aE=>fY c.N m (c.mem x) [] aE fun _=>c.Bd x nx K
  | _,_=>.fail "call: keys"):=h2
 revert h2;cases Nat.ble c.N nx with
 | false=>exact id
 | true=>cases c.ok x with
   | false=>exact id
   | true=>exact sg fun aE h=>js (fun _ h=>q8.qR hK h) h
def q8.fit (c:q8)(x:c.G):SV->Mem->Nat->VC:=fun v m _=>.ex c.B fun y=>.and (.atom (c.post x y)) (nR c.N [c.val x] [v] [] fun aE=>fY c.N m (c.back x y) [] aE fun _=>.tt)
section
variable {P : Program}
theorem aG.aiJ {Γ:aQ}{E m nx w}(h:aG Γ E m nx w){n N:Nat}(hΓ:Γ.wB<=n)(hnN:n<=N){aE:Ren}{m2:Mem}(hb: ∀ kh B',m2.get kh=some B'->BU n m [] aE kh B')
  (hi: ∀ kh kh' B B' k1,m2.get kh=some B->(∃ b a,B.jD b a)->m2.get kh'=some B'->(∃ b a,B'.jD b a)->ew n aE kh=some k1->ew n aE kh'=some k1->kh=kh') (hlt: ∀ kh B',m2.get kh=some B'->kh<N) :
  aG Γ (Ren.E n aE E) m2 N w:=by
 have hE: ∀ kh k1,ew n aE kh=some k1->Ren.E n aE E kh=E k1:=fun kh k1 hr=>by simp[Ren.E,hr]
 have hg: ∀ {kh B' a},m2.get kh=some B'->B'.jD (Ren.E n aE E kh) a->∃ k1 B,ew n aE kh=some k1/\m.get k1=some B/\B.jD (E k1) a/\(∀ E1 o,bw E1 (B.el a) o->bw (Ren.E n aE E1) (B'.el a) o)/\(B'.ro=false->B.ro=false):=fun {kh B' a} hg ha=>by obtain⟨k1,B,g1,_,g3,g4,g5,g6⟩:=hb kh B' hg _ a ha;exact⟨k1,B,g1,g3,by rw[← hE kh k1 g1];exact g4,g5,g6⟩
 refine⟨fun kh B' a hk ha=> ?_,fun kh kh' B B' a hk ha hk' ha' hr=> ?_,hlt,fun kh B' a hk ha hro=> ?_,h.ext,⟨Nat.le_trans hΓ hnN,fun k hk=>(Ren.BV (Nat.lt_of_lt_of_le hk hΓ)).trans (h.cx.2 k hk)⟩,h.kp⟩
 ·obtain⟨k1,X,_,q3,q4,q5,_⟩:=hg hk ha;obtain⟨o,ho,hbo⟩:=h.jK k1 X a q3 q4;exact⟨o,ho,q5 E o hbo⟩
 ·obtain⟨k1,X,g1,g3,g5,_,g7⟩:=hg hk ha;obtain⟨k1',X',g1',g3',g5',_,g7'⟩:=hg hk' ha';have:=h.j9 k1 k1' X X' a g3 g5 g3' g5' (hr.imp g7 g7');subst this;exact hi kh kh' B B' k1 hk ⟨_,_,ha⟩ hk' ⟨_,_,ha'⟩ g1 g1'
 ·obtain⟨k1,X,_,g3,g5,_,g7⟩:=hg hk ha;exact h.lE k1 X a g3 g5 (g7 hro)
theorem aG.aqV {Θ Δ:aQ}{E E3:Nat->Nat}{m2:Mem}{N H nx:Nat}{w':World}(h:aG Θ E3 m2 H w')(hw0:Δ.w0=Θ.w0)(hm0:Δ.M0=Θ.M0)(hk0:Δ.keep=Θ.keep)(hΔ:Δ.wB<=nx)(hE0: ∀ k,k<Δ.wB->E k=Δ.E0 k)
  (hN:N<=nx) (hlow: ∀ k,k<N->E3 k=E k) :
  (∀ k,mH nx E E3 (kY N nx k)=E3 k)/\aG Δ (mH nx E E3) (LN (kY N nx) m2) (nx+H) w':=by
 have hρ: ∀ k,mH nx E E3 (kY N nx k)=E3 k:=fun k=>by
  unfold kY mH;cases hb:Nat.blt k N with
  | true =>
    have hk:k<N:=by simpa [Nat.blt_eq] using hb
    simp only[show k<nx by omega,if_true];exact(hlow k hk).symm
  | false=>simp only[show ¬ nx+k<nx by omega,if_false,Nat.add_sub_cancel_left]
 have hget: ∀ {j X},(LN (kY N nx) m2).get j=some X->∃ k B,m2.get k=some B/\kY N nx k=j/\X=B.aE (kY N nx):=fun {j X} hj=>by
  have hj:(LN (kY N nx) m2++[]).get j=some X:=by rw[List.append_nil];exact hj
  rcases Dm hj with h1 | h1
  ·exact h1
  ·cases h1
 have hfun:(fun k=>mH nx E E3 (kY N nx k))=E3:=funext hρ;refine⟨hρ,fun j X a hj ha=> ?_,fun j j' X X' a hj ha hj' ha' hr=> ?_,fun j X hj=> ?_,fun j X a hj ha hr=> ?_,by rw[hw0,hm0];exact h.ext,⟨Nat.le_trans hΔ (Nat.le_add_right _ _),fun k hk=> ?_⟩,fun D hD=>h.kp D (by rw[← hk0];exact hD)⟩
 ·obtain⟨k,B,g1,g2,rfl⟩:=hget hj;rw[SB.Dn,← g2,hρ] at ha;obtain⟨o,ho,hbo⟩:=h.jK k B a g1 ha;exact⟨o,ho,bw.aE (by rw[hfun];exact hbo)⟩
 ·obtain⟨k,B,g1,g2,rfl⟩:=hget hj;obtain⟨k',B',g1',g2',rfl⟩:=hget hj';rw[SB.Dn,← g2,hρ] at ha;rw[SB.Dn,← g2',hρ] at ha';rw[SB.Xy,SB.Xy] at hr;have:=h.j9 k k' B B' a g1 ha g1' ha' hr;subst this;rw[← g2,← g2']
 ·obtain⟨k,B,g1,g2,rfl⟩:=hget hj;have:=h.lt k B g1;rw[← g2];unfold kY;split
  ·rename_i hb;have hk:k<N:=by simpa [Nat.blt_eq] using hb
   omega
  ·omega
 ·obtain⟨k,B,g1,g2,rfl⟩:=hget hj;rw[SB.Dn,← g2,hρ] at ha;rw[SB.Xy] at hr;rw[hm0,hw0];exact h.lE k B a g1 ha hr
 ·unfold mH;rw[if_pos (Nat.lt_of_lt_of_le hk hΔ)];exact hE0 k hk
theorem aeQ {c:q8}{cal:sr}{Γ:aQ}{KP:PK}{run:PT}(hΓ:Γ.wB<=c.N)(hcal: ∀ E E':Nat->Nat,(∀ k,k<c.N->E' k=E k)->cal.sem E'=cal.sem E)(hrun:qO P Γ Al cal run)
  (h: ∀ x,c.pre x->c.ok x=true->aq (run (c.args x) (c.mem x) c.H (c.fit x))):qO P Γ KP cal (o7 c):=by
 intro Δ hle args m nx K hh hwf hargs E w hs;obtain⟨x,hpre,hh⟩:=hh;have hpre:c.pre x:=hpre
 have hh:VC.holds (match Nat.ble c.N nx,c.ok x with
  | true,true=>jG c.N (c.args x) args [] fun aE=>fY c.N m (c.mem x) [] aE fun _=>c.Bd x nx K
  | _,_=>.fail "call: keys"):=hh
 split at hh
 ·rename_i hN hok;have hN:c.N<=nx:=Nat.le_of_ble_eq_true hN;have hrh:=(h x hpre hok).out;simp only[q8.ok,Bool.and_eq_true] at hok;obtain⟨ok1,ok2,ok4,ok5⟩:=hok;have ok1:c.N<=c.H:=Nat.le_of_ble_eq_true ok1;obtain⟨ren1,_,h1,hv1⟩:=qf hh;obtain⟨aE,hl2,hK,h34⟩:=fC h1;obtain⟨h3,h4⟩:=h34 aE (Ren.le_refl _);let Θ:aQ:={Δ with wB:=Γ.wB}
  have hleΘ:Γ.le Θ:=⟨hle.w,hle.m,Nat.le_refl _,hle.e,hle.keep⟩
  have hsΘ:aG Θ E m nx w:=⟨hs.jK,hs.j9,hs.lt,hs.lE,hs.ext,⟨Nat.le_trans hle.nx hs.cx.1,fun k hk=>hs.cx.2 k (Nat.lt_of_lt_of_le hk hle.nx)⟩,hs.kp⟩
  have hsat:=hsΘ.aiJ (n:=c.N) (N:=c.H) hΓ ok1 h3 h4 (fun kh B' hg=>EF ok2 hg);have hlow: ∀ k,k<c.N->Ren.E c.N aE E k=E k:=fun k hk=>Ren.BV hk;have hcall:=hrun Θ hleΘ _ _ _ _ hrh ok4 ok5 _ _ hsat;rw[hcal E _ hlow,hv1 aE E hl2] at hcall;refine Out.mono hcall (fun r w' hr=> ?_) (fun ch w' hp=> ?_)
  ·obtain⟨E2,sv,m2,nx2,q1,_,q3,q4,q5⟩:=hr;cases sv with
   | none=>exact q5.elim
   | some v =>
     have q5:(c.fit x v m2 nx2).holds:=q5;obtain⟨y,hy,q5⟩:=q5;have hKy:=hK y hy;obtain⟨ren2,_,g1,gv⟩:=i4 q5;split at hKy
     rotate_left
     ·exact hKy.elim
     rename_i ok3;obtain⟨ren3,gl2,_,g34⟩:=fC g1;obtain⟨g3,g4⟩:=g34 ren3 (Ren.le_refl _);have hs3:=q4.aiJ (n:=c.N) (N:=c.H) hΓ ok1 g3 g4 (fun kh B' hg=>EF ok3 hg);have hlow3: ∀ k,k<c.N->Ren.E c.N ren3 E2 k=E k:=fun k hk=>(Ren.BV hk).trans ((q1 k (Nat.lt_of_lt_of_le hk ok1)).trans (hlow k hk));obtain⟨hρ,hfin⟩:=hs3.aqV (Δ:=Δ) (E:=E) (N:=c.N) (nx:=nx) rfl rfl rfl hs.cx.1 hs.cx.2 hN hlow3;refine⟨_,some ((c.val x).Xx (kY c.N nx)),_,_,fun k hk=> ?_,Nat.le_add_right _ _,fun u hu=> ?_,hfin,hKy⟩
     ·unfold mH;rw[if_pos hk]
     ·injection hu with hu;subst hu;rw[SV.KJ,show(fun k=>mH nx E (Ren.E c.N ren3 E2) (kY c.N nx k))=Ren.E c.N ren3 E2 from funext hρ,q3 v rfl]
      have:=gv ren3 E2 gl2;simp only[SV.vals,List.cons.injEq,and_true] at this;exact this.symm
  ·obtain⟨_,_,_,_,_,_,_,_,_,hno⟩:=hp;exact hno.elim
 ·exact hh.elim
def recC (f:FuncId)(pt:PT):de:=⟨fun env KP c=>match c with
 | .yield k=>(match env.find k with
   | some pt=>pt
   | none=>fun _ _ _ _=>.fail "a yield that is not known")
 | .panic=>raise KP
 | .fn g=>(match Nat.beq g f with
   | true=>pt
   | false=>fun _ _ _ _=>.fail "another function"),fun _=>false⟩
theorem alg {f:FuncId}{pt:PT}{Γ:aQ}(hm:aJ pt)(h: ∀ KP,qO P Γ KP (.fn f) pt):yY P (recC f pt) Γ.le:=by
 refine⟨fun env he KP c=> ?_,fun env he KP KP' hK c args m nx K h=> ?_,fun {Γ' Δ} h h'=>aQ.le_trans h h',fun Δ hle env hem he KP c=> ?_,fun g hg=>by cases hg⟩
 ·cases c with
  | yield k =>
    show aJ (match env.find k with
     | some pt=>pt
     | none=>fun _ _ _ _=>.fail "a yield that is not known")
    split
    ·rename_i pt hp;exact he _ (Env.Ci hp)
    ·exact fun args m nx K K' _ h=>h.elim
  | panic=>exact fun args m nx K K' _ h=>h
  | fn g =>
    show aJ (match Nat.beq g f with
     | true=>pt
     | false=>fun _ _ _ _=>.fail "another function")
    split
    ·exact hm
    ·exact fun args m nx K K' _ h=>h.elim
 ·cases c with
  | yield k=>exact h
  | panic =>
    show(raise KP' args m nx K).holds;have h:(raise KP args m nx K).holds:=h;unfold raise at h ⊢;split at h
    ·split at h
     ·exact hK _ _ _ h
     ·exact h
    ·exact h
  | fn g=>exact h
 ·cases c with
  | yield k =>
    show qO P Δ KP (.yield k) (match env.find k with
     | some pt=>pt
     | none=>fun _ _ _ _=>.fail "a yield that is not known")
    split
    ·rename_i pt hp;exact he _ (Env.Ci hp) KP
    ·exact fun Δ _ args m nx K h=>h.elim
  | panic=>exact Kz
  | fn g =>
    show qO P Δ KP (.fn g) (match Nat.beq g f with
     | true=>pt
     | false=>fun _ _ _ _=>.fail "another function")
    split
    ·rename_i hg;obtain rfl:=Nat.eq_of_beq_eq_true hg;exact(h KP).mono hle
    ·exact fun Δ _ args m nx K h=>h.elim
theorem ah5 (hmix:P.follows .mixedOrders=true){f:FuncId}{fn:Func}(hf:P.funcs[f]?=some fn) (hname:(fn.name== "runtime.NumGoroutine")=false) {kl N:Nat} {cy:q8} {ct:Nat->q8} {Γ:aQ} (hΓ:Γ.wB<=N)
  (hy: ∀ KP,qO P Γ KP (.yield kl) (o7 cy)) (hN: ∀ d,(ct d).N=N) (h0: ∀ x,¬ (ct 0).pre x) {n:Nat}
  (h: ∀ d x,(ct (d+1)).pre x->(ct (d+1)).ok x=true->∃ aR,aq (gR P (recC f (o7 (ct d))) [(kl,o7 cy)] Al aR n fn ((ct (d+1)).args x) ((ct (d+1)).mem x) (ct (d+1)).H ((ct (d+1)).fit x))) :
  ∀ d KP,qO P Γ KP (.fn f) (o7 (ct d))
 | 0,KP=>fun Δ _ args m nx K hh=>by obtain⟨x,hpre,_⟩:=hh;exact(h0 x hpre).elim
 | d+1,KP=>by
   have ih:=ah5 hmix hf hname hΓ hy hN h0 h d;intro Δ hle args m nx K hh;obtain⟨x,hpre,hh⟩:=hh;have hh':=hh;have hpre':(ct (d+1)).pre x:=hpre;by_cases hok:(ct (d+1)).ok x=true
   ·obtain⟨A,hA⟩:=h d x hpre' hok;let c1:q8:={ct (d+1)with pre:=fun y=>y=x}
    have hfix:qO P Γ KP (.fn f) (o7 c1):=aeQ (c:=c1) (run:=gR P (recC f (o7 (ct d))) [(kl,o7 cy)] Al A n fn) (by rw[show c1.N=(ct (d+1)).N from rfl,hN];exact hΓ) (fun _ _ _=>rfl)
     (KW hmix (alg (A9 _) ih) (fun p hp=>by rcases List.mem_cons.1 hp with e | hp;subst e;exact A9 _;cases hp) (aQ.le_refl _) (fun p hp KP=>by rcases List.mem_cons.1 hp with e | hp;subst e;exact hy KP;cases hp) hf hname)
     (fun y hy _=>by have hy:y=x:=hy;rw[hy];exact hA)
    exact hfix Δ hle args m nx K ⟨x,rfl,hh'⟩
   ·exfalso;have hok:(ct (d+1)).ok x=false:=by simpa using hok
    have hh:VC.holds (match Nat.ble (ct (d+1)).N nx,(ct (d+1)).ok x with
     | true,true=>_
     | _,_=>.fail "call: keys"):=hh
    rw[hok] at hh;cases hb:Nat.ble (ct (d+1)).N nx<;>(rw[hb] at hh;exact hh)
def YQ (N:Nat)(cy ct:q8):Env->PT:=fun env args m nx K=>match env,Nat.beq nx N with
 | (_,Y)::_,true=>.and (.all cy.G fun x=>.imp (cy.pre x) (match cy.ok x with
   | true=>Y (cy.args x) (cy.mem x) cy.H (cy.fit x)
   | false=>.tt)) (o7 ct args m nx K)
 | _,_=>.fail "a range: keys"
theorem Wp (N:Nat)(cy ct:q8)(env:Env):aJ (YQ N cy ct env):=by
 intro args m nx K K' hK h;unfold YQ at h ⊢;split at h
 ·exact⟨h.1,A9 ct _ _ _ _ _ hK h.2⟩
 ·exact h.elim
def Sl (kl N:Nat)(cy ct:Loop->q8):Env->PT:=fun env args m nx K=>match env,m.get kl with
 | (k,_)::_,some (.loop .ready none R)=>(match Nat.beq k kl with
   | true=>YQ N (cy R) (ct R) env args m nx K
   | false=>.fail "a range: another key")
 | _,_=>.fail "a range: no yield"
theorem afl (hmix:P.follows .mixedOrders=true){f:FuncId}{fn:Func}(hf:P.funcs[f]?=some fn) (hname:(fn.name== "runtime.NumGoroutine")=false) {kl N D n:Nat} {cy:Loop->q8} {ct:Loop->Nat->q8} (hkl:kl<N) (hcy: ∀ R,(cy R).N=N)
  (hN: ∀ R d,(ct R d).N=N) (h0: ∀ R x,¬ (ct R 0).pre x)
  (h: ∀ R d x,(ct R (d+1)).pre x->(ct R (d+1)).ok x=true->∃ aR,aq (gR P (recC f (o7 (ct R d))) [(kl,o7 (cy R))] Al aR n fn ((ct R (d+1)).args x) ((ct R (d+1)).mem x) (ct R (d+1)).H ((ct R (d+1)).fit x))) :
  ON P f (Sl kl N cy (fun R=>ct R D)):=by
 refine⟨fun env he args m nx K K' hK hh=> ?_,fun Γ env hem he KP Δ hle args m nx K hh hwf hargs E w hs=> ?_⟩
 ·unfold Sl at hh ⊢;split at hh
  ·split at hh
   ·exact Wp _ _ _ _ _ _ _ _ _ hK hh
   ·exact hh.elim
  ·exact hh.elim
 ·unfold Sl at hh;split at hh
  ·rename_i k Y r R _;split at hh
   ·rename_i hk;obtain rfl:=Nat.eq_of_beq_eq_true hk;unfold YQ at hh;split at hh
    ·rename_i k' Y' r' heq hnx;injection heq with e1 e2;injection e1 with e3 e4;subst e4;have hnx:nx=N:=Nat.eq_of_beq_eq_true hnx;have hΔ:Δ.wB<=N:=hnx▸ hs.cx.1;have hY: ∀ KP,qO P Δ KP (.yield k) Y:=fun KP=>(he (k,Y) (List.mem_cons_self ..) KP).mono hle;have hy: ∀ KP,qO P Δ KP (.yield k) (o7 (cy R)):=fun KP=>aeQ (by rw[hcy R];exact hΔ) (fun E E' hE=>funext fun args=>by
      show Instr.yield (E' k) args=Instr.yield (E k) args;rw[hE k (by rw[hcy R];exact hkl)]) (hY Al) (fun x hx hok=>⟨by
      have:=hh.1 x hx;rw[hok] at this;exact this⟩)
     exact ah5 hmix hf hname hΔ hy (hN R) (h0 R) (h R) D KP Δ Δ.le_refl args m nx K hh.2 hwf hargs E w hs
    ·exact hh.elim
   ·exact hh.elim
  ·exact hh.elim
end
end
end Go.Proofs.YtpaaiebohjjieaaGreatDoor.Sx
namespace Go.Proofs.YtpaaiebohjjieaaGreatDoor
open Go Sx
set_option maxRecDepth 20000
def dc (l:List (List UInt8)):List (List UInt8):=l.foldl (fun u x=>if x∈ u then u else u++[x]) []
theorem zO (l:List (List UInt8))(x:List UInt8):dc (l++[x])=if x∈ dc l then dc l else dc l++[x]:=by unfold dc;rw[List.foldl_append];rfl
theorem uX: ∀(n:Nat) (l:List (List UInt8)),l.length=n->∀ s,s∈ dc l↔s∈ l
 | 0,l,h,s=>by rw[List.length_eq_zero_iff.1 h];exact Iff.rfl
 | n+1,l,h,s=>by
   obtain⟨k,x,rfl⟩: ∃ k x,l=k++[x]:=⟨l.dropLast,l.getLast (by intro e;rw[e] at h;cases h),(List.dropLast_concat_getLast _).symm⟩
   have ih:=uX n k (by rw[List.length_append] at h;simpa using h);rw[zO];by_cases hx:x∈ dc k
   ·rw[if_pos hx,ih s,List.mem_append,List.mem_singleton];exact⟨.inl,fun h=>h.elim id fun e=>e▸ (ih x).1 hx⟩
   ·rw[if_neg hx,List.mem_append,List.mem_append,ih s]
theorem DJ: ∀(n:Nat) (l:List (List UInt8)),l.length=n->(dc l).length<=n
 | 0,l,h=>by rw[List.length_eq_zero_iff.1 h];exact Nat.le_refl _
 | n+1,l,h=>by
   obtain⟨k,x,rfl⟩: ∃ k x,l=k++[x]:=⟨l.dropLast,l.getLast (by intro e;rw[e] at h;cases h),(List.dropLast_concat_getLast _).symm⟩
   have ih:=DJ n k (by rw[List.length_append] at h;simpa using h);rw[zO];split
   ·omega
   ·rw[List.length_append];simpa using ih
def lD (l:List (List UInt8))(s:List UInt8):Int:=(l.count s:Int)
def p9 (l:List (List UInt8))(s:List UInt8):Bool:=decide (s∈ l)
noncomputable def WH:List (FuncId×PT):=(56,bE shE D5)::(58,bE shE KS)::(57,vk 13)::qc
theorem MV:aU Tryz.prog (fun f=>aA f WH):=.cons aen (bJ _ _) (.cons aih (bJ _ _) (.cons (Ma 13) (B7 13) iL))
def aot (l:List (List UInt8)):b7:=.all Nat fun c=>.req (l.length<=c) (.new (fun k=>.bL [.bI k 1 true 0 l.length c,.int .i64 true 0]) (.rows true l.length [.str fun i=>l.getD i []] false (c*1) 9))
def Qu (n:Nat)(f g:Nat->List UInt8):b7:=.fork (decide (fR n f g=0)) fun b=>match b with
 | true=>aot (dc (j5 13 (cm n (fun i=>ay (f i)) g)))
 | false=>.fork (decide (fR n f g=1)) fun b=>match b with
   | true=>.ret (.bL [.aO,.int .i64 true 1])
   | false=>.ret (.bL [.aO,.int .i64 true 12])
def Si (R:Loop)(P:Pd)(key:Nat)(L:List (List UInt8))(c:Nat):Mem:=[(1,.cells [.bI key 1 true 0 (dc L).length c] 1 28),(key,.rows true (dc L).length [.str fun i=>(dc L).getD i []] false (c*1) 9),(2,.fmap (p9 L) (.int .i64 (lD L)) none),
 (3,.cells [.map 2] 1 161),(9,.loop .ready none R),(6,P.parts 7),(7,P.lists 6)]
structure NoS where
 L:List (List UInt8)
 c:Nat
 P:Pd
 s:List UInt8
def cyN (R:Loop):q8 :=
 {G:=NoS,N:=10,H:=11,pre:=fun x=>x.L.length<=100000/\(dc x.L).length<=x.c,args:=fun x=>[.str false x.s],mem:=fun x=>Si R x.P 10 x.L x.c,val:=fun _=>.bool true true,B:=Nat,
  post:=fun x c=>(dc (x.L++[x.s])).length<=c,back:=fun x c=>Si R x.P 10 (x.L++[x.s]) c}
structure TeS where
 L:List (List UInt8)
 c:Nat
 P:Pd
 a:Nat
 T:List (List UInt8)
def ctN (R:Loop)(d:Nat):q8 :=
 {G:=TeS,N:=10,H:=11,pre:=fun x=>Told x.P d x.a x.T/\(x.L++x.T).length<=100000/\(dc x.L).length<=x.c,args:=fun x=>[.iq 6 x.a 0,.yield 9],mem:=fun x=>Si R x.P 10 x.L x.c,val:=fun _=>.bool true true,B:=Nat,
  post:=fun x c=>(dc (x.L++x.T)).length<=c,back:=fun x c=>Si R x.P 10 (x.L++x.T) c}
def alk (st:Sx.St):List Nat:=match st.m.get 1 with
 | some (.cells [.bI k _ _ _ _ _] _ _)=>[k]
 | _=>[]
def qK (x:TeS)(Ks:List (List (List UInt8)))(i:Nat):List (List UInt8):=x.L++x.P.vb x.a::(Ks.take i).flatten
noncomputable def ajR (R:Loop)(x:TeS)(Ks:List (List (List UInt8))):bp :={α:=Nat×Nat,pre:=fun _ y=>y.1<=Ks.length/\(dc (qK x Ks y.1)).length<=y.2,sM:=fun _ y=>Ks.length - y.1,fresh:=1,slots:=fun _ y=>[(19,.int .i64 false y.1)],mem:=fun st y=>Si R x.P st.nx (qK x Ks y.1) y.2,drop:=alk}
noncomputable def amO (R:Loop)(d:Nat)(x:TeS)(Ks:List (List (List UInt8))):VC :=gR Tryz.prog (recC 145 (o7 (ctN R d))) [(9,o7 (cyN R))] Al [(4,always (ajR R x Ks))] 100 Tryz.f145 ((ctN R (d+1)).args x) ((ctN R (d+1)).mem x) 11 ((ctN R (d+1)).fit x)
noncomputable def Yt:gF:={cF with cM:=fun f=>aA f WH,iter:=fun f=>if f=145 then some (Sl 9 10 cyN (fun R=>ctN R 14))else none}
section
variable (n m : Nat) (f : Nat × Nat) (o : Nat -> List UInt8) (g : Bool) (x : TeS) (y : NoS) (z : List (List (List UInt8))) (h : List (List UInt8))
abbrev pI:=ak (Er g) (Er n) (cI m m)
abbrev CT:=y.L++[y.s]
abbrev Aq:=x.L++x.T
abbrev k9:=List.length (dc h)
abbrev qh:=k9 y.L
abbrev TK:=cq (k9 x.L) x.c 1 9 (bD (fun a=>c9 a (dc x.L)))
abbrev Zs:=dflt (p9 y.L y.s) (lD y.L y.s)+1
abbrev JZ:=∀(a:Nat),a<n->dS (o a)
abbrev TR:=iX (p9 x.L) (lD x.L)
abbrev J1:List SV:=[bx 12]
abbrev TY:=cR 1 (SV.map 2) List.nil 161
abbrev T9:=cq (k9 (CT y)) n 1 9 (bD (fun a=>c9 a (dc (CT y))))
abbrev Ua:=cq (k9 (Aq x)) n 1 9 (bD (fun a=>c9 a (dc (Aq x))))
abbrev aho:=af (iX (n6 (p9 y.L) y.s) (w5 (lD y.L) y.s (Zs y))) (iX (p9 (CT y)) (lD (CT y)))
abbrev Gi:=k9 (CT y)
abbrev Gj:=k9 (Aq x)
abbrev Z5:=bT (List.length y.L) 100000 (qh y<=y.c)
abbrev Z7:=bT (List.length (Aq x)) 100000 (k9 x.L<=x.c)
abbrev TI:=cq (k9 (qK x z f.1)) f.2 1 9 (bD (fun a=>c9 a (dc (qK x z f.1))))
abbrev TM:=iX (p9 (qK x z f.1)) (lD (qK x z f.1))
abbrev agX:=lU 2 false (cU x.P.vb (cB (qt 7 1 x.P.fb x.P.nb x.P.cb))) x.P.D
abbrev agZ:=rX x.P.n2 x.P.D2 [wR 6 x.P]
abbrev amI:=Dh (qx 0 (jW 0 (uI Pl.k Pl.k NB)))
abbrev Z6:=eY f.1 (List.length z) (k9 (qK x z f.1)) f
end
theorem apj (R:Loop)(d:Nat)(x:TeS)(Ks:List (List (List UInt8))):gS (jW 1 (qx 0 (jW 0 (Dh (jW 1 (Dh (AL 0 0 amI (Pl.n (jW 2 (qx 1 (jW 0 (Dh (jW 1 (Dh (Pl.s 1 amI))))))) (qx 2 Un))))))))) (amO R d x Ks) (dZ (x.P.D x.a)/\(∃(a:NoS),gQ (Z5 a) (x.P.vb x.a=a.s) (k9 x.L=qh a) (x.c=a.c) (aI (af (TK x) (cq (qh a) a.c 1 9 (bD (fun b=>c9 b (dc a.L))))) (af (TR x) (iX (p9 a.L) (lD a.L))) (uK 7 (agX x) a.P) (qp 6 (agZ x) a.P) (∀(b:Nat),aX (Gi a) b (ak (dZ (a.P.D x.a)) (∃(c:Nat×Nat),gQ (Z6 c x Ks) (0=fJ c) (Gi a=k9 (qK x Ks c.1)) (b=c.2) (aI (af (T9 b a) (TI c x Ks)) (af (iX (p9 (CT a)) (lD (CT a))) (TM c x Ks)) (bH 1 TY [SV.map (kY 10 11 2)] 161) (uK 7 (lU 2 false (cU a.P.vb (cB (qt (kY 10 11 7) 1 a.P.fb a.P.nb a.P.cb))) a.P.D) x.P) (qp 6 (rX a.P.n2 a.P.D2 [wR (kY 10 11 6) a.P]) x.P))) (∀(b:Nat×Nat),Z6 b x Ks->fA (a.P.nb x.a) (ak (fo (a.P.nb x.a) (fJ b)) (dZ (x.P.D2 (a.P.fb x.a))/\fk b<x.P.n2 (a.P.fb x.a)) (∃(c:TeS),gQ (Told c.P d c.a c.T/\Z7 c) (x.P.g (a.P.fb x.a) (fk b)=c.a) (k9 (qK x Ks b.1)=k9 c.L) (b.2=c.c) (aI (af (TI b x Ks) (TK c)) (af (TM b x Ks) (TR c)) (uK 7 (agX x) c.P) (qp 6 (agZ x) c.P) (∀(a:Nat),aX (Gj c) a (dG (∃(d:Nat×Nat),gQ (cg (List.length Ks) d.1 (List.length Ks) b.1 (Z6 d x Ks)) (mP b d) (Gj c=k9 (qK x Ks d.1)) (a=d.2) (aI (af (Ua a c) (TI d x Ks)) (af (iX (p9 (Aq c)) (lD (Aq c))) (TM d x Ks)) (bH 1 TY [SV.map (kY 10 (aP (11+11)) 2)] 161) (uK 7 (lU 2 false (cU c.P.vb (cB (qt (kY 10 (aP (11+11)) 7) 1 c.P.fb c.P.nb c.P.cb))) c.P.D) x.P) (qp 6 (rX c.P.n2 c.P.D2 [wR (kY 10 (aP (11+11)) 6) c.P]) x.P))) (mQ b)))))) (∃(a:Nat),cZ (Gj x<=a) (k9 (qK x Ks b.1)=Gj x/\b.2=a) (af (TM b x Ks) (iX (p9 (Aq x)) (lD (Aq x)))) (TI b x Ks) (Ua a x)) (fJ b))))))):=⟨by kernel_rfl,by kernel_rfl⟩
theorem alQ (n:Nat)(f g:Nat->List UInt8)(z:Bool)(o c:Nat)(key:Option Nat):gS (qx 3 (jW 0 (Pl.n (k7 1 (qx 4 Un) (qx 2 Un)) (jW 0 (jW 1 (jW 0 (Dh NB))))))) (i7 Yt 33 Tryz.f33 [.cC 0 2 z o 0 n c] [jP z o c n f g key] (Qu n f g)) ((fun(a:TeS->Nat->SV)=>cH (c6 (pI o n z)/\cr n) (gA (∃(a:Nat),bT (k9 (j5 13 (x8 n f g))) a False) (ah (qw (rM n f g)) (qw (bx 1))) (ah (qw (rM n f g)) (cY SV.aO J1)) (fR n f g) 0 (fR n f g) 1) (ak (c6 (pI o n z)) (lq n) (JZ n f)/\(∀(b:Nat),aX (AK n f g) b (∃(c:List Rw×Nat),cZ (ak (dI 13 c.1) (lq (oI c)) (13<=13)) (AK n f g=oI c/\b=c.2) (∀(b:Nat×Pd),Told b.2 14 b.1 (j5 13 c.1)->(∀(_:Loop),(∀(a:NoS),Z5 a->dG (cS (fW (cI (qh a) (qh a)) (jd (2*aP (qh a)*16)) (cr (aP (qh a)))/\(∀(b:Nat),aX (aP (qh a)) b (∃(c:Nat),cZ (Gi a<=c) (aP (qh a)=Gi a/\b=c) (aho a) (cq (aP (qh a)) b 1 9 (bD (fun b=>iT b (qh a) (c9 b (dc a.L)) (iW (b - qh a) a.s)))) (T9 c a)))) (∃(b:Nat),cZ (Gi a<=b) (qh a=Gi a/\a.c=b) (aho a) (cq (qh a) a.c 1 9 (bD (fun b=>c9 b (dc a.L)))) (T9 b a)) (dflt (n6 (p9 a.L) a.s a.s) (w5 (lD a.L) a.s (Zs a) a.s)) 1) (Zs a))/\(∃(c:TeS),bl (Told c.P 14 c.a c.T/\Z7 c) (b.1=c.a) (k9 c.L=0) (oh (TK c)) (af (SB.map List.nil 0) (TR c)) (bH 1 TY [SV.map (aP 1)] 161) (uK 7 (lU 2 false (cU b.2.vb (cB (qt 7 1 b.2.fb b.2.nb b.2.cb))) b.2.D) c.P) (qp 6 (rX b.2.n2 b.2.D2 [wR 6 b.2]) c.P) (∀(b:Nat),aX (Gj c) b (gA (∃(d:Nat),gK (k9 (j5 13 (x8 n f g))) d (af (Ua b c) (cq (k9 (j5 13 (x8 n f g))) d 1 9 (bD (fun a=>c9 a (dc (j5 13 (x8 n f g))))))) (ah (a c b) (fV (fX (kY 10 (pS (pS Kx+3)) 10) 1 (k9 (j5 13 (x8 n f g))) d)))) (ah (a c b) (qw (bx 1))) (ah (a c b) (cY SV.aO J1)) (fR n f g) 0 (fR n f g) 1))))) (NX n b f g) (Gk c)))) (eX (fR n f g) 0)) (fun a=>fun b=>fV (fX (kY 10 (pS (pS Kx+3)) 10) 1 (Gj a) b))):=⟨by kernel_rfl,by kernel_rfl⟩
theorem Fm {u u':List (List UInt8)}{c c':Nat}{ty:TypeId}(h:u=u')(hc:c=c'):af (.rows true u.length [.str fun i=>u.getD i []] false (c*1) ty) (.rows true u'.length [.str fun i=>u'.getD i []] false (c'*1) ty):=by subst h;subst hc;exact af.refl _
theorem Vi {L L':List (List UInt8)}(h:L=L'):af (.fmap (p9 L) (.int .i64 (lD L)) none) (.fmap (p9 L') (.int .i64 (lD L')) none):=by subst h;exact af.refl _
theorem af3 (x:TeS)(Ks:List (List (List UInt8)))(i:Nat)(hi:i<Ks.length):qK x Ks (i+1)=qK x Ks i++Ks[i]:=by unfold qK;rw[List.take_add_one,List.getElem?_eq_getElem hi,List.flatten_append];simp
theorem akE (x:TeS)(Ks:List (List (List UInt8)))(hT:x.T=x.P.vb x.a::Ks.flatten)(i:Nat)(hi:Ks.length<=i):qK x Ks i=x.L++x.T:=by unfold qK;rw[List.take_of_length_le hi,hT]
theorem akF (x:TeS)(Ks:List (List (List UInt8)))(hT:x.T=x.P.vb x.a::Ks.flatten)(i:Nat):(qK x Ks i).length<=(x.L++x.T).length:=by
 have h:Ks.flatten=(Ks.take i).flatten++(Ks.drop i).flatten:=by rw[← List.flatten_append,List.take_append_drop]
 unfold qK;rw[hT,h];simp only[List.length_append,List.length_cons];omega
theorem XT (R:Loop)(d:Nat)(x:TeS)(hx:(ctN R (d+1)).pre x): ∃ aR,aq (gR Tryz.prog (recC 145 (o7 (ctN R d))) [(9,o7 (cyN R))] Al aR 100 Tryz.f145 ((ctN R (d+1)).args x) ((ctN R (d+1)).mem x) (ctN R (d+1)).H ((ctN R (d+1)).fit x)):=by
 obtain⟨⟨hD,Ks,hnb,hD2,hT,hK⟩,hlen,hc⟩:=hx;have key:aq (amO R d x Ks):=by
  refine aq.Qz (apj R d x Ks) (by delta Fk I6 Ix NI bf aX ak cR aI aL bH dG gQ fo aP eC cU bD bT dZ cq fJ mP mQ cB cg eY cZ fA c9 nC iX fk lU qt qp rX wR uK CT Aq k9 qh TK TR TY T9 Ua Gi Gj Z5 Z7 TI TM agX agZ Z6;exact rfl) ?_;have hlen:(x.L++x.T).length<=100000:=hlen;have hL:x.L.length<=100000:=by rw[List.length_append] at hlen;omega
  refine⟨hD,⟨x.L,x.c,x.P,x.P.vb x.a⟩,⟨hL,hc⟩,rfl,⟨rfl,rfl⟩,af.refl _,af.refl _,af.refl _,af.refl _,fun y hy=>⟨hD,⟨(0,y),⟨Nat.zero_le _,hy⟩,rfl,⟨rfl,rfl⟩,af.refl _,af.refl _,af.refl _,af.refl _,af.refl _⟩,fun z hz=>⟨fun h=> ?_,fun h=> ?_⟩⟩⟩
  ·obtain⟨i,c⟩:=z;obtain⟨hz1,hz2⟩:=hz;have hi:i<Ks.length:=by have:(i:Int)<(x.P.nb x.a:Int):=of_decide_eq_true h;omega
   have hpos:0<Ks.length:=by omega
   have hd:=hD2 hpos;have ek:(0:Nat)+((i:Nat):Int).toNat=i:=by omega
   have em:=af3 x Ks i hi;have hml:=akF x Ks hT (i+1);rw[em] at hml;refine⟨⟨by omega,by show(i:Int)<(x.P.nb x.a:Int);omega⟩,⟨hd.1,by rw[ek];exact Nat.lt_of_lt_of_le hi hd.2⟩,⟨qK x Ks i,c,x.P,x.P.g (x.P.fb x.a) i,Ks[i]⟩,⟨hK i _ (List.getElem?_eq_getElem hi),by show(qK x Ks i++Ks[i]).length<=_;omega,hz2⟩,by rw[ek],⟨rfl,rfl⟩,af.refl _,af.refl _,af.refl _,af.refl _,fun y hy=> ?_⟩;have hl:Ks.length<=100000:=by have:=Ll (P:=x.P) (d:=d) (n:=Ks.length) (f:=fun i=>x.P.g (x.P.fb x.a) i) (B:=Ks.flatten) ⟨Ks,rfl,rfl,hK⟩;rw[List.length_append,hT,List.length_cons] at hlen;omega
   have ec:dc (qK x Ks i++Ks[i])=dc (qK x Ks (i+1)):=congrArg dc em.symm;refine⟨⟨by omega,by omega⟩,(i+1,y),⟨⟨hi,?_⟩,by show _ - (i+1)<_ - i;omega⟩,by show(i:Int)+1=((i+1:Nat):Int);omega,⟨congrArg List.length ec,rfl⟩,Fm ec rfl,Vi em.symm,af.refl _,af.refl _,af.refl _⟩;show(dc (qK x Ks (i+1))).length<=y;rw[← ec];exact hy
  ·obtain⟨i,c⟩:=z;obtain⟨hz1,hz2⟩:=hz;have hi:Ks.length<=i:=by have: ¬ (i:Int)<(x.P.nb x.a:Int):=of_decide_eq_false h;omega
   have em:=akE x Ks hT i hi;have hz2:(dc (qK x Ks i)).length<=c:=hz2;exact⟨c,by rw[← em];exact hz2,⟨congrArg (fun l=>(dc l).length) em,rfl⟩,Fm (congrArg dc em) rfl,Vi em⟩
 exact⟨_,key⟩
theorem abu:ON Tryz.prog 145 (Sl 9 10 cyN (fun R=>ctN R 14)) :=afl (n:=100) bO (fn:=Tryz.f145) Tryz.func145 (by kernel_rfl) (by decide) (fun _=>rfl) (fun _ _=>rfl) (fun R x h=>h.1) fun R d x hx _=>XT R d x hx
theorem anR:Sx.Good Tryz.prog Yt:=.of bO MV bt fun f g h=>by
 simp only[Yt] at h;split at h
 ·rename_i e;injection h with h;subst e;subst h;exact abu
 ·cases h
theorem H9 (L:List (List UInt8))(s:List UInt8):dflt (p9 L s) (lD L s)=lD L s:=by
 unfold dflt p9 lD;by_cases h:s∈ L
 ·rw[decide_eq_true h];rfl
 ·rw[decide_eq_false h,List.count_eq_zero_of_not_mem h];rfl
theorem ae9 (L:List (List UInt8))(s t:List UInt8):n6 (p9 L) s t=p9 (L++[s]) t:=by unfold n6 p9;rw[Bool.eq_iff_iff,Bool.or_eq_true,decide_eq_true_eq,decide_eq_true_eq,decide_eq_true_eq,List.mem_append,List.mem_singleton]
theorem aew (L:List (List UInt8))(s t:List UInt8):w5 (lD L) s (lD L s+1) t=lD (L++[s]) t:=by
 unfold w5 lD;rw[List.count_append,List.count_singleton];by_cases h:t=s
 ·subst h;simp
 ·rw[decide_eq_false h];have: ¬ s=t:=fun e=>h e.symm;simp[this]
theorem Yy (L:List (List UInt8))(s:List UInt8):af (.fmap (n6 (p9 L) s) (.int .i64 (w5 (lD L) s (dflt (p9 L s) (lD L s)+1))) none) (.fmap (p9 (L++[s])) (.int .i64 (lD (L++[s]))) none):=by rw[H9];exact af.fmap (ae9 L s) fun t=>congrArg (Value.int .i64) (aew L s t)
theorem Yz (L:List (List UInt8))(s:List UInt8):dflt (n6 (p9 L) s s) (w5 (lD L) s (dflt (p9 L s) (lD L s)+1) s)=1↔s∉ L:=by
 have h1:n6 (p9 L) s s=true:=by unfold n6;simp
 have h2:w5 (lD L) s (dflt (p9 L s) (lD L s)+1) s=lD L s+1:=by unfold w5;rw[H9];simp
 rw[h1,h2];show lD L s+1=1↔_;unfold lD;rw[← List.count_eq_zero];omega
theorem anj (L:List (List UInt8))(s:List UInt8):0<=lD L s/\lD L s<=(L.length:Int):=by unfold lD;have:=List.count_le_length (a:=s) (l:=L);omega
theorem alF {u:List (List UInt8)}{s:List UInt8}{u':List (List UInt8)}{c c':Nat}{ty:TypeId}(h:u'=u++[s])(hc:c=c'):af (.rows true (u.length+1) [.str fun j=>if j<u.length then u.getD j [] else lZ [s] (j - u.length)] false (c*1) ty) (.rows true u'.length [.str fun i=>u'.getD i []] false (c'*1) ty):=by
 subst h;subst hc;refine sZ (by simp) rfl rfl fun k c c' h1 h2 i hi E=> ?_
 match k,h1,h2 with
 | 0,h1,h2 =>
   injection h1 with h1;injection h2 with h2;subst h1;subst h2;simp only[aK.at,SV.val];rw[Dv u s [] i hi];by_cases h:i<u.length
   ·rw[if_pos h,if_pos h]
   ·rw[if_neg h,if_neg h];rfl
 | k+1,h1,_=>simp at h1
theorem abV (n:Nat)(f g:Nat->List UInt8):cm (n+1) f g=cm n f g++[(f n,g n)]:=by unfold cm;rw[List.range_succ,List.map_append];rfl
theorem Jh {n:Nat}{f g:Nat->List UInt8}{r:Rw}(h:r∈ cm n f g): ∃ i,i<n/\r=(f i,g i):=by unfold cm at h;obtain⟨i,hi,rfl⟩:=List.mem_map.1 h;exact⟨i,List.mem_range.1 hi,rfl⟩
theorem YF {f g:Nat->List UInt8}: ∀ {n:Nat},(∀ i,i<n->mE f g i=true)->∀ i,i+1<n->Op.bytesLess (f i) (f (n - 1))=true
 | 0,_,i,hi=>by omega
 | n+1,h,i,hi=>by
   have h1:Op.bytesLess (f (n - 1)) (f n)=true:=by
    have:=h n (Nat.lt_succ_self n);unfold mE at this;simp only[Bool.and_eq_true,Bool.or_eq_true,decide_eq_true_eq] at this;rcases this.2.2 with e | e
    ·omega
    ·exact e
   show Op.bytesLess (f i) (f n)=true;by_cases e:i+1=n
   ·rw[← e] at h1;rw[← e];exact h1
   ·exact Jb (YF (fun j hj=>h j (by omega)) i (by omega)) h1
theorem Mj {f g:Nat->List UInt8}: ∀ {n:Nat},(∀ i,i<n->mE f g i=true)->(cm n f g).Pairwise fun a b=>Op.bytesLess a.1 b.1=true
 | 0,_=>List.Pairwise.nil
 | n+1,h=>by rw[abV,List.pairwise_append];refine⟨Mj fun i hi=>h i (by omega),List.pairwise_singleton _ _,fun a ha b hb=> ?_⟩;obtain⟨i,hi,rfl⟩:=Jh ha;rw[List.mem_singleton] at hb;subst hb;exact YF h i (by omega)
theorem m9 {n:Nat}{f g:Nat->List UInt8}(h:fR n f g=0):OM (cm n f g)/\n<=40:=by
 unfold fR at h;cases he:RR n f g with
 | false=>rw[he] at h;exact absurd (show(1:Int)=0 from h) (by decide)
 | true =>
   rw[he,cond_true] at h;have hall: ∀ i,i<n->mE f g i=true:=fun i hi=>List.all_eq_true.1 he i (List.mem_range.2 hi);refine⟨⟨Mj hall,fun x hx=> ?_,fun x hx=> ?_⟩,?_⟩
   ·obtain⟨i,hi,rfl⟩:=Jh hx;have:=hall i hi;unfold mE En at this;simp only[Bool.and_eq_true,Bool.not_eq_true',decide_eq_true_eq,decide_eq_false_iff_not] at this;exact⟨this.1.1,by have:=this.1.2;show(f i).length<=6;omega⟩
   ·obtain⟨i,hi,rfl⟩:=Jh hx;have:=hall i hi;unfold mE zQ at this;simp only[Bool.and_eq_true,Bool.not_eq_true',decide_eq_true_eq,decide_eq_false_iff_not] at this;exact⟨List.length_pos_iff.2 this.2.1.1,by have:=this.2.1.2;show(g i).length<=80;omega⟩
   ·by_cases h40:(40:Int)<(n:Int)
    ·rw[if_pos h40] at h;exact absurd h (by decide)
    ·omega
theorem aa1 (n:Nat)(f g:Nat->List UInt8):fR n f g=0∨fR n f g=1∨fR n f g=12:=by
 unfold fR;cases RR n f g with
 | false=>exact .inr (.inl rfl)
 | true =>
   rw[cond_true];by_cases h:(40:Int)<(n:Int)
   ·rw[if_pos h];exact .inr (.inr rfl)
   ·rw[if_neg h];exact .inl rfl
theorem aeo {n:Nat}{f g:Nat->List UInt8}(h: ¬ fR n f g=0)(h1: ¬ fR n f g=1):fR n f g=12:=by
 rcases aa1 n f g with e | e | e
 ·exact absurd e h
 ·exact absurd e h1
 ·exact e
theorem HL {v:SV}{k:IntKind}{a b:Int}{l l':Bool}(h:a=b):ah (.bL [v,.int k l a]) (.bL [v,.int k l' b]):=by subst h;exact fun E=>rfl
theorem uh (n:Nat)(f g:Nat->List UInt8):cm n (fun i=>ay (f i)) g=rowsOf (cm n f g):=by unfold cm rowsOf;rw[List.map_map];rfl
theorem H8 {n:Nat}{f g:Nat->List UInt8}(h:fR n f g=0):dI 13 (cm n (fun i=>ay (f i)) g):=by rw[uh];exact D9 (m9 h).1
theorem OQ (m:Nat)(l:List Rw):(j5 m l).length<=m*l.length+1:=by have:=L9 m l;unfold j5;rw[List.length_cons];omega
theorem Th (n:Nat)(f g:Nat->List UInt8)(hn:n<9223372036854775808)(z:Bool)(o c:Nat)(key:Option Nat):aq (i7 Yt 33 Tryz.f33 [.cC 0 2 z o 0 n c] [jP z o c n f g key] (Qu n f g)):=by
 refine aq.Qz (alQ n f g z o c key) (by delta Fk Bk I6 Er aX aF bC bx ak k6 cR cY aI aL bH cS dG eX cr bn cQ fV aP pS eC cU bD fX jd iT bT dZ cq oh fW cI iW gK qw cB gB bl cZ dS cH gA c9 c6 iX x8 AK mY NX rM lU qt qp rX wR uK oI Gk lq Kx pI CT Aq k9 qh TK Zs JZ TR J1 TY T9 Ua aho Gi Gj Z5 Z7;exact rfl) ?_;simp only[Nat.zero_add,Nat.le_refl,true_and,and_true,Bool.not_eq_true',Bool.not_eq_false',decide_eq_true_eq,decide_eq_false_iff_not];refine⟨hn,fun h=>⟨fun h'=>absurd h' h,fun _=>⟨fun e=>HL e,fun e=>HL (aeo h e)⟩⟩,fun h=> ?_⟩;obtain⟨he,h40⟩:=m9 h;have hro:=H8 h;have hl:=iN n (fun i=>ay (f i)) g;refine⟨⟨by omega,fun i hi=> ?_⟩,fun c hc=>⟨(cm n (fun i=>ay (f i)) g,c),⟨hro,by rw[hl];omega⟩,⟨rfl,rfl⟩,?_,fun x hx R=>⟨fun y hy=> ?_,?_⟩⟩⟩
 ·have:=(he.key (f i,g i) (by unfold cm;exact List.mem_map.2 ⟨i,List.mem_range.2 hi,rfl⟩)).2;have:(f i).length<=6:=this;omega
 ·exact zH
 ·have hL:y.L.length<=100000:=hy.1;have hu:=DJ y.L.length y.L rfl;obtain⟨c1,c2⟩:=anj y.L y.s;have hd:=H9 y.L y.s;rw[hd];refine⟨⟨by omega,by omega⟩,fun h1=>⟨⟨by omega,by omega⟩,fun c hc=>⟨c,?_⟩⟩,fun h1=>⟨y.c,?_⟩⟩
  ·rw[← hd] at h1;have hn:y.s∉ dc y.L:=fun e=>(Yz y.L y.s).1 h1 ((uX _ _ rfl _).1 e);have e:dc (y.L++[y.s])=dc y.L++[y.s]:=by rw[zO,if_neg hn]
   have el:(dc (y.L++[y.s])).length=(dc y.L).length+1:=by rw[e,List.length_append];rfl
   refine⟨by omega,⟨el.symm,rfl⟩,alF e rfl,?_⟩;rw[← hd];exact Yy _ _
  ·rw[← hd] at h1;have hn:y.s∈ dc y.L:=(uX _ _ rfl _).2 (Decidable.byContradiction fun e=>h1 ((Yz y.L y.s).2 e));have e:dc (y.L++[y.s])=dc y.L:=by rw[zO,if_pos hn]
   refine⟨by rw[e];exact hy.2,⟨by rw[e],rfl⟩,Fm e.symm rfl,?_⟩;rw[← hd];exact Yy _ _
 ·have hal:=OQ 13 (cm n (fun i=>ay (f i)) g);have ha:([]++j5 13 (cm n (fun i=>ay (f i)) g):List (List UInt8)).length<=100000:=by rw[List.nil_append];omega
  refine⟨⟨[],0,x.2,x.1,j5 13 (cm n (fun i=>ay (f i)) g)⟩,⟨hx,ha,Nat.le_refl _⟩,rfl,rfl,rfl,af.aeW fun _=>rfl,af.refl _,af.refl _,af.refl _,fun y hy=>⟨fun _=>⟨y,hy,af.refl _,fun E=>rfl⟩,fun h'=>absurd h h'⟩⟩
def RO (z:Bool)(l:List Rw)(c:Nat):SB:=.rows z l.length [gN l,gO l] false (c*2) 38
def YE (l:List Rw):b7:=.all Nat fun c=>.req (l.length<=c) (.new (fun k=>.bI k 2 true 0 l.length c) (RO true l c))
def rj (fr to:List UInt8)(n:Nat)(f g:Nat->List UInt8)(i:Nat):List Rw:=cO fr to ((cm n f g).take i)
noncomputable def am5 (fr to:List UInt8)(n:Nat)(f g:Nat->List UInt8):bp :=
 {α:=Nat×Nat,pre:=fun _ x=>x.1<=n/\(rj fr to n f g x.1).length<=x.2,sM:=fun _ x=>n - x.1,fresh:=1,slots:=fun st x=>[(10,.int .i64 false x.1),(5,.bI st.nx 2 true 0 (rj fr to n f g x.1).length x.2)],
  mem:=fun st x=>[(st.nx,RO true (rj fr to n f g x.1) x.2)]}
noncomputable def adU (fr to:List UInt8)(n:Nat)(f g:Nat->List UInt8):gF:={cF with cM:=fun f=>aA f Qf,aR:=fun h=>if h=11 then [(3,always (am5 fr to n f g))] else []}
theorem anw (fr to:List UInt8)(n:Nat)(f g:Nat->List UInt8):Sx.Good Tryz.prog (adU fr to n f g):=.of bO EA bt
noncomputable def gC (n:Nat)(f g:Nat->List UInt8):List UInt8:=cT (ctext 13 (cm n (fun i=>ay (f i)) g))
noncomputable def aau (n:Nat)(f g:Nat->List UInt8):b7:=.fork (decide (fR n f g=0)) fun b=>match b with
 | true=>.ret (.bL [.str false (gC n f g),.int .i64 true 0])
 | false=>.fork (decide (fR n f g=1)) fun b=>match b with
   | true=>.ret (.bL [.str true [],.int .i64 true 1])
   | false=>.ret (.bL [.str true [],.int .i64 true 12])
noncomputable def aef:gF:={cF with cM:=fun f=>aA f WH}
theorem anX:Sx.Good Tryz.prog aef:=.of bO MV bt
section
variable (n : Nat) (s t : List UInt8) (x : Nat × Nat) (y z : Nat -> List UInt8) (f : Nat × Pd)
abbrev aag:=fV (ofG [List.nil])
abbrev aaj:=fV (ofG [C1 f])
abbrev kZ:=List.length (rj s t n y z x.1)
abbrev Uq:=eC (kZ n s t x y z) (x.2*2) 38 (mY (rj s t n y z x.1) (rj s t n y z x.1))
end
theorem ac0 (fr to:List UInt8)(n:Nat)(f g:Nat->List UInt8)(z:Bool)(o c:Nat)(key:Option Nat):gS (uI Un (AL 4 3 C9 (Pl.s 1 C9)) Pl.k) (i7 (adU fr to n f g) 11 Tryz.f11 [.cC 0 2 z o 0 n c,.agg [.str false fr,.str false to]] [jP z o c n f g key] (YE (cO fr to (cm n f g)))) ((∃(a:Nat×Nat),aL (eY a.1 n (kZ n fr to a f g) a) (0=fJ a) (kZ n fr to a f g=0) (oh (RO true (rj fr to n f g a.1) a.2)))/\(∀(a:Nat×Nat),eY a.1 n (kZ n fr to a f g) a->fA n (gp (fo n (fJ a)) (eJ o (fk a) n) (dS (f (fk a))) (dW (cR 2 (ax fr) [ax to] 40)) (pR fr/\pR to) (Bk (hasB fr to (ay (f (fk a)))) (fW (cI (kZ n fr to a f g) (kZ n fr to a f g)) (jd (2*aP (kZ n fr to a f g)*32)) (cr (aP (kZ n fr to a f g)))/\(∀(b:Nat),aX (aP (kZ n fr to a f g)) b (dG (∃(c:Nat×Nat),gQ (cg n c.1 n a.1 (eY c.1 n (kZ n fr to c f g) c)) (mP a c) (aP (kZ n fr to a f g)=kZ n fr to c f g) (b=c.2) (af (cq (aP (kZ n fr to a f g)) b 2 38 (cU (fun b=>iT b (kZ n fr to a f g) (mU b (rj fr to n f g a.1)).1 (iW (b - kZ n fr to a f g) (f (fk a)))) (bD (fun b=>iT b (kZ n fr to a f g) (mU b (rj fr to n f g a.1)).2 (iW (b - kZ n fr to a f g) (g (fk a))))))) (Uq n fr to c f g))) (mQ a)))) (dG (∃(b:Nat×Nat),gQ (cg n b.1 n a.1 (eY b.1 n (kZ n fr to b f g) b)) (mP a b) (kZ n fr to a f g=kZ n fr to b f g) (a.2=b.2) (af (Uq n fr to a f g) (Uq n fr to b f g))) (mQ a)))) (∃(b:Nat),gK (List.length (cO fr to (cm n f g))) b (af (Uq n fr to a f g) (cq (List.length (cO fr to (cm n f g))) b 2 38 (gN (cO fr to (cm n f g))::cB (gO (cO fr to (cm n f g)))))) (ah (fX (aP 1) 2 (kZ n fr to a f g) a.2) (fX (aP 1) 2 (List.length (cO fr to (cm n f g))) b))) (fJ a))):=⟨by kernel_rfl,by kernel_rfl⟩
theorem aph (n:Nat)(f g:Nat->List UInt8)(z:Bool)(o c:Nat)(key:Option Nat):gS (qx 3 Pl.k) (i7 aef 6 Tryz.f6 [.cC 0 2 z o 0 n c] [jP z o c n f g key] (aau n f g)) (cH (c6 (pI o n z)/\cr n) (bn (gA (ah (cQ cn (rM n f g) List.nil) (fV (ax (gC n f g)))) (ah (cQ cn (rM n f g) List.nil) qj) (ah (cQ cn (rM n f g) List.nil) (cY cn J1)) (fR n f g) 0 (fR n f g) 1) ((True/\Zb [List.nil])/\gA (ah aag (fV (ax (gC n f g)))) (ah aag qj) (ah aag (cY cn J1)) (fR n f g) 0 (fR n f g) 1) (eX (fR n f g) 0)) (ak (c6 (pI o n z)) (lq n) (JZ n f)/\(∀(a:Nat),aX (AK n f g) a (∃(b:List Rw×Nat),cZ (ak (dI 13 b.1) (lq (oI b)) (13<=13)) (AK n f g=oI b/\a=b.2) (∀(a:Nat×Pd),Told a.2 14 a.1 (j5 13 b.1)->ak (dZ (a.2.D a.1)) (True/\Zb [C1 a]) (gA (ah (aaj a) (fV (ax (gC n f g)))) (ah (aaj a) qj) (ah (aaj a) (cY cn J1)) (fR n f g) 0 (fR n f g) 1)) (NX n a f g) (Gk b)))) (eX (fR n f g) 0)):=⟨by kernel_rfl,by kernel_rfl⟩
theorem Nb {n:Nat}{f g:Nat->List UInt8}{i:Nat}(hi:i<n):(cm n f g).take (i+1)=(cm n f g).take i++[(f i,g i)]:=by have hl:=iN n f g;rw[Fi (by omega)];rw[Jg hi]
theorem ajY {fr to:List UInt8}{n:Nat}{f g:Nat->List UInt8}{i:Nat}(hi:i<n)(h:hasB fr to (ay (f i))=true):rj fr to n f g (i+1)=rj fr to n f g i++[(f i,g i)]:=by unfold rj cO;rw[Nb hi,List.filter_append];congr 1;rw[List.filter_cons,h];rfl
theorem anb {fr to:List UInt8}{n:Nat}{f g:Nat->List UInt8}{i:Nat}(hi:i<n)(h:hasB fr to (ay (f i))=false):rj fr to n f g (i+1)=rj fr to n f g i:=by unfold rj cO;rw[Nb hi,List.filter_append,List.filter_cons,h];simp
theorem ajX (fr to:List UInt8)(n:Nat)(f g:Nat->List UInt8)(i:Nat):(rj fr to n f g i).length<=n:=by
 have h1:=List.length_filter_le (fun e:List UInt8×List UInt8=>hasB fr to (ay e.1)) ((cm n f g).take i);have h2:((cm n f g).take i).length<=(cm n f g).length:=by rw[List.length_take];omega
 rw[iN] at h2;unfold rj cO;omega
theorem ajW (fr to:List UInt8)(n:Nat)(f g:Nat->List UInt8)(i:Nat)(hi:n<=i):rj fr to n f g i=cO fr to (cm n f g):=by unfold rj;rw[List.take_of_length_le (by rw[iN];exact hi)]
theorem RQ {z:Bool}{l l':List Rw}{c c':Nat}(h:l=l')(hc:c=c'):af (RO z l c) (RO z l' c'):=by subst h;subst hc;exact af.refl _
theorem aeH {l l':List Rw}{a b:List UInt8}{c c':Nat}{ty:TypeId}(h:l'=l++[(a,b)])(hc:c=c'):af (.rows true (l.length+1) [.str fun j=>if j<l.length then(l.getD j ([],[])).1 else lZ [a] (j - l.length),.str fun j=>if j<l.length then(l.getD j ([],[])).2 else lZ [b] (j - l.length)] false (c*2) ty) (.rows true l'.length [gN l',gO l'] false (c'*2) ty):=by subst h;subst hc;exact aay (r:=(a,b))
theorem Lm (fr to:List UInt8)(n:Nat)(f g:Nat->List UInt8)(hn:n<=1000)(hf: ∀ i,i<n->(f i).length<1099511627776)(hr:fr.length<=1000)(ht:to.length<=1000)(z:Bool)(o c:Nat)(key:Option Nat):aq (i7 (adU fr to n f g) 11 Tryz.f11 [.cC 0 2 z o 0 n c,.agg [.str false fr,.str false to]] [jP z o c n f g key] (YE (cO fr to (cm n f g)))):=by
 refine aq.Qz (ac0 fr to n f g z o c key) (by delta Fk Bk I6 Ix Er NI bf aX ak cR aI aL dG ax gQ cr fo aP eC cU bD fX jd iT bT dZ cq oh fW cI iW gK fJ mP mQ cB cg eY gp fA dS dW eJ nC pR mY fk mU kZ Uq;exact rfl) ?_;simp only[Int.toNat_natCast,Nat.zero_add,Nat.le_refl,true_and,decide_eq_true_eq,decide_eq_false_iff_not];refine⟨⟨(0,0),⟨Nat.zero_le _,Nat.le_refl _⟩,rfl,rfl,rfl⟩,fun x ⟨h1,h2⟩=>⟨fun h=> ?_,fun h=> ?_⟩⟩
 ·obtain⟨i,c⟩:=x;have hlt:i<n:=by omega
  have hl:(rj fr to n f g (i,c).fst).length<=n:=ajX fr to n f g i;have hlt:(i,c).fst<n:=hlt;refine⟨by omega,hlt,hf i hlt,⟨hr,ht⟩,fun hb=>⟨⟨by omega,by omega⟩,fun c' hc'=>⟨⟨by omega,by omega⟩,(i+1,c'),?_⟩⟩,fun hb=>⟨⟨by omega,by omega⟩,(i+1,c),?_⟩⟩
  ·have e:=ajY (g:=g) hlt hb;have el:(rj fr to n f g (i+1)).length=(rj fr to n f g i).length+1:=by rw[e,List.length_append];rfl
   exact⟨⟨⟨by omega,by show _<=c';rw[el];exact hc'⟩,by show n - (i+1)<n - i;omega⟩,by show(i:Int)+1=((i+1:Nat):Int);omega,⟨el.symm,rfl⟩,aeH e rfl⟩
  ·have e:=anb (g:=g) hlt hb;exact⟨⟨⟨by omega,by show(rj fr to n f g (i+1)).length<=c;rw[e];exact h2⟩,by show n - (i+1)<n - i;omega⟩,by show(i:Int)+1=((i+1:Nat):Int);omega,⟨congrArg List.length e.symm,rfl⟩,RQ (z:=true) e.symm rfl⟩
 ·obtain⟨i,c⟩:=x;have e:=ajW fr to n f g i (by omega);exact⟨c,by rw[← e];exact h2,RQ (z:=true) e rfl,Fa rfl (congrArg List.length e) rfl⟩
theorem aeI (l:List Rw):(YE l).Ok:=fun _=>⟨rfl,rfl,fun k=>by
 show Nat.blt k (k+1)=true;rw[Nat.blt_eq];omega,fun E E' k k' h=>by
 cases l with
 | nil=>rfl
 | cons a r =>show(SV.bI k 2 true 0 (a::r).length _).val E=(SV.bI k' 2 true 0 (a::r).length _).val E';have:=h (SB.mc (i:=0) (Nat.succ_pos _));simp only[SV.val];rw[this]⟩
def aqk:List AZ:=[.of (.slice dE),.agg [.one,.one]]
def OW (vs:List SV)(l:List Seen):Option (Prop×b7):=match vs,l with
 | [_,.agg [.str false fr,.str false to]],[⟨_,_,_,n,_,[.str f,.str g]⟩]=>some (n<=1000/\(∀ i,i<n->(f i).length<1099511627776)/\fr.length<=1000/\to.length<=1000,YE (cO fr to (cm n f g)))
 | _,_=>none
theorem VF:au Tryz.prog 11 (bE aqk OW):=by
 refine gq (n:=20) (fn:=Tryz.f11) Tryz.func11 (by kernel_rfl) (by kernel_rfl) ?_;intro vs l q a h hq;unfold OW at h;split at h
 ·rename_i v fr to key z o n c f g;injection h with h;injection h with h1 h2;subst h1;subst h2;exact⟨_,anw fr to n f g,rfl,aeI _,Lm fr to n f g hq.1 hq.2.1 hq.2.2.1 hq.2.2.2 z o c key⟩
 ·cases h
theorem FJ {l:List Rw}(h:dI 13 l):(ctext 13 l).length<=700:=by
 cases l with
 | nil=>show(dQ gV).length<=700;decide +kernel
 | cons r l=>exact qE (Nat.le_refl _) h (List.cons_ne_nil _ _)
theorem XE (n:Nat)(f g:Nat->List UInt8)(hn:n<9223372036854775808)(z:Bool)(o c:Nat)(key:Option Nat):aq (i7 aef 6 Tryz.f6 [.cC 0 2 z o 0 n c] [jP z o c n f g key] (aau n f g)):=by
 refine aq.Qz (aph n f g z o c key) (by delta Fk Bk Er cn aX aF bC bx ak k6 cY aL cS ax eX cr bn cQ fV dZ cI cB gB cZ dS cH gA c6 qj x8 AK mY NX rM oI C1 Gk lq pI JZ J1 aag aaj;exact rfl) ?_;simp only[Nat.zero_add,Nat.le_refl,true_and,and_true,Bool.not_eq_true',Bool.not_eq_false',decide_eq_true_eq,decide_eq_false_iff_not];refine⟨hn,fun h=>⟨fun _=>⟨fun h'=>absurd h' h,fun _=>⟨fun e=>HL e,fun e=>HL (aeo h e)⟩⟩,fun h'=>absurd h' h⟩,fun h=> ?_⟩;obtain⟨he,h40⟩:=m9 h;have hro:=H8 h;have hl:=iN n (fun i=>ay (f i)) g;refine⟨⟨by omega,fun i hi=> ?_⟩,fun c hc=>⟨(cm n (fun i=>ay (f i)) g,c),⟨hro,by rw[hl];omega⟩,⟨rfl,rfl⟩,zH,fun x hx=> ?_⟩⟩
 ·have:=(he.key (f i,g i) (by unfold cm;exact List.mem_map.2 ⟨i,List.mem_range.2 hi,rfl⟩)).2;have:(f i).length<=6:=this;omega
 ·obtain⟨_,_,hb3,hb4⟩:=Lj hx;have ht:x.2.vb x.1=ctext 13 (cm n (fun i=>ay (f i)) g):=by injection hb3 with e _;exact e.symm
  rw[ht];have h7:(ctext 13 (cm n (fun i=>ay (f i)) g)).length<=700:=FJ hro;have ef:flat [ctext 13 (cm n (fun i=>ay (f i)) g)]=ctext 13 (cm n (fun i=>ay (f i)) g):=by unfold flat;simp
  refine⟨hb4,⟨by rw[ef];omega,by show 1<_;decide⟩,fun _=> ?_,fun h'=>absurd h h'⟩;intro E;unfold ofG gC;rw[ef]
noncomputable def KO (vs:List SV)(l:List Seen):Option (Prop×b7):=match vs,l with
 | [_],[⟨_,_,_,n,_,[.str f,.str g]⟩]=>some (n<9223372036854775808,aau n f g)
 | _,_=>none
theorem aib (n:Nat)(f g:Nat->List UInt8):(aau n f g).Ok:=fun b=>by
 cases b with
 | true=>rfl
 | false=>intro b;cases b<;>rfl
theorem ali:au Tryz.prog 6 (bE shE KO):=by
 refine gq (n:=20) (fn:=Tryz.f6) Tryz.func6 (by kernel_rfl) (by kernel_rfl) ?_;intro vs l q a h hq;unfold KO at h;split at h
 ·rename_i v key z o n c f g;injection h with h;injection h with h1 h2;subst h1;subst h2;exact⟨_,anX,rfl,aib n f g,XE n f g hq z o c key⟩
 ·cases h
def EN (vs:List SV)(l:List Seen):Option (Prop×b7):=match vs,l with
 | [_],[⟨_,_,_,n,_,[.str f,.str g]⟩]=>some (n<9223372036854775808,Qu n f g)
 | _,_=>none
theorem ab7 (n:Nat)(f g:Nat->List UInt8):(Qu n f g).Ok:=fun b=>by
 cases b with
 | false=>intro b;cases b<;>rfl
 | true =>
   intro c;refine⟨rfl,rfl,fun k=>by simp[SV.wf,SV.gM,Nat.blt_eq],fun E E' k k' h=> ?_⟩;simp only[SV.val,SV.vals];cases e:dc (j5 13 (cm n (fun i=>ay (f i)) g))with
   | nil=>rfl
   | cons a r=>rw[h (by rw[e];exact SB.mc (i:=0) (Nat.succ_pos _))]
theorem agf:au Tryz.prog 33 (bE shE EN):=by
 refine gq (n:=20) (fn:=Tryz.f33) Tryz.func33 (by kernel_rfl) (by kernel_rfl) ?_;intro vs l q a h hq;unfold EN at h;split at h
 ·rename_i v key z o n c f g;injection h with h;injection h with h1 h2;subst h1;subst h2;exact⟨_,anR,rfl,ab7 n f g,Th n f g hq z o c key⟩
 ·cases h
def Im (f g f' g':Nat->List UInt8)(i:Nat):Bool:=decide (f i=f' i)&&decide (g i=g' i)
def i5 (n:Nat)(f g:Nat->List UInt8)(n':Nat)(f' g':Nat->List UInt8):Bool:=decide ((n:Int)=(n':Int))&&(List.range n).all (Im f g f' g')
def dEn:List aK:=[.str fun _=>[],.str fun _=>[]]
def alp:List AZ:=[.of (.slice dEn),.of (.slice dEn)]
def uT (z:Bool)(o c n:Nat)(f g:Nat->List UInt8)(key:Option Nat):Seen:=⟨key,z,o,n,c,[.str f,.str g]⟩
noncomputable def VM (n:Nat)(f g f' g':Nat->List UInt8):gF:={cF with cM:=fun f=>aA f kK,aR:=fun h=>if h=10 then [(4,always (B3 5 n (Im f g f' g')))] else []}
theorem akl (n:Nat)(f g f' g':Nat->List UInt8):Sx.Good Tryz.prog (VM n f g f' g'):=.of bO fO bt
noncomputable def VL (n:Nat)(f g f' g':Nat->List UInt8):gF:={cF with cM:=fun f=>aA f kK,aR:=fun h=>if h=34 then [(4,always (B3 13 n (Im f g f' g')))] else []}
theorem aki (n:Nat)(f g f' g':Nat->List UInt8):Sx.Good Tryz.prog (VL n f g f' g'):=.of bO fO bt
section
variable (n m k i : Nat) (x y z f : Nat -> List UInt8)
abbrev Z9:=Bk (not (eX (NI n) (NI m))) (iU (dM (i5 n x y m z f))) ((∃(a:Nat),zW n (Im x y z f) a/\fh a)/\(∀(a:Nat),zW n (Im x y z f) a->Fk (yd a n) (aI (kE a n) (eJ k (bS a) n) (kE a m) (eJ i (bS a) m) (bn (iU (dM (i5 n x y m z f))) (fN a (fun b=>cg n b n a (zW n (Im x y z f) b)/\gU a b)) (eV (x (bS a)) (z (bS a))&&(eV (y (bS a)) (f (bS a))&&true)))) (ah mz (dM (i5 n x y m z f)))))
end
theorem ai9 (n n':Nat)(f g f' g':Nat->List UInt8)(z z':Bool)(o c o' c':Nat)(key key':Option Nat):gS (k7 0 Da (GC 6 x4 Pl.t)) (i7 (VM n f g f' g') 10 Tryz.f10 [.cC 0 2 z o 0 n c,.cC 1 2 z' o' 0 n' c'] [uT z o c n f g key,uT z' o' c' n' f' g' key'] (.ret (.bool false (i5 n f g n' f' g')))) (Z9 n n' o o' f g f' g'):=⟨by kernel_rfl,by kernel_rfl⟩
theorem ac2 (n n':Nat)(f g f' g':Nat->List UInt8)(z z':Bool)(o c o' c':Nat)(key key':Option Nat):gS (k7 0 Da (GC 6 x4 Pl.t)) (i7 (VL n f g f' g') 34 Tryz.f34 [.cC 0 2 z o 0 n c,.cC 1 2 z' o' 0 n' c'] [uT z o c n f g key,uT z' o' c' n' f' g' key'] (.ret (.bool false (i5 n f g n' f' g')))) (Z9 n n' o o' f g f' g'):=⟨by kernel_rfl,by kernel_rfl⟩
theorem ap2 {a b:Bool}(h:(!(a&&(b&&true)))=false):(a&&b)=true:=by revert h;cases a<;>cases b<;>decide
theorem ap1 {a b:Bool}(h:(!(a&&(b&&true)))=true):(a&&b)=false:=by revert h;cases a<;>cases b<;>decide
def oK (vs:List SV)(l:List Seen):Option (Prop×b7):=match vs,l with
 | [_,_],[⟨_,_,_,n,_,[.str f,.str g]⟩,⟨_,_,_,n',_,[.str f',.str g']⟩]=>some (n<9223372036854775808,.ret (.bool false (i5 n f g n' f' g')))
 | _,_=>none
theorem Q1 {n n':Nat}{f g f' g':Nat->List UInt8}(hn:n<9223372036854775808)(z z':Bool)(o c o' c':Nat)(key key':Option Nat):aq (i7 (VM n f g f' g') 10 Tryz.f10 [.cC 0 2 z o 0 n c,.cC 1 2 z' o' 0 n' c'] [uT z o c n f g key,uT z' o' c' n' f' g' key'] (.ret (.bool false (i5 n f g n' f' g')))):=by
 refine aq.Qz (ai9 n n' f g f' g' z z' o c o' c' key key') (by delta Fk Bk I6 Ix Er NI ak aI fK dM eX fo bn cg mz gU fh jb fN lF bS eV eJ iU yd kE Z9;exact rfl) ?_;simp only[Int.toNat_natCast,Nat.zero_add,true_and];refine⟨fun h=>gW (by rw[i5,ama h];rfl),fun h=>⟨⟨0,⟨Nat.zero_le _,fun j hj=>absurd hj (Nat.not_lt_zero _)⟩,rfl⟩,fun i hi=>⟨fun a=> ?_,fun a=> ?_⟩⟩⟩
 ·have a:(i:Int)<(n:Int):=of_decide_eq_true a;have e:(n:Int)=(n':Int):=al7 h;refine⟨by omega,by omega,by omega,by omega,fun b=> ?_,fun b=>⟨by omega,i+1,⟨uY hi a (ap2 b),by omega⟩,by omega⟩⟩;exact gW (by rw[i5,zP a (ap1 b),Bool.and_false])
 ·have a: ¬ (i:Int)<(n:Int):=of_decide_eq_false a;exact gW (by rw[i5,DN hi a,ame h];rfl)
theorem acA:au Tryz.prog 10 (bE alp oK):=by
 refine gq (n:=20) (fn:=Tryz.f10) Tryz.func10 (by kernel_rfl) (by kernel_rfl) ?_;intro vs l q a h hq;unfold oK at h;split at h
 ·rename_i v v' key z o n c f g key' z' o' n' c' f' g';injection h with h;injection h with h1 h2;subst h1;subst h2;exact⟨_,akl n f g f' g',rfl,rfl,Q1 hq z z' o c o' c' key key'⟩
 ·cases h
theorem Lt {n n':Nat}{f g f' g':Nat->List UInt8}(hn:n<9223372036854775808)(z z':Bool)(o c o' c':Nat)(key key':Option Nat):aq (i7 (VL n f g f' g') 34 Tryz.f34 [.cC 0 2 z o 0 n c,.cC 1 2 z' o' 0 n' c'] [uT z o c n f g key,uT z' o' c' n' f' g' key'] (.ret (.bool false (i5 n f g n' f' g')))):=by
 refine aq.Qz (ac2 n n' f g f' g' z z' o c o' c' key key') (by delta Fk Bk I6 Ix Er NI ak aI fK dM eX fo bn cg mz gU fh jb fN lF bS eV eJ iU yd kE Z9;exact rfl) ?_;simp only[Int.toNat_natCast,Nat.zero_add,true_and];refine⟨fun h=>gW (by rw[i5,ama h];rfl),fun h=>⟨⟨0,⟨Nat.zero_le _,fun j hj=>absurd hj (Nat.not_lt_zero _)⟩,rfl⟩,fun i hi=>⟨fun a=> ?_,fun a=> ?_⟩⟩⟩
 ·have a:(i:Int)<(n:Int):=of_decide_eq_true a;have e:(n:Int)=(n':Int):=al7 h;refine⟨by omega,by omega,by omega,by omega,fun b=> ?_,fun b=>⟨by omega,i+1,⟨uY hi a (ap2 b),by omega⟩,by omega⟩⟩;exact gW (by rw[i5,zP a (ap1 b),Bool.and_false])
 ·have a: ¬ (i:Int)<(n:Int):=of_decide_eq_false a;exact gW (by rw[i5,DN hi a,ame h];rfl)
theorem V0:au Tryz.prog 34 (bE alp oK):=by
 refine gq (n:=20) (fn:=Tryz.f34) Tryz.func34 (by kernel_rfl) (by kernel_rfl) ?_;intro vs l q a h hq;unfold oK at h;split at h
 ·rename_i v v' key z o n c f g key' z' o' n' c' f' g';injection h with h;injection h with h1 h2;subst h1;subst h2;exact⟨_,aki n f g f' g',rfl,rfl,Lt hq z z' o c o' c' key key'⟩
 ·cases h
structure Xr where
 n:Nat
 f:Nat->List UInt8
 g:Nat->List UInt8
 z:Bool
 o:Nat
 c:Nat
 fr:List UInt8
 to:List UInt8
 m:Nat
 h:Nat->List UInt8
 z':Bool
 o':Nat
 c':Nat
def Xr.sp (x:Xr):Sp:=⟨x.fr,x.to,x.m,x.h,x.z',x.o',x.c',fun _=>false,fun _=>0⟩
noncomputable def Xr.U (x:Xr):List (List UInt8):=dc (j5 13 (cm x.n (fun i=>ay (x.f i)) x.g))
def Xr.bet (x:Xr):List Rw:=cO x.fr x.to (cm x.n x.f x.g)
noncomputable def Xr.told (x:Xr):List Rw:=DU (gC x.n x.f x.g) x.sp
noncomputable def Xr.LD (x:Xr)(s:List UInt8)(j:Nat):Bool:=!cw s (x.U.getD j [])
noncomputable def Xr.free (x:Xr)(i:Nat):Bool:=(List.range x.U.length).all (x.LD (x.h i))
noncomputable def Xr.ask (x:Xr):Bool:=decide (fR x.n x.f x.g=0)&&((eE (gC x.n x.f x.g) x.sp).isSome&& !decide (x.told=x.bet))
noncomputable def Xr.hit (x:Xr):Bool:=x.ask&& !(List.range x.m).all x.free
noncomputable def exA (x:Xr):b7:=.fork x.hit fun b=>match b with
 | true=>.all (List UInt8×List UInt8) fun p=>.req (cw p.1 p.2=true/\(p.1.length<=1000/\p.2.length<=1000)) (.ret (.bL [.str false p.1,.str false p.2,.bool true true]))
 | false=>.ret (.bL [.str true [],.str true [],.bool true false])
noncomputable def apD (x:Xr):qy:=[(11,always (A2 49 x.m x.free)),(14,fun st=>match slot st.tmps 14 with
 | some (.str _ s)=>some (one (A2 55 x.U.length (x.LD s)))
 | _=>none)]
noncomputable def WB:List (FuncId×PT):=(6,bE shE KO)::(26,bE alq zM)::(11,bE aqk OW)::(34,bE alp oK)::(33,bE shE EN)::(14,aT sE)::qc
theorem MR:aU Tryz.prog (fun f=>aA f WB):=.cons ali (bJ _ _) (.cons U3 (bJ _ _) (.cons VF (bJ _ _) (.cons V0 (bJ _ _) (.cons agf (bJ _ _) (.cons Ia (aN _) iL)))))
noncomputable def adZ (x:Xr):gF:={cF with cM:=fun f=>aA f WB,aR:=fun h=>if h=13 then apD x else []}
theorem anE (x:Xr):Sx.Good Tryz.prog (adZ x):=.of bO MR bt
def Xr.args (x:Xr):List SV:=[.cC 0 2 x.z x.o 0 x.n x.c,.agg [.str false x.fr,.str false x.to],.cC 1 1 x.z' x.o' 0 x.m x.c']
def Xr.seen (x:Xr)(k k':Option Nat):List Seen:=[jP x.z x.o x.c x.n x.f x.g k,⟨k',x.z',x.o',x.m,x.c',[.str x.h]⟩]
section
variable (n m : Nat) (v : SV) (x : Xr) (y : List UInt8 × List UInt8)
abbrev ak4:=∃(a:List UInt8×List UInt8),ak (dZ (cw a.1 a.2)) (pR a.1) (pR a.2)/\ah v (cY (ax a.1) (aF (ax a.2) (SV.bool true true) List.nil))
abbrev Xs:=ak (dZ (cw y.1 y.2)) (pR y.1) (pR y.2)
noncomputable def ala:List (List UInt8×List UInt8):=DU (gC x.n x.f x.g) (Sp.mk x.fr x.to x.m x.h x.z' (x.o'+0) x.c' (fun _=>false) (fun _=>0))
abbrev aoO:=Sp.mk x.fr x.to x.m x.h x.z' (x.o'+0) x.c' (fun _=>false) (fun _=>0)
abbrev F2:=dc (j5 13 (cm x.n (fun a=>ay (x.f a)) x.g))
abbrev NJ:=c6 (ak (Er x.z) (Er x.o) (cI x.n x.n))/\cr x.n
abbrev Zp:=ak (Er x.z) (Er x.o) (cI x.n x.n)
abbrev JU:=cO x.fr x.to (cm x.n x.f x.g)
abbrev Aw:=jh True True
abbrev F9:=gd x.m (Xr.free x) n
abbrev TW:=fR x.n x.f x.g
abbrev ZH:=c6 (ak (Er x.z') (Er x.o') (cI x.m x.m))
abbrev Gl:=Bk (Xr.hit x) (ak4 v) (fj v)
abbrev Kr:=gd (List.length (Xr.U x)) (Xr.LD x (x.h (bS n))) m
abbrev ahN:=cQ (uJ (bS n) x.h) (uJ (bS m) (fun a=>c9 a (F2 x))) i9
abbrev aam:=fN n (fun a=>cg (List.length (Xr.U x)) a (List.length (Xr.U x)) n (Kr m a x)/\gU n a)
noncomputable def Oc:Nat:=List.length (ala x)
end
theorem ac4 (x:Xr)(k k':Option Nat):gS (k7 0 (k7 0 (k7 3 (uI Da (k7 1 Da ahA) Pl.t) Pl.t) Pl.t) Pl.t) (i7 (adZ x) 13 Tryz.f13 x.args (x.seen k k') (exA x)) ((fun(a:SV)=>NJ x/\gA (aS (ak True Aw (ZH x)/\Sp.th (aoO x)) (∀(b:Nat),aX (Oc x) b (aI (jh (Zp x) Aw) (lq x.n) (∀(a:Nat),a<x.n->dS (x.f a)) (pR x.fr) (pR x.to)/\(∀(b:Nat),aX (List.length (JU x)) b (aS (jh (jw/\cI (Oc x) (Oc x)) (jw/\cI (List.length (JU x)) (List.length (JU x)))/\cr (Oc x)) (Gl a x) (NJ x/\gA (∀(b:Nat),aX (List.length (F2 x)) b ((∃(a:Nat),F9 a x/\fh a)/\(∀(b:Nat),F9 b x->fA x.m (aL (kE b x.m) (eJ x.o' (bS b) x.m) (∃(a:Nat),Kr b a x/\fh a) (∀(c:Nat),Kr b c x->fA (List.length (F2 x)) (gQ (kE c (List.length (F2 x))) (bS c<List.length (F2 x)) (ij (x.h (bS b))) (ij (c9 (bS c) (F2 x))) (Bk (cw (x.h (bS b)) (c9 (bS c) (F2 x))) (dY (∃(a:List UInt8×List UInt8),Xs a/\ah (ahN b c x) (cQ (ax a.1) (ax a.2) i9)) (ahN b c x) a (Xr.hit x)) (aam c b x))) (jb b/\(∃(a:Nat),cg x.m a x.m b (F9 a x)/\gU b a)) (NI c))) (Gl a x) (NI b)))) (Gl a x) (Gl a x) (TW x) 0 (TW x) 1) (i5 (Oc x) (fun a=>(lS a (ala x)).1) (fun a=>(lS a (ala x)).2) (List.length (JU x)) (fun a=>(lS a (JU x)).1) (fun a=>(lS a (JU x)).2)))))) (Gl a x) (Option.isSome (eE (gC x.n x.f x.g) (aoO x)))) (Gl a x) (Gl a x) (TW x) 0 (TW x) 1) (cQ cn cn pL)):=⟨by kernel_rfl,by kernel_rfl⟩
def Full (w:Sp)(L:List (List UInt8)):Prop:=∀ t,t∈ L->hJ w (cT t)=true/\w.at (cT t)=t
theorem Full.mono {w:Sp}{L L':List (List UInt8)}(h:Full w L)(hs: ∀ t,t∈ L'->t∈ L):Full w L':=fun t ht=>h t (hs t ht)
theorem acw {l:List Rw}(h:dI 0 l):l=[]:=by
 cases l with
 | nil=>rfl
 | cons r l=>exact absurd (h.len r (List.mem_cons_self ..)) (Nat.not_lt_zero _)
theorem Xt {α:Type}(f:Nat->List α)(n:Nat):(List.range (n+1)).flatMap f=(List.range n).flatMap f++f n:=by rw[List.range_succ,List.flatMap_append];simp
theorem Lg {x:Nd}(h:bB x=true):x.Good:=by
 refine⟨fun hk hp=> ?_,fun j hj=> ?_⟩
 ·rcases tc h with ⟨h1,_⟩ | ⟨h1,_⟩ | ⟨_,h2⟩ | ⟨h1,_⟩
  ·omega
  ·omega
  ·simp only[tj,lJ,Bool.and_eq_true,decide_eq_true_eq,hp] at h2;have:=h2.1.1.1;simp at this
  ·omega
 ·rcases(p7 h).r j hj with e | e
  ·rw[e];decide
  ·have:=zw e;omega
theorem AT (x:Nd)(p:List UInt8):br x.again p=br x p:=by
 unfold br;show(if x.k=3 then(if p≠[]/\ai p 0<16 then x.again.r (ai p 0).toNat else [])else if x.k=2 then(bif preB x.p p then x.r 0 else [])else [])=_
 by_cases h:p≠[]/\ai p 0<16
 ·have:=eO p 0;rw[if_pos h,if_pos h,show x.again.r (ai p 0).toNat=x.r (ai p 0).toNat from gT x.r _ (by omega)]
 ·rw[if_neg h,if_neg h]
theorem K6 (x:Nd)(p:List UInt8):cj x.again p=cj x p:=by unfold cj;rw[AT];rfl
theorem O8 (x:Nd)(p:List UInt8):iJ x.again p=iJ x p:=rfl
theorem O9 (x:Nd)(p:List UInt8):jm x.again p=jm x p:=rfl
theorem U6 {x:Nd}(h:x.Good)(p:List UInt8):(br x p).length<9223372036854775808:=by
 unfold br;split
 ·split
  ·rename_i h1;have:=eO p 0;exact h.2 _ (by omega)
  ·decide
 ·split
  ·cases preB x.p p with
   | true=>exact h.2 0 (by decide)
   | false=>exact(show([]:List UInt8).length<_ by decide)
  ·decide
theorem DC {x:Nd}(h:x.Good){p:List UInt8}(h0:br x p≠[]):(cj x p).length<p.length:=by
 unfold cj;rw[if_neg h0];unfold br at h0;by_cases h3:x.k=3
 ·rw[if_pos h3] at h0 ⊢;by_cases hp:p≠[]/\ai p 0<16
  ·have:=List.length_pos_iff.2 hp.1;rw[List.length_drop];omega
  ·rw[if_neg hp] at h0;exact absurd rfl h0
 ·rw[if_neg h3] at h0 ⊢;by_cases h2:x.k=2
  ·rw[if_pos h2] at h0;cases hb:preB x.p p with
   | false=>rw[hb] at h0;exact absurd rfl h0
   | true =>simp only[preB,Bool.and_eq_true,decide_eq_true_eq] at hb;have:=List.length_pos_iff.2 (h.1 h2);rw[List.length_drop];omega
  ·rw[if_neg h2] at h0;exact absurd rfl h0
section
variable {w : Wy} {P p : List UInt8} {y : Nd} {u m : Nat}
theorem akh (hs:fQ w P=Lx w m y p u)(hm:p.length<m)(h0:br y p=[]):fQ w P=some (y,p,u):=by
 obtain⟨m,rfl⟩: ∃ k,m=k+1:=⟨m - 1,by omega⟩
 rw[hs,Lx,if_pos h0]
theorem ae5 (hs:fQ w P=Lx w m y p u)(hm:p.length<m)(hg:y.Good)(h0:br y p≠[]){z:Nd}{u':Nat}(hf:yT (w.on u) (br y p)=some (z,u')) :
  ∃ m,(cj y p).length<m/\fQ w P=Lx w m z (cj y p) u':=by
 obtain⟨m,rfl⟩: ∃ k,m=k+1:=⟨m - 1,by omega⟩
 have:=DC hg h0;exact⟨m,by omega,by rw[hs,Lx,if_neg h0,hf]⟩
theorem Sc (hs:fQ w P=Lx w m y p u)(hm:p.length<m)(h0:br y p≠[])(hf:yT (w.on u) (br y p)=none):fQ w P=none:=by
 obtain⟨m,rfl⟩: ∃ k,m=k+1:=⟨m - 1,by omega⟩
 rw[hs,Lx,if_neg h0,hf]
theorem al9 {t:List UInt8}(h:cG t=true):yT w t=some (getD t,w.u):=by rw[yT,if_pos h]
theorem adl {t:List UInt8}(h:cG t=false)(h1:eA t=true)(h2:iB w (aa t)=true):yT w t=some (getD (w.f w.u),w.u+1):=by rw[yT,if_neg (by rw[h];simp),if_pos (by rw[h1,h2];rfl)]
theorem aaK {t:List UInt8}(h:cG t=false)(h1:eA t=false∨iB w (aa t)=false):yT w t=none:=by rw[yT,if_neg (by rw[h];simp),if_neg (by rcases h1 with h1 | h1<;>rw[h1]<;>simp)]
theorem Lb {h:List UInt8}(ht:iB w h=true):w.u<w.n/\cT (w.f w.u)=h/\ey (w.f w.u)=true:=by simp only[iB,Bool.and_eq_true,decide_eq_true_eq] at ht;exact⟨by omega,ht.2.1,ht.2.2⟩
theorem acL (h:iB (w.on 0) w.root=false):fQ w P=none:=by rw[fQ,h];rfl
theorem XQ (h:iB (w.on 0) w.root=true):fQ w P=Lx w (P.length+1) (getD (w.f 0)) P 1:=by rw[fQ,h];rfl
end
structure Wy.th (w:Wy):Prop where
 f: ∀ i,i<w.n->(w.f i).length<=1000
def ajh (vs:List SV)(l:List Seen):Option (Wy×List UInt8×Option Nat):=match vs,l with
 | [.str false root,.str false key,_],[⟨kk,z,o,n,c,[.str f]⟩]=>some (⟨root,n,f,z,o,c,0⟩,key,kk)
 | _,_=>none
theorem aji {vs:List SV}{l:List Seen}{w:Wy}{key:List UInt8}{kk:Option Nat}(h:ajh vs l=some (w,key,kk)):filled shW vs l=[.str false w.root,.str false key,.cC 0 1 w.z w.o 0 w.n w.c]/\l=[AR w kk]:=by
 unfold ajh at h;split at h
 ·injection h with h;injection h with h1 h;injection h with h2 h3;subst h1;subst h2;subst h3;exact⟨rfl,rfl⟩
 ·cases h
end Go.Proofs.YtpaaiebohjjieaaGreatDoor
