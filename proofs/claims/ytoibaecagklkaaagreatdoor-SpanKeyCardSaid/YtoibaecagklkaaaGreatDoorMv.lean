/-
  The framework's part 31: calls that reach blocks at keys of their own (what a range over a function has in scope), and what they hold behind it.
-/
import Derived.Test.YtoibaecagklkaaaGreatDoorMp
import Derived.Test.YtoibaecagklkaaaGreatDoorMu
import Derived.Test.YtoibaecagklkaaaGreatDoorMs
open Bool renaming and_eq_true->ax,and_false->d_,false->F,false_and->eN,not_eq_false'->d!,not_eq_true'->ay,or_eq_true->eP,true->C
open Decidable renaming byContradiction->gh,decide->I
open Go.IntKind renaming i64->O
open Go.Op renaming bytesLess->cl
open Go.Proofs.Tryz renaming f107->ei,f12->ej,f21->en,f23->ep,f26->er,prog->Q
open List renaming all_eq_true->eR,dropLast_concat_getLast->eT,filter_append->eW,filter_cons->e5,flatten_append->e6,getElem?_eq_getElem->eu,length->ez,length_append->V,length_cons->eA,length_eq_zero_iff->e7,mem_append->a_,mem_cons->eB,mem_cons_of_mem->e_,mem_cons_self->eC,mem_flatMap->eL,mem_map->eM,mem_range->Z,mem_singleton->a!,take_of_length_le->e!
open Nat renaming beq->ag,ble->W,blt->bf,blt_eq->an,eq_of_beq_eq_true->c4,le_add_right->fl,le_of_ble_eq_true->fm,le_refl->S,le_trans->c5,lt_of_lt_of_le->b_,lt_succ_self->fE,not_lt_zero->b!,succ_pos->f_,zero_add->c_,zero_le->c!
open Option renaming none->J,some->M
namespace Go.Proofs.YtoibaecagklkaaaGreatDoor
open Go Sx
variable {l:List Rw}{N c c' i n:Nat}{f g:Nat->List UInt8}{ty:TypeId}{Γ:br}
namespace Sx
open Go
noncomputable section
def iy (N nx k:Nat):Nat:=match bf k N with
 | true=>k
 | false=>nx+k
structure lZ where
 G:Type
 N:Nat
 H:Nat
 pre:G->Prop
 args:G->List SV
 mem:G->Mem
 val:G->SV
 B:Type
 post:G->B->Prop
 back:G->B->Mem
def Ef (H:Nat):Mem->Bool
 | []=>C
 | e::r=>bf e.1 H&&Ef H r
theorem xP {H:Nat}: ∀ {m:Mem} {k:Nat} {B:SB},Ef H m=C->m.get k=M B->k<H
 | [],_,_,_,h=>by cases h
 | e::r,k,B,hb,h=>by
   simp only[Ef,ax,an] at hb;by_cases he:e.1=k
   ·rw[← he];exact hb.1
   ·rw[Mem.get,if_neg he] at h;exact xP hb.2 h
def wO:SV->Option Nat
 | .yield k=>M k
 | _=>J
theorem zC {v:SV}{k:Nat}(h:wO v=M k):v=.yield k:=by
 unfold wO at h;split at h
 ·injection h with h;rw[h]
 ·cases h
def gK (base:Nat):List SV->List SV->Ren->(Ren->VC)->VC
 | [],[],aJ,t=>t aJ
 | h::hs,u::us,aJ,t=>(match wO h,wO u with
   | some a,M b=>(match ag a b,bf a base with
     | true,C=>gK base hs us aJ t
     | _,_=>.fail "call: another yield")
   | _,_=>rE base aJ h u (λaJ=>gK base hs us aJ t))
 | _,_,_,_=>.fail "call: so many arguments"
theorem lg {base:Nat}: ∀ {hs us:List SV} {aJ:Ren} {t:Ren->VC},(gK base hs us aJ t).holds ->
  ∃ ren',aJ.le ren'/\(t ren').holds/\∀ ren'' (E:Nat->Nat),ren'.le ren''->SV.vals (Ren.E base ren'' E) hs=SV.vals E us
 | [],[],aJ,t,h=>⟨aJ,Ren.le_refl _,h,λ_ _ _=>rfl⟩
 | h::hs,u::us,aJ,t,hh=>by
   simp only[gK] at hh;split at hh
   ·rename_i a b ha hb;split at hh
    ·rename_i e1 e2;obtain rfl:=c4 e1;have e2:a<base:=by simpa [an] using e2
     obtain⟨r2,g1,g2,g3⟩:=lg hh;refine⟨r2,g1,g2,λr'' E hle=> ?_⟩;rw[zC ha,zC hb];simp only[SV.vals,SV.val,g3 r'' E hle,Ren.yJ e2]
    ·exact hh.elim
   ·obtain⟨r1,h1,h2,h3⟩:=pY hh;obtain⟨r2,g1,g2,g3⟩:=lg h2;exact⟨r2,Ren.le_trans h1 g1,g2,λr'' E hle=>by simp only[SV.vals];rw[h3 r'' E (Ren.le_trans g1 hle),g3 r'' E hle]⟩
 | [],_::_,_,_,h=>h.elim
 | _::_,[],_,_,h=>h.elim
theorem mG {base:Nat}: ∀ {a b:List SV} {aJ:Ren} {t t':Ren->VC},(∀ r,(t r).holds->(t' r).holds)->(gK base a b aJ t).holds->(gK base a b aJ t').holds
 | [],[],_,_,_,ht,h=>ht _ h
 | x::a,y::b,aJ,t,t',ht,h=>by
   simp only[gK] at h ⊢;split at h
   ·split at h
    ·exact mG ht h
    ·exact h.elim
   ·exact zj (λ_ h=>mG ht h) h
 | [],_::_,_,_,_,_,h=>h.elim
 | _::_,[],_,_,_,_,h=>h.elim
def lZ.ok (c:lZ)(x:c.G):Bool:=W c.N c.H&&(Ef c.H (c.mem x)&&(Mem.wf c.H (c.mem x)&&SV.fO c.H (c.args x)))
def lZ.qO (c:lZ)(x:c.G)(nx:Nat)(K:SV->Mem->Nat->VC):VC:=.all c.B λy=>.imp (c.post x y) (match Ef c.H (c.back x y)with
 | true=>K ((c.val x).Qw (iy c.N nx)) (Dc (iy c.N nx) (c.back x y)) (nx+c.H)
 | false=>.fail "call: keys")
theorem lZ.lQ {c:lZ}{x:c.G}{nx:Nat}{K K':SV->Mem->Nat->VC}(hK: ∀ v m nx,(K v m nx).holds->(K' v m nx).holds)(h:(c.qO x nx K).holds):(c.qO x nx K').holds:=by
 intro y hy;have h:=h y hy;cases hb:Ef c.H (c.back x y)with
 | false=>rw[hb] at h;exact h.elim
 | true=>rw[hb] at h;exact hK _ _ _ h
def kD (c:lZ):PT:=λargs m nx K=>.ex c.G λx=>.and (.atom (c.pre x)) (match W c.N nx,c.ok x with
 | true,C=>gK c.N (c.args x) args [] λaJ=>fk c.N m (c.mem x) [] aJ λ_=>c.qO x nx K
 | _,_=>.fail "call: keys")
theorem tY (c:lZ):aT (kD c):=by
 intro args m nx K K' hK h;obtain⟨x,h1,h2⟩:=h;refine⟨x,h1,?_⟩;show VC.holds _
 have h2:VC.holds (match W c.N nx,c.ok x with
  | true,C=>gK c.N (c.args x) args [] λaJ=>fk c.N m (c.mem x) [] aJ λ_=>c.qO x nx K
  | _,_=>.fail "call: keys"):=h2
 revert h2;cases W c.N nx with
 | false=>exact id
 | true=>cases c.ok x with
   | false=>exact id
   | true=>exact mG λaJ h=>gB (λ_ h=>lZ.lQ hK h) h
def lZ.fit (c:lZ)(x:c.G):SV->Mem->Nat->VC:=λv m _=>.ex c.B λy=>.and (.atom (c.post x y)) (kT c.N [c.val x] [v] [] λaJ=>fk c.N m (c.back x y) [] aJ λ_=>.tt)
section
variable {P : Program}
theorem aN.Vz {E m nx w}(h:aN Γ E m nx w)(hΓ:Γ.tg<=n)(hnN:n<=N){aJ:Ren}{m2:Mem}(hb: ∀ kh B',m2.get kh=M B'->Ak n m [] aJ kh B')
  (hi: ∀ kh kh' B B' k1,m2.get kh=M B->(∃ b a,B.gb b a)->m2.get kh'=M B'->(∃ b a,B'.gb b a)->dD n aJ kh=M k1->dD n aJ kh'=M k1->kh=kh') (hlt: ∀ kh B',m2.get kh=M B'->kh<N) :
  aN Γ (Ren.E n aJ E) m2 N w:=by
 have hE: ∀ kh k1,dD n aJ kh=M k1->Ren.E n aJ E kh=E k1:=λkh k1 hr=>by simp[Ren.E,hr]
 have hg: ∀ {kh B' a},m2.get kh=M B'->B'.gb (Ren.E n aJ E kh) a->∃ k1 B,dD n aJ kh=M k1/\m.get k1=M B/\B.gb (E k1) a/\(∀ E1 o,bF E1 (B.el a) o->bF (Ren.E n aJ E1) (B'.el a) o)/\(B'.ro=F->B.ro=F):=λ{kh B' a} hg ha=>by obtain⟨k1,B,g1,_,g3,g4,g5,g6⟩:=hb kh B' hg _ a ha;exact⟨k1,B,g1,g3,by rw[← hE kh k1 g1];exact g4,g5,g6⟩
 refine⟨λkh B' a hk ha=> ?_,λkh kh' B B' a hk ha hk' ha' hr=> ?_,hlt,λkh B' a hk ha hro=> ?_,h.ext,⟨c5 hΓ hnN,λk hk=>(Ren.yJ (b_ hk hΓ)).trans (h.cx.2 k hk)⟩,h.kp⟩
 ·obtain⟨k1,X,_,q3,q4,q5,_⟩:=hg hk ha;obtain⟨o,ho,hbo⟩:=h.iC k1 X a q3 q4;exact⟨o,ho,q5 E o hbo⟩
 ·obtain⟨k1,X,g1,g3,g5,_,g7⟩:=hg hk ha;obtain⟨k1',X',g1',g3',g5',_,g7'⟩:=hg hk' ha';have:=h.iS k1 k1' X X' a g3 g5 g3' g5' (hr.imp g7 g7');subst this;exact hi kh kh' B B' k1 hk ⟨_,_,ha⟩ hk' ⟨_,_,ha'⟩ g1 g1'
 ·obtain⟨k1,X,_,g3,g5,_,g7⟩:=hg hk ha;exact h.jl k1 X a g3 g5 (g7 hro)
theorem aN.adf {Θ Δ:br}{E E3:Nat->Nat}{m2:Mem}{H nx:Nat}{w':World}(h:aN Θ E3 m2 H w')(hw0:Δ.w0=Θ.w0)(hm0:Δ.M0=Θ.M0)(hk0:Δ.keep=Θ.keep)(hΔ:Δ.tg<=nx)(hE0: ∀ k,k<Δ.tg->E k=Δ.E0 k)
  (hN:N<=nx) (hlow: ∀ k,k<N->E3 k=E k) :
  (∀ k,jH nx E E3 (iy N nx k)=E3 k)/\aN Δ (jH nx E E3) (Dc (iy N nx) m2) (nx+H) w':=by
 have hρ: ∀ k,jH nx E E3 (iy N nx k)=E3 k:=λk=>by
  unfold iy jH;cases hb:bf k N with
  | true =>
    have hk:k<N:=by simpa [an] using hb
    simp only[show k<nx by omega,if_true];exact(hlow k hk).symm
  | false=>simp only[show ¬ nx+k<nx by omega,if_false,Nat.add_sub_cancel_left]
 have hget: ∀ {j X},(Dc (iy N nx) m2).get j=M X->∃ k B,m2.get k=M B/\iy N nx k=j/\X=B.aJ (iy N nx):=λ{j X} hj=>by
  have hj:(Dc (iy N nx) m2++[]).get j=M X:=by rw[List.append_nil];exact hj
  rcases vU hj with h1 | h1
  ·exact h1
  ·cases h1
 have hfun:(λk=>jH nx E E3 (iy N nx k))=E3:=funext hρ;refine⟨hρ,λj X a hj ha=> ?_,λj j' X X' a hj ha hj' ha' hr=> ?_,λj X hj=> ?_,λj X a hj ha hr=> ?_,by rw[hw0,hm0];exact h.ext,⟨c5 hΔ (fl _ _),λk hk=> ?_⟩,λD hD=>h.kp D (by rw[← hk0];exact hD)⟩
 ·obtain⟨k,B,g1,g2,rfl⟩:=hget hj;rw[SB.vV,← g2,hρ] at ha;obtain⟨o,ho,hbo⟩:=h.iC k B a g1 ha;exact⟨o,ho,bF.aJ (by rw[hfun];exact hbo)⟩
 ·obtain⟨k,B,g1,g2,rfl⟩:=hget hj;obtain⟨k',B',g1',g2',rfl⟩:=hget hj';rw[SB.vV,← g2,hρ] at ha;rw[SB.vV,← g2',hρ] at ha';rw[SB.Mm,SB.Mm] at hr;have:=h.iS k k' B B' a g1 ha g1' ha' hr;subst this;rw[← g2,← g2']
 ·obtain⟨k,B,g1,g2,rfl⟩:=hget hj;have:=h.lt k B g1;rw[← g2];unfold iy;split
  ·rename_i hb;have hk:k<N:=by simpa [an] using hb
   omega
  ·omega
 ·obtain⟨k,B,g1,g2,rfl⟩:=hget hj;rw[SB.vV,← g2,hρ] at ha;rw[SB.Mm] at hr;rw[hm0,hw0];exact h.jl k B a g1 ha hr
 ·unfold jH;rw[if_pos (b_ hk hΔ)];exact hE0 k hk
theorem Tb {c:lZ}{cal:nR}{KP:PK}{run:PT}(hΓ:Γ.tg<=c.N)(hcal: ∀ E E':Nat->Nat,(∀ k,k<c.N->E' k=E k)->cal.sem E'=cal.sem E)(hrun:qf P Γ Aa cal run)
  (h: ∀ x,c.pre x->c.ok x=C->az (run (c.args x) (c.mem x) c.H (c.fit x))):qf P Γ KP cal (kD c):=by
 intro Δ hle args m nx K hh hwf hargs E w hs;obtain⟨x,hpre,hh⟩:=hh;have hpre:c.pre x:=hpre
 have hh:VC.holds (match W c.N nx,c.ok x with
  | true,C=>gK c.N (c.args x) args [] λaJ=>fk c.N m (c.mem x) [] aJ λ_=>c.qO x nx K
  | _,_=>.fail "call: keys"):=hh
 split at hh
 ·rename_i hN hok;have hN:c.N<=nx:=fm hN;have hrh:=(h x hpre hok).out;simp only[lZ.ok,ax] at hok;obtain⟨ok1,ok2,ok4,ok5⟩:=hok;have ok1:c.N<=c.H:=fm ok1;obtain⟨ren1,_,h1,hv1⟩:=lg hh;obtain⟨aJ,hl2,hK,h34⟩:=fJ h1;obtain⟨h3,h4⟩:=h34 aJ (Ren.le_refl _);let Θ:br:={Δ with tg:=Γ.tg}
  have hleΘ:Γ.le Θ:=⟨hle.w,hle.m,S _,hle.e,hle.keep⟩
  have hsΘ:aN Θ E m nx w:=⟨hs.iC,hs.iS,hs.lt,hs.jl,hs.ext,⟨c5 hle.nx hs.cx.1,λk hk=>hs.cx.2 k (b_ hk hle.nx)⟩,hs.kp⟩
  have hsat:=hsΘ.Vz (n:=c.N) (N:=c.H) hΓ ok1 h3 h4 (λkh B' hg=>xP ok2 hg);have hlow: ∀ k,k<c.N->Ren.E c.N aJ E k=E k:=λk hk=>Ren.yJ hk;have hcall:=hrun Θ hleΘ _ _ _ _ hrh ok4 ok5 _ _ hsat;rw[hcal E _ hlow,hv1 aJ E hl2] at hcall;refine Out.mono hcall (λr w' hr=> ?_) (λch w' hp=> ?_)
  ·obtain⟨E2,sv,m2,nx2,q1,_,q3,q4,q5⟩:=hr;cases sv with
   | none=>exact q5.elim
   | some v =>
     have q5:(c.fit x v m2 nx2).holds:=q5;obtain⟨y,hy,q5⟩:=q5;have hKy:=hK y hy;obtain⟨ren2,_,g1,gv⟩:=jy q5;split at hKy
     rotate_left
     ·exact hKy.elim
     rename_i ok3;obtain⟨ren3,gl2,_,g34⟩:=fJ g1;obtain⟨g3,g4⟩:=g34 ren3 (Ren.le_refl _);have hs3:=q4.Vz (n:=c.N) (N:=c.H) hΓ ok1 g3 g4 (λkh B' hg=>xP ok3 hg);have hlow3: ∀ k,k<c.N->Ren.E c.N ren3 E2 k=E k:=λk hk=>(Ren.yJ hk).trans ((q1 k (b_ hk ok1)).trans (hlow k hk));obtain⟨hρ,hfin⟩:=hs3.adf (Δ:=Δ) (E:=E) (N:=c.N) (nx:=nx) rfl rfl rfl hs.cx.1 hs.cx.2 hN hlow3;refine⟨_,M ((c.val x).Qw (iy c.N nx)),_,_,λk hk=> ?_,fl _ _,λu hu=> ?_,hfin,hKy⟩
     ·unfold jH;rw[if_pos hk]
     ·injection hu with hu;subst hu;rw[SV.Jt,show(λk=>jH nx E (Ren.E c.N ren3 E2) (iy c.N nx k))=Ren.E c.N ren3 E2 from funext hρ,q3 v rfl]
      have:=gv ren3 E2 gl2;simp only[SV.vals,List.cons.injEq,and_true] at this;exact this.symm
  ·obtain⟨_,_,_,_,_,_,_,_,_,hno⟩:=hp;exact hno.elim
 ·exact hh.elim
def recC (f:FuncId)(pt:PT):iL:=⟨λenv KP c=>match c with
 | .yield k=>(match env.find k with
   | some pt=>pt
   | none=>λ_ _ _ _=>.fail "a yield that is not known")
 | .panic=>raise KP
 | .fn g=>(match ag g f with
   | true=>pt
   | false=>λ_ _ _ _=>.fail "another function"),λ_=>F⟩
theorem X7 {f:FuncId}{pt:PT}(hm:aT pt)(h: ∀ KP,qf P Γ KP (.fn f) pt):rQ P (recC f pt) Γ.le:=by
 refine⟨λenv he KP c=> ?_,λenv he KP KP' hK c args m nx K h=> ?_,λ{Γ' Δ} h h'=>br.le_trans h h',λΔ hle env hem he KP c=> ?_,λg hg=>by cases hg⟩
 ·cases c with
  | yield k =>
    show aT (match env.find k with
     | some pt=>pt
     | none=>λ_ _ _ _=>.fail "a yield that is not known")
    split
    ·rename_i pt hp;exact he _ (Env.vn hp)
    ·exact λargs m nx K K' _ h=>h.elim
  | panic=>exact λargs m nx K K' _ h=>h
  | fn g =>
    show aT (match ag g f with
     | true=>pt
     | false=>λ_ _ _ _=>.fail "another function")
    split
    ·exact hm
    ·exact λargs m nx K K' _ h=>h.elim
 ·cases c with
  | yield k=>exact h
  | panic =>
    show(raise KP' args m nx K).holds;have h:(raise KP args m nx K).holds:=h;unfold raise at h ⊢;split at h
    ·split at h
     ·exact hK _ _ _ h
     ·exact h
    ·exact h
  | fn g=>exact h
 ·cases c with
  | yield k =>
    show qf P Δ KP (.yield k) (match env.find k with
     | some pt=>pt
     | none=>λ_ _ _ _=>.fail "a yield that is not known")
    split
    ·rename_i pt hp;exact he _ (Env.vn hp) KP
    ·exact λΔ _ args m nx K h=>h.elim
  | panic=>exact B7
  | fn g =>
    show qf P Δ KP (.fn g) (match ag g f with
     | true=>pt
     | false=>λ_ _ _ _=>.fail "another function")
    split
    ·rename_i hg;obtain rfl:=c4 hg;exact(h KP).mono hle
    ·exact λΔ _ args m nx K h=>h.elim
theorem U5 (hmix:P.follows .mixedOrders=C){f:FuncId}{fn:Func}(hf:P.funcs[f]?=M fn) (hname:(fn.name== "runtime.NumGoroutine")=F) {kl N:Nat} {cy:lZ} {ct:Nat->lZ} {Γ:br} (hΓ:Γ.tg<=N)
  (hy: ∀ KP,qf P Γ KP (.yield kl) (kD cy)) (hN: ∀ d,(ct d).N=N) (h0: ∀ x,¬ (ct 0).pre x) {n:Nat}
  (h: ∀ d x,(ct (d+1)).pre x->(ct (d+1)).ok x=C->∃ bD,az (fN P (recC f (kD (ct d))) [(kl,kD cy)] Aa bD n fn ((ct (d+1)).args x) ((ct (d+1)).mem x) (ct (d+1)).H ((ct (d+1)).fit x))) :
  ∀ d KP,qf P Γ KP (.fn f) (kD (ct d))
 | 0,KP=>λΔ _ args m nx K hh=>by obtain⟨x,hpre,_⟩:=hh;exact(h0 x hpre).elim
 | d+1,KP=>by
   have ih:=U5 hmix hf hname hΓ hy hN h0 h d;intro Δ hle args m nx K hh;obtain⟨x,hpre,hh⟩:=hh;have hh':=hh;have hpre':(ct (d+1)).pre x:=hpre;by_cases hok:(ct (d+1)).ok x=C
   ·obtain⟨A,hA⟩:=h d x hpre' hok;let c1:lZ:={ct (d+1)with pre:=λy=>y=x}
    have hfix:qf P Γ KP (.fn f) (kD c1):=Tb (c:=c1) (run:=fN P (recC f (kD (ct d))) [(kl,kD cy)] Aa A n fn) (by rw[show c1.N=(ct (d+1)).N from rfl,hN];exact hΓ) (λ_ _ _=>rfl)
     (Cl hmix (X7 (tY _) ih) (λp hp=>by rcases eB.1 hp with e | hp;subst e;exact tY _;cases hp) (br.le_refl _) (λp hp KP=>by rcases eB.1 hp with e | hp;subst e;exact hy KP;cases hp) hf hname)
     (λy hy _=>by have hy:y=x:=hy;rw[hy];exact hA)
    exact hfix Δ hle args m nx K ⟨x,rfl,hh'⟩
   ·exfalso;have hok:(ct (d+1)).ok x=false:=by simpa using hok
    have hh:VC.holds (match W (ct (d+1)).N nx,(ct (d+1)).ok x with
     | true,C=>_
     | _,_=>.fail "call: keys"):=hh
    rw[hok] at hh;cases hb:W (ct (d+1)).N nx<;>(rw[hb] at hh;exact hh)
def NP (N:Nat)(cy ct:lZ):Env->PT:=λenv args m nx K=>match env,ag nx N with
 | (_,Y)::_,C=>.and (.all cy.G λx=>.imp (cy.pre x) (match cy.ok x with
   | true=>Y (cy.args x) (cy.mem x) cy.H (cy.fit x)
   | false=>.tt)) (kD ct args m nx K)
 | _,_=>.fail "a range: keys"
theorem Lr (N:Nat)(cy ct:lZ)(env:Env):aT (NP N cy ct env):=by
 intro args m nx K K' hK h;unfold NP at h ⊢;split at h
 ·exact⟨h.1,tY ct _ _ _ _ _ hK h.2⟩
 ·exact h.elim
def Ih (kl N:Nat)(cy ct:Loop->lZ):Env->PT:=λenv args m nx K=>match env,m.get kl with
 | (k,_)::_,M (.loop .ready J R)=>(match ag k kl with
   | true=>NP N (cy R) (ct R) env args m nx K
   | false=>.fail "a range: another key")
 | _,_=>.fail "a range: no yield"
theorem TK (hmix:P.follows .mixedOrders=C){f:FuncId}{fn:Func}(hf:P.funcs[f]?=M fn) (hname:(fn.name== "runtime.NumGoroutine")=F) {kl D:Nat} {cy:Loop->lZ} {ct:Loop->Nat->lZ} (hkl:kl<N) (hcy: ∀ R,(cy R).N=N)
  (hN: ∀ R d,(ct R d).N=N) (h0: ∀ R x,¬ (ct R 0).pre x)
  (h: ∀ R d x,(ct R (d+1)).pre x->(ct R (d+1)).ok x=C->∃ bD,az (fN P (recC f (kD (ct R d))) [(kl,kD (cy R))] Aa bD n fn ((ct R (d+1)).args x) ((ct R (d+1)).mem x) (ct R (d+1)).H ((ct R (d+1)).fit x))) :
  E9 P f (Ih kl N cy (λR=>ct R D)):=by
 refine⟨λenv he args m nx K K' hK hh=> ?_,λΓ env hem he KP Δ hle args m nx K hh hwf hargs E w hs=> ?_⟩
 ·unfold Ih at hh ⊢;split at hh
  ·split at hh
   ·exact Lr _ _ _ _ _ _ _ _ _ hK hh
   ·exact hh.elim
  ·exact hh.elim
 ·unfold Ih at hh;split at hh
  ·rename_i k Y r R _;split at hh
   ·rename_i hk;obtain rfl:=c4 hk;unfold NP at hh;split at hh
    ·rename_i k' Y' r' heq hnx;injection heq with e1 e2;injection e1 with e3 e4;subst e4;have hnx:nx=N:=c4 hnx;have hΔ:Δ.tg<=N:=hnx▸ hs.cx.1;have hY: ∀ KP,qf P Δ KP (.yield k) Y:=λKP=>(he (k,Y) (eC ..) KP).mono hle;have hy: ∀ KP,qf P Δ KP (.yield k) (kD (cy R)):=λKP=>Tb (by rw[hcy R];exact hΔ) (λE E' hE=>funext λargs=>by
      show Instr.yield (E' k) args=Instr.yield (E k) args;rw[hE k (by rw[hcy R];exact hkl)]) (hY Aa) (λx hx hok=>⟨by
      have:=hh.1 x hx;rw[hok] at this;exact this⟩)
     exact U5 hmix hf hname hΔ hy (hN R) (h0 R) (h R) D KP Δ Δ.le_refl args m nx K hh.2 hwf hargs E w hs
    ·exact hh.elim
   ·exact hh.elim
  ·exact hh.elim
end
end
end Sx
section
open Go Sx
set_option maxRecDepth 20000
def aH (l:List (List UInt8)):List (List UInt8):=l.foldl (λu x=>if x∈ u then u else u++[x]) []
theorem sX (l:List (List UInt8))(x:List UInt8):aH (l++[x])=if x∈ aH l then aH l else aH l++[x]:=by unfold aH;rw[List.foldl_append];rfl
theorem kX: ∀(n:Nat) (l:List (List UInt8)),l.length=n->∀ s,s∈ aH l↔s∈ l
 | 0,l,h,s=>by rw[e7.1 h];exact Iff.rfl
 | n+1,l,h,s=>by
   obtain⟨k,x,rfl⟩: ∃ k x,l=k++[x]:=⟨l.dropLast,l.getLast (by intro e;rw[e] at h;cases h),(eT _).symm⟩
   have ih:=kX n k (by rw[V] at h;simpa using h);rw[sX];by_cases hx:x∈ aH k
   ·rw[if_pos hx,ih s,a_,a!];exact⟨.inl,λh=>h.elim id λe=>e▸ (ih x).1 hx⟩
   ·rw[if_neg hx,a_,a_,ih s]
theorem wD: ∀(n:Nat) (l:List (List UInt8)),l.length=n->(aH l).length<=n
 | 0,l,h=>by rw[e7.1 h];exact S _
 | n+1,l,h=>by
   obtain⟨k,x,rfl⟩: ∃ k x,l=k++[x]:=⟨l.dropLast,l.getLast (by intro e;rw[e] at h;cases h),(eT _).symm⟩
   have ih:=wD n k (by rw[V] at h;simpa using h);rw[sX];split
   ·omega
   ·rw[V];simpa using ih
def fu (l:List (List UInt8))(s:List UInt8):Int:=(l.count s:Int)
def gO (l:List (List UInt8))(s:List UInt8):Bool:=I (s∈ l)
noncomputable def LH:List (FuncId×PT):=(62,bS Ws xg)::(64,bS Ws Cj)::(63,oV 13)::fY
theorem D3:bt Q (λf=>aD f LH):=.cons SI (cz _ _) (.cons Vf (cz _ _) (.cons (Dr 13) (vb 13) cZ))
def abc (l:List (List UInt8)):cO:=.all Nat λc=>.req (l.length<=c) (.new (λk=>.aO [.bx k 1 C 0 l.length c,.int .i64 C 0]) (.rows C l.length [.str λi=>l.getD i []] F (c*1) 9))
def Gt (n:Nat)(f g:Nat->List UInt8):cO:=.fork (I (cJ n f g=0)) λb=>match b with
 | true=>abc (aH (cM 13 (aI n (λi=>aj (f i)) g)))
 | false=>.fork (I (cJ n f g=1)) λb=>match b with
   | true=>.ret (.aO [.aP,.int .i64 C 1])
   | false=>.ret (.aO [.aP,.int .i64 C 12])
def Ie (R:Loop)(P:Pd)(key:Nat)(L:List (List UInt8))(c:Nat):Mem:=[(1,.cells [.bx key 1 C 0 (aH L).length c] 1 29),(key,.rows C (aH L).length [.str λi=>(aH L).getD i []] F (c*1) 9),(2,.fmap (gO L) (.int .i64 (fu L)) J),
 (3,.cells [.map 2] 1 90),(9,.loop .ready J R),(6,P.parts 7),(7,P.lists 6)]
structure NoS where
 L:List (List UInt8)
 c:Nat
 P:Pd
 s:List UInt8
def cyN (R:Loop):lZ :=
 {G:=NoS,N:=10,H:=11,pre:=λx=>x.L.length<=100000/\(aH x.L).length<=x.c,args:=λx=>[.str F x.s],mem:=λx=>Ie R x.P 10 x.L x.c,val:=λ_=>.bool C C,B:=Nat,
  post:=λx c=>(aH (x.L++[x.s])).length<=c,back:=λx c=>Ie R x.P 10 (x.L++[x.s]) c}
structure OQ where
 L:List (List UInt8)
 c:Nat
 P:Pd
 a:Nat
 T:List (List UInt8)
def Rx (R:Loop)(d:Nat):lZ :=
 {G:=OQ,N:=10,H:=11,pre:=λx=>Told x.P d x.a x.T/\(x.L++x.T).length<=100000/\(aH x.L).length<=x.c,args:=λx=>[.fP 6 x.a 0,.yield 9],mem:=λx=>Ie R x.P 10 x.L x.c,val:=λ_=>.bool C C,B:=Nat,
  post:=λx c=>(aH (x.L++x.T)).length<=c,back:=λx c=>Ie R x.P 10 (x.L++x.T) c}
def Ya (st:Sx.St):List Nat:=match st.m.get 1 with
 | some (.cells [.bx k _ _ _ _ _] _ _)=>[k]
 | _=>[]
def gF (x:OQ)(Ks:List (List (List UInt8)))(i:Nat):List (List UInt8):=x.L++x.P.cR x.a::(Ks.take i).flatten
noncomputable def WG (R:Loop)(x:OQ)(Ks:List (List (List UInt8))):bg :={α:=Nat×Nat,pre:=λ_ y=>y.1<=Ks.length/\(aH (gF x Ks y.1)).length<=y.2,kY:=λ_ y=>Ks.length - y.1,fresh:=1,slots:=λ_ y=>[(19,.int .i64 F y.1)],mem:=λst y=>Ie R x.P st.nx (gF x Ks y.1) y.2,drop:=Ya}
noncomputable def Zh (R:Loop)(d:Nat)(x:OQ)(Ks:List (List (List UInt8))):VC :=fN Q (recC 107 (kD (Rx R d))) [(9,kD (cyN R))] Aa [(4,always (WG R x Ks))] 100 ei ((Rx R (d+1)).args x) ((Rx R (d+1)).mem x) 11 ((Rx R (d+1)).fit x)
noncomputable def Nl:fQ:={cv with cQ:=λf=>aD f LH,iter:=λf=>if f=107 then M (Ih 9 10 cyN (λR=>Rx R 14))else J}
theorem abP (R:Loop)(d:Nat)(x:OQ)(Ks:List (List (List UInt8))):dA (.s 1 (.n .k (.s 0 (.n (.s 0 .k) (.s 0 (.n .k (.n .k (.s 1 (.n .k (.n .k (.s 0 (.n (.s 0 (.n .k (.s 0 (.n (.s 0 .k) (.s 0 (.n .k (.n .k (.n .k (.s 0 .k))))))))) (.n (.s 2 (.n .k (.s 1 (.n (.s 0 .k) (.s 0 (.n .k (.n .k (.s 1 (.n .k (.n .k (.s 1 (.n .k (.s 0 (.n (.s 0 .k) (.s 0 (.n .k (.n .k (.n .k (.s 0 .k))))))))))))))))))) (.s 2 (.n (.s 0 .k) (.s 0 (.n .k (.n .k .t)))))))))))))))))) (Zh R d x Ks) ((x.P.D x.a=C/\∃(u17:NoS),(u17.L.length<=100000/\(aH u17.L).length<=u17.c)/\x.P.cR x.a=u17.s/\((aH x.L).length=(aH u17.L).length/\x.c=u17.c)/\aa (SB.rows C (aH x.L).length [ak.str λu16=>(aH x.L).getD u16 []] F (x.c*1) 9) (SB.rows C (aH u17.L).length [ak.str λu15=>(aH u17.L).getD u15 []] F (u17.c*1) 9)/\aa (SB.fmap (gO x.L) (aC.int O (fu x.L)) J) (SB.fmap (gO u17.L) (aC.int O (fu u17.L)) J)/\aa (SB.dV x.P.D [ak.str x.P.cR,ak.b7 7 1 C x.P.fb x.P.nb x.P.cb] 2 165 F) (u17.P.parts 7)/\aa (SB.dG x.P.D2 x.P.n2 [b9.ref 6 x.P.g] F) (u17.P.lists 6)/\∀(u14:Nat),(aH (u17.L++[u17.s])).length<=u14->u17.P.D x.a=C/\(∃(u13:Nat×Nat),(u13.1<=Ks.length/\(aH (gF x Ks u13.1)).length<=u13.2)/\0=(u13.1:Int)/\((aH (u17.L++[u17.s])).length=(aH (gF x Ks u13.1)).length/\u14=u13.2) /\aa (SB.rows C (aH (u17.L++[u17.s])).length [ak.str λu12=>(aH (u17.L++[u17.s])).getD u12 []] F (u14*1) 9) (SB.rows C (aH (gF x Ks u13.1)).length [ak.str λu11=>(aH (gF x Ks u13.1)).getD u11 []] F (u13.2*1) 9)/\aa (SB.fmap (gO (u17.L++[u17.s])) (aC.int O (fu (u17.L++[u17.s]))) J) (SB.fmap (gO (gF x Ks u13.1)) (aC.int O (fu (gF x Ks u13.1))) J)/\aa (SB.cells [SV.map (iy 10 11 2)] 1 90) (SB.cells [SV.map 2] 1 90)/\aa (SB.dV u17.P.D [ak.str u17.P.cR,ak.b7 (iy 10 11 7) 1 C u17.P.fb u17.P.nb u17.P.cb] 2 165 F) (x.P.parts 7)/\aa (SB.dG u17.P.D2 u17.P.n2 [b9.ref (iy 10 11 6) u17.P.g] F) (x.P.lists 6))/\∀(u10:Nat×Nat),u10.1<=Ks.length/\(aH (gF x Ks u10.1)).length<=u10.2->(I ((u10.1:Int)<(↑(u17.P.nb x.a):Int))=C->(0<=(u10.1:Int)/\(u10.1:Int)<(↑(u17.P.nb x.a):Int))/\(x.P.D2 (u17.P.fb x.a)=C/\0+(u10.1:Int).toNat<x.P.n2 (u17.P.fb x.a))/\∃(u9:OQ),(Told u9.P d u9.a u9.T/\(u9.L++u9.T).length<=100000/\(aH u9.L).length<=u9.c) /\x.P.g (u17.P.fb x.a) (0+(u10.1:Int).toNat)=u9.a/\((aH (gF x Ks u10.1)).length=(aH u9.L).length/\u10.2=u9.c)/\aa (SB.rows C (aH (gF x Ks u10.1)).length [ak.str λu8=>(aH (gF x Ks u10.1)).getD u8 []] F (u10.2*1) 9) (SB.rows C (aH u9.L).length [ak.str λu7=>(aH u9.L).getD u7 []] F (u9.c*1) 9)/\aa (SB.fmap (gO (gF x Ks u10.1)) (aC.int O (fu (gF x Ks u10.1))) J) (SB.fmap (gO u9.L) (aC.int O (fu u9.L)) J)/\aa (SB.dV x.P.D [ak.str x.P.cR,ak.b7 7 1 C x.P.fb x.P.nb x.P.cb] 2 165 F) (u9.P.parts 7)/\aa (SB.dG x.P.D2 x.P.n2 [b9.ref 6 x.P.g] F) (u9.P.lists 6)/\∀(u6:Nat),(aH (u9.L++u9.T)).length<=u6->I6 ((u10.1:Int)+1)/\∃(u5:Nat×Nat),((u5.1<=Ks.length/\(aH (gF x Ks u5.1)).length<=u5.2)/\Ks.length - u5.1<Ks.length - u10.1)/\(u10.1:Int)+1=(u5.1:Int)/\((aH (u9.L++u9.T)).length=(aH (gF x Ks u5.1)).length/\u6=u5.2) /\aa (SB.rows C (aH (u9.L++u9.T)).length [ak.str λu4=>(aH (u9.L++u9.T)).getD u4 []] F (u6*1) 9) (SB.rows C (aH (gF x Ks u5.1)).length [ak.str λu3=>(aH (gF x Ks u5.1)).getD u3 []] F (u5.2*1) 9)/\aa (SB.fmap (gO (u9.L++u9.T)) (aC.int O (fu (u9.L++u9.T))) J) (SB.fmap (gO (gF x Ks u5.1)) (aC.int O (fu (gF x Ks u5.1))) J)/\aa (SB.cells [SV.map (iy 10 ((23:Nat)) 2)] 1 90) (SB.cells [SV.map 2] 1 90)/\aa (SB.dV u9.P.D [ak.str u9.P.cR,ak.b7 (iy 10 ((23:Nat)) 7) 1 C u9.P.fb u9.P.nb u9.P.cb] 2 165 F) (x.P.parts 7)/\aa (SB.dG u9.P.D2 u9.P.n2 [b9.ref (iy 10 ((23:Nat)) 6) u9.P.g] F) (x.P.lists 6))/\(I ((u10.1:Int)<(↑(u17.P.nb x.a):Int))=F->∃(u2:Nat),(aH (x.L++x.T)).length<=u2/\((aH (gF x Ks u10.1)).length=(aH (x.L++x.T)).length/\u10.2=u2) /\aa (SB.rows C (aH (gF x Ks u10.1)).length [ak.str λu1=>(aH (gF x Ks u10.1)).getD u1 []] F (u10.2*1) 9) (SB.rows C (aH (x.L++x.T)).length [ak.str λu0=>(aH (x.L++x.T)).getD u0 []] F (u2*1) 9)/\aa (SB.fmap (gO (gF x Ks u10.1)) (aC.int O (fu (gF x Ks u10.1))) J) (SB.fmap (gO (x.L++x.T)) (aC.int O (fu (x.L++x.T))) J)))):=⟨by kernel_rfl,by kernel_rfl⟩
theorem Yx (n:Nat)(f g:Nat->List UInt8)(z:Bool)(o c:Nat)(key:Option Nat):dA (.s 3 (.n (.s 0 .k) (.s 0 (.n .k (.n (.s 1 (.n (.s 4 (.n (.s 0 .k) (.s 0 (.n .k (.n .k .t))))) (.s 2 (.n (.s 0 .k) (.s 0 (.n .k (.n .k .t))))))) (.s 0 (.n .k (.s 1 (.n .k (.s 0 (.n .k (.n .k (.s 0 .k))))))))))))) (iG Nl 26 er [.bH 0 2 z o 0 n c] [gZ z o c n f g key] (Gt n f g)) ((λP0:OQ->Nat->SV=>(((((z=z/\o=o/\0+n<=n)/\True)/\n<9223372036854775808)/\((!decide (cJ n f g=0))=C->(I (cJ n f g=0)=C->∃(u29:Nat),(aH (cM 13 (aI n (fun(u28:Nat)=>aj (f u28)) g))).length<=u29/\False)/\(I (cJ n f g=0)=F->(I (cJ n f g=1)=C->af (SV.aO [SV.aP,SV.int .i64 F (cJ n f g)]) (SV.aO [SV.aP,SV.int .i64 C 1]))/\(I (cJ n f g=1)=F->af (SV.aO [SV.aP,SV.int .i64 F (cJ n f g)]) (SV.aO [SV.aP,SV.int .i64 C 12]))))/\((!decide (cJ n f g=0))=F->(((z=z/\o=o/\0+n<=n)/\True)/\n<=1000/\∀(u27:Nat),u27<n->(f u27).length<1099511627776)/\∀(u26:Nat),(aI n (fun(u25:Nat)=>aj (f u25)) g).length<=u26->∃(u24:List Rw×Nat),(bV 13 u24.1/\u24.1.length<=1000/\(13:Nat)<=(13:Nat))/\((aI n (fun(u23:Nat)=>aj (f u23)) g).length=u24.1.length/\u26=u24.2) /\aa (SB.rows F (aI n (fun(u22:Nat)=>aj (f u22)) g).length [bY (aI n (fun(u21:Nat)=>aj (f u21)) g),bZ (aI n (fun(u20:Nat)=>aj (f u20)) g)] F (u26*2) 174) (SB.rows F u24.1.length [bY u24.1,bZ u24.1] C (u24.2*2) 174)/\∀(u19:Nat×Pd),Told u19.2 14 u19.1 (cM 13 u24.1)->∀(_u18:Loop),(∀(u17:NoS),u17.L.length<=100000/\(aH u17.L).length<=u17.c->I6 (dflt (gO u17.L u17.s) (fu u17.L u17.s)+1)/\(I (dflt (dN (gO u17.L) u17.s u17.s) (fK (fu u17.L) u17.s (dflt (gO u17.L u17.s) (fu u17.L u17.s)+1) u17.s)=1)=C->(0+(aH u17.L).length<=(aH u17.L).length/\True/\2*((aH u17.L).length+1)*16<=(281474976710656:Nat)/\(aH u17.L).length+1<(9223372036854775808:Nat))/\∀(u16:Nat),(aH u17.L).length+1<=u16->∃(u15:Nat),(aH (u17.L++[u17.s])).length<=u15/\((aH u17.L).length+1=(aH (u17.L++[u17.s])).length/\u16=u15) /\aa (SB.rows C ((aH u17.L).length+1) [ak.str λu14=>if u14<(aH u17.L).length then(aH u17.L).getD u14 [] else bT [u17.s] (u14 - (aH u17.L).length)] F (u16*1) 9) (SB.rows C (aH (u17.L++[u17.s])).length [ak.str λu13=>(aH (u17.L++[u17.s])).getD u13 []] F (u15*1) 9)/\aa (SB.fmap (dN (gO u17.L) u17.s) (aC.int O (fK (fu u17.L) u17.s (dflt (gO u17.L u17.s) (fu u17.L u17.s)+1))) J) (SB.fmap (gO (u17.L++[u17.s])) (aC.int O (fu (u17.L++[u17.s]))) J))/\(I (dflt (dN (gO u17.L) u17.s u17.s) (fK (fu u17.L) u17.s (dflt (gO u17.L u17.s) (fu u17.L u17.s)+1) u17.s)=1)=F->∃(u12:Nat),(aH (u17.L++[u17.s])).length<=u12/\((aH u17.L).length=(aH (u17.L++[u17.s])).length/\u17.c=u12)/\aa (SB.rows C (aH u17.L).length [ak.str λu11=>(aH u17.L).getD u11 []] F (u17.c*1) 9) (SB.rows C (aH (u17.L++[u17.s])).length [ak.str λu10=>(aH (u17.L++[u17.s])).getD u10 []] F (u12*1) 9) /\aa (SB.fmap (dN (gO u17.L) u17.s) (aC.int O (fK (fu u17.L) u17.s (dflt (gO u17.L u17.s) (fu u17.L u17.s)+1))) J) (SB.fmap (gO (u17.L++[u17.s])) (aC.int O (fu (u17.L++[u17.s]))) J)))/\∃(u9:OQ),(Told u9.P 14 u9.a u9.T/\(u9.L++u9.T).length<=100000/\(aH u9.L).length<=u9.c)/\u19.1=u9.a/\(aH u9.L).length=0/\(SB.rows C (aH u9.L).length [ak.str λu8=>(aH u9.L).getD u8 []] F (u9.c*1) 9).no=C/\aa (SB.map [] 0) (SB.fmap (gO u9.L) (aC.int O (fu u9.L)) J)/\aa (SB.cells [SV.map ((2:Nat))] 1 90) (SB.cells [SV.map 2] 1 90)/\aa (SB.dV u19.2.D [ak.str u19.2.cR,ak.b7 7 1 C u19.2.fb u19.2.nb u19.2.cb] 2 165 F) (u9.P.parts 7)/\aa (SB.dG u19.2.D2 u19.2.n2 [b9.ref 6 u19.2.g] F) (u9.P.lists 6)/\∀(u7:Nat),(aH (u9.L++u9.T)).length<=u7->(I (cJ n f g=0)=C->∃(u6:Nat),(aH (cM 13 (aI n (fun(u5:Nat)=>aj (f u5)) g))).length<=u6 /\aa (SB.rows C (aH (u9.L++u9.T)).length [ak.str λu4=>(aH (u9.L++u9.T)).getD u4 []] F (u7*1) 9) (SB.rows C (aH (cM 13 (aI n (fun(u3:Nat)=>aj (f u3)) g))).length [ak.str λu2=>(aH (cM 13 (aI n (fun(u1:Nat)=>aj (f u1)) g))).getD u2 []] F (u6*1) 9)/\af (P0 u9 u7) (SV.aO [SV.bx (iy 10 ((10:Nat)) 10) 1 C 0 (aH (cM 13 (aI n (fun(u0:Nat)=>aj (f u0)) g))).length u6,SV.int .i64 C 0]))/\(I (cJ n f g=0)=F->(I (cJ n f g=1)=C->af (P0 u9 u7) (SV.aO [SV.aP,SV.int .i64 C 1]))/\(I (cJ n f g=1)=F->af (P0 u9 u7) (SV.aO [SV.aP,SV.int .i64 C 12]))))))) (fun(u9:OQ) (u7:Nat)=>(SV.aO [SV.bx (iy 10 ((10:Nat)) 10) 1 C 0 (aH (u9.L++u9.T)).length u7,SV.int .i64 C 0]))):=⟨by kernel_rfl,by kernel_rfl⟩
theorem yx {u u':List (List UInt8)}(h:u=u')(hc:c=c'):aa (.rows C u.length [.str λi=>u.getD i []] F (c*1) ty) (.rows C u'.length [.str λi=>u'.getD i []] F (c'*1) ty):=by subst h;subst hc;exact aa.refl _
theorem Kg {L L':List (List UInt8)}(h:L=L'):aa (.fmap (gO L) (.int .i64 (fu L)) J) (.fmap (gO L') (.int .i64 (fu L')) J):=by subst h;exact aa.refl _
theorem Up (x:OQ)(Ks:List (List (List UInt8)))(i:Nat)(hi:i<Ks.length):gF x Ks (i+1)=gF x Ks i++Ks[i]:=by unfold gF;rw[List.take_add_one,eu hi,e6];simp
theorem XC (x:OQ)(Ks:List (List (List UInt8)))(hT:x.T=x.P.cR x.a::Ks.flatten)(i:Nat)(hi:Ks.length<=i):gF x Ks i=x.L++x.T:=by unfold gF;rw[e! hi,hT]
theorem XD (x:OQ)(Ks:List (List (List UInt8)))(hT:x.T=x.P.cR x.a::Ks.flatten)(i:Nat):(gF x Ks i).length<=(x.L++x.T).length:=by
 have h:Ks.flatten=(Ks.take i).flatten++(Ks.drop i).flatten:=by rw[← e6,List.take_append_drop]
 unfold gF;rw[hT,h];simp only[V,eA];omega
theorem MH (R:Loop)(d:Nat)(x:OQ)(hx:(Rx R (d+1)).pre x): ∃ bD,az (fN Q (recC 107 (kD (Rx R d))) [(9,kD (cyN R))] Aa bD 100 ei ((Rx R (d+1)).args x) ((Rx R (d+1)).mem x) (Rx R (d+1)).H ((Rx R (d+1)).fit x)):=by
 obtain⟨⟨hD,Ks,hnb,hD2,hT,hK⟩,hlen,hc⟩:=hx;have key:az (Zh R d x Ks):=by
  refine az.pr (abP R d x Ks) ?_;have hlen:(x.L++x.T).length<=100000:=hlen;have hL:x.L.length<=100000:=by rw[V] at hlen;omega
  refine⟨hD,⟨x.L,x.c,x.P,x.P.cR x.a⟩,⟨hL,hc⟩,rfl,⟨rfl,rfl⟩,aa.refl _,aa.refl _,aa.refl _,aa.refl _,λy hy=>⟨hD,⟨(0,y),⟨c! _,hy⟩,rfl,⟨rfl,rfl⟩,aa.refl _,aa.refl _,aa.refl _,aa.refl _,aa.refl _⟩,λz hz=>⟨λh=> ?_,λh=> ?_⟩⟩⟩
  ·obtain⟨i,c⟩:=z;obtain⟨hz1,hz2⟩:=hz;have hi:i<Ks.length:=by have:(i:Int)<(x.P.nb x.a:Int):=of_decide_eq_true h;omega
   have hpos:0<Ks.length:=by omega
   have hd:=hD2 hpos;have ek:(0:Nat)+((i:Nat):Int).toNat=i:=by omega
   have em:=Up x Ks i hi;have hml:=XD x Ks hT (i+1);rw[em] at hml;refine⟨⟨by omega,by show(i:Int)<(x.P.nb x.a:Int);omega⟩,⟨hd.1,by rw[ek];exact b_ hi hd.2⟩,⟨gF x Ks i,c,x.P,x.P.g (x.P.fb x.a) i,Ks[i]⟩,⟨hK i _ (eu hi),by show(gF x Ks i++Ks[i]).length<=_;omega,hz2⟩,by rw[ek],⟨rfl,rfl⟩,aa.refl _,aa.refl _,aa.refl _,aa.refl _,λy hy=> ?_⟩;have hl:Ks.length<=100000:=by have:=CP (P:=x.P) (d:=d) (n:=Ks.length) (f:=λi=>x.P.g (x.P.fb x.a) i) (B:=Ks.flatten) ⟨Ks,rfl,rfl,hK⟩;rw[V,hT,eA] at hlen;omega
   have ec:aH (gF x Ks i++Ks[i])=aH (gF x Ks (i+1)):=congrArg aH em.symm;refine⟨⟨by omega,by omega⟩,(i+1,y),⟨⟨hi,?_⟩,by show _ - (i+1)<_ - i;omega⟩,by show(i:Int)+1=((i+1:Nat):Int);omega,⟨congrArg ez ec,rfl⟩,yx ec rfl,Kg em.symm,aa.refl _,aa.refl _,aa.refl _⟩;show(aH (gF x Ks (i+1))).length<=y;rw[← ec];exact hy
  ·obtain⟨i,c⟩:=z;obtain⟨hz1,hz2⟩:=hz;have hi:Ks.length<=i:=by have: ¬ (i:Int)<(x.P.nb x.a:Int):=of_decide_eq_false h;omega
   have em:=XC x Ks hT i hi;have hz2:(aH (gF x Ks i)).length<=c:=hz2;exact⟨c,by rw[← em];exact hz2,⟨congrArg (λl=>(aH l).length) em,rfl⟩,yx (congrArg aH em) rfl,Kg em⟩
 exact⟨_,key⟩
theorem PA:E9 Q 107 (Ih 9 10 cyN (λR=>Rx R 14)) :=TK (n:=100) bX (fn:=ei) Tryz.func107 (by kernel_rfl) (by decide) (λ_=>rfl) (λ_ _=>rfl) (λR x h=>h.1) λR d x hx _=>MH R d x hx
theorem aav:Sx.Good Q Nl:=.of bX D3 bw λf g h=>by
 simp only[Nl] at h;split at h
 ·rename_i e;injection h with h;subst e;subst h;exact PA
 ·cases h
theorem AF (L:List (List UInt8))(s:List UInt8):dflt (gO L s) (fu L s)=fu L s:=by
 unfold dflt gO fu;by_cases h:s∈ L
 ·rw[decide_eq_true h];rfl
 ·rw[decide_eq_false h,List.count_eq_zero_of_not_mem h];rfl
theorem Tr (L:List (List UInt8))(s t:List UInt8):dN (gO L) s t=gO (L++[s]) t:=by unfold dN gO;rw[Bool.eq_iff_iff,eP,decide_eq_true_eq,decide_eq_true_eq,decide_eq_true_eq,a_,a!]
theorem SO (L:List (List UInt8))(s t:List UInt8):fK (fu L) s (fu L s+1) t=fu (L++[s]) t:=by
 unfold fK fu;rw[List.count_append,List.count_singleton];by_cases h:t=s
 ·subst h;simp
 ·rw[decide_eq_false h];have: ¬ s=t:=λe=>h e.symm;simp[this]
theorem Nr (L:List (List UInt8))(s:List UInt8):aa (.fmap (dN (gO L) s) (.int .i64 (fK (fu L) s (dflt (gO L s) (fu L s)+1))) J) (.fmap (gO (L++[s])) (.int .i64 (fu (L++[s]))) J):=by rw[AF];exact aa.fmap (Tr L s) λt=>congrArg (Value.int .i64) (SO L s t)
theorem Ns (L:List (List UInt8))(s:List UInt8):dflt (dN (gO L) s s) (fK (fu L) s (dflt (gO L s) (fu L s)+1) s)=1↔s∉ L:=by
 have h1:dN (gO L) s s=true:=by unfold dN;simp
 have h2:fK (fu L) s (dflt (gO L s) (fu L s)+1) s=fu L s+1:=by unfold fK;rw[AF];simp
 rw[h1,h2];show fu L s+1=1↔_;unfold fu;rw[← List.count_eq_zero];omega
theorem Z1 (L:List (List UInt8))(s:List UInt8):0<=fu L s/\fu L s<=(L.length:Int):=by unfold fu;have:=List.count_le_length (a:=s) (l:=L);omega
theorem Yl {u:List (List UInt8)}{s:List UInt8}{u':List (List UInt8)}(h:u'=u++[s])(hc:c=c'):aa (.rows C (u.length+1) [.str λj=>if j<u.length then u.getD j [] else bT [s] (j - u.length)] F (c*1) ty) (.rows C u'.length [.str λi=>u'.getD i []] F (c'*1) ty):=by
 subst h;subst hc;refine kg (by simp) rfl rfl λk c c' h1 h2 i hi E=> ?_
 match k,h1,h2 with
 | 0,h1,h2 =>
   injection h1 with h1;injection h2 with h2;subst h1;subst h2;simp only[ak.at,SV.val];rw[rF u s [] i hi];by_cases h:i<u.length
   ·rw[if_pos h,if_pos h]
   ·rw[if_neg h,if_neg h];rfl
 | k+1,h1,_=>simp at h1
theorem PZ (n:Nat)(f g:Nat->List UInt8):aI (n+1) f g=aI n f g++[(f n,g n)]:=by unfold aI;rw[List.range_succ,List.map_append];rfl
theorem BB {r:Rw}(h:r∈ aI n f g): ∃ i,i<n/\r=(f i,g i):=by unfold aI at h;obtain⟨i,hi,rfl⟩:=eM.1 h;exact⟨i,Z.1 hi,rfl⟩
theorem Nz {f g:Nat->List UInt8}: ∀ {n:Nat},(∀ i,i<n->i6 f g i=C)->∀ i,i+1<n->cl (f i) (f (n - 1))=C
 | 0,_,i,hi=>by omega
 | n+1,h,i,hi=>by
   have h1:cl (f (n - 1)) (f n)=true:=by
    have:=h n (fE n);unfold i6 at this;simp only[ax,eP,decide_eq_true_eq] at this;rcases this.2.2 with e | e
    ·omega
    ·exact e
   show cl (f i) (f n)=C;by_cases e:i+1=n
   ·rw[← e] at h1;rw[← e];exact h1
   ·exact Bw (Nz (λj hj=>h j (by omega)) i (by omega)) h1
theorem Dy {f g:Nat->List UInt8}: ∀ {n:Nat},(∀ i,i<n->i6 f g i=C)->(aI n f g).Pairwise λa b=>cl a.1 b.1=C
 | 0,_=>List.Pairwise.nil
 | n+1,h=>by rw[PZ,List.pairwise_append];refine⟨Dy λi hi=>h i (by omega),List.pairwise_singleton _ _,λa ha b hb=> ?_⟩;obtain⟨i,hi,rfl⟩:=BB ha;rw[a!] at hb;subst hb;exact Nz h i (by omega)
theorem ku (h:cJ n f g=0):E8 (aI n f g)/\n<=40:=by
 unfold cJ at h;cases he:HM n f g with
 | false=>rw[he] at h;exact absurd (show(1:Int)=0 from h) (by decide)
 | true =>
   rw[he,cond_true] at h;have hall: ∀ i,i<n->i6 f g i=true:=λi hi=>eR.1 he i (Z.2 hi);refine⟨⟨Dy hall,λx hx=> ?_,λx hx=> ?_⟩,?_⟩
   ·obtain⟨i,hi,rfl⟩:=BB hx;have:=hall i hi;unfold i6 xD at this;simp only[ax,ay,decide_eq_true_eq,decide_eq_false_iff_not] at this;exact⟨this.1.1,by have:=this.1.2;show(f i).length<=6;omega⟩
   ·obtain⟨i,hi,rfl⟩:=BB hx;have:=hall i hi;unfold i6 s6 at this;simp only[ax,ay,decide_eq_true_eq,decide_eq_false_iff_not] at this;exact⟨List.length_pos_iff.2 this.2.1.1,by have:=this.2.1.2;show(g i).length<=80;omega⟩
   ·by_cases h40:(40:Int)<(n:Int)
    ·rw[if_pos h40] at h;exact absurd h (by decide)
    ·omega
theorem O3 (n:Nat)(f g:Nat->List UInt8):cJ n f g=0∨cJ n f g=1∨cJ n f g=12:=by
 unfold cJ;cases HM n f g with
 | false=>exact .inr (.inl rfl)
 | true =>
   rw[cond_true];by_cases h:(40:Int)<(n:Int)
   ·rw[if_pos h];exact .inr (.inr rfl)
   ·rw[if_neg h];exact .inl rfl
theorem SJ (h: ¬ cJ n f g=0)(h1: ¬ cJ n f g=1):cJ n f g=12:=by
 rcases O3 n f g with e | e | e
 ·exact absurd e h
 ·exact absurd e h1
 ·exact e
theorem Aj {v:SV}{k:IntKind}{a b:Int}{l l':Bool}(h:a=b):af (.aO [v,.int k l a]) (.aO [v,.int k l' b]):=by subst h;exact λE=>rfl
theorem sF (n:Nat)(f g:Nat->List UInt8):aI n (λi=>aj (f i)) g=rowsOf (aI n f g):=by unfold aI rowsOf;rw[List.map_map];rfl
theorem gS (h:cJ n f g=0):bV 13 (aI n (λi=>aj (f i)) g):=by rw[sF];exact Dz (ku h).1
theorem Wx (m:Nat)(l:List Rw):(cM m l).length<=m*l.length+1:=by have:=wX m l;unfold cM;rw[eA];omega
theorem I7 (n:Nat)(f g:Nat->List UInt8)(hn:n<9223372036854775808)(z:Bool)(o c:Nat)(key:Option Nat):az (iG Nl 26 er [.bH 0 2 z o 0 n c] [gZ z o c n f g key] (Gt n f g)):=by
 refine az.pr (Yx n f g z o c key) ?_;simp only[c_,S,true_and,and_true,ay,d!,decide_eq_true_eq,decide_eq_false_iff_not];refine⟨hn,λh=>⟨λh'=>absurd h' h,λ_=>⟨λe=>Aj e,λe=>Aj (SJ h e)⟩⟩,λh=> ?_⟩;obtain⟨he,h40⟩:=ku h;have hro:=gS h;have hl:=fh n (λi=>aj (f i)) g;refine⟨⟨by omega,λi hi=> ?_⟩,λc hc=>⟨(aI n (λi=>aj (f i)) g,c),⟨hro,by rw[hl];omega⟩,⟨rfl,rfl⟩,?_,λx hx R=>⟨λy hy=> ?_,?_⟩⟩⟩
 ·have:=(he.key (f i,g i) (by unfold aI;exact eM.2 ⟨i,Z.2 hi,rfl⟩)).2;have:(f i).length<=6:=this;omega
 ·exact oE
 ·have hL:y.L.length<=100000:=hy.1;have hu:=wD y.L.length y.L rfl;obtain⟨c1,c2⟩:=Z1 y.L y.s;have hd:=AF y.L y.s;rw[hd];refine⟨⟨by omega,by omega⟩,λh1=>⟨⟨by omega,by omega⟩,λc hc=>⟨c,?_⟩⟩,λh1=>⟨y.c,?_⟩⟩
  ·rw[← hd] at h1;have hn:y.s∉ aH y.L:=λe=>(Ns y.L y.s).1 h1 ((kX _ _ rfl _).1 e);have e:aH (y.L++[y.s])=aH y.L++[y.s]:=by rw[sX,if_neg hn]
   have el:(aH (y.L++[y.s])).length=(aH y.L).length+1:=by rw[e,V];rfl
   refine⟨by omega,⟨el.symm,rfl⟩,Yl e rfl,?_⟩;rw[← hd];exact Nr _ _
  ·rw[← hd] at h1;have hn:y.s∈ aH y.L:=(kX _ _ rfl _).2 (gh λe=>h1 ((Ns y.L y.s).2 e));have e:aH (y.L++[y.s])=aH y.L:=by rw[sX,if_pos hn]
   refine⟨by rw[e];exact hy.2,⟨by rw[e],rfl⟩,yx e.symm rfl,?_⟩;rw[← hd];exact Nr _ _
 ·have hal:=Wx 13 (aI n (λi=>aj (f i)) g);have ha:([]++cM 13 (aI n (λi=>aj (f i)) g):List (List UInt8)).length<=100000:=by rw[List.nil_append];omega
  refine⟨⟨[],0,x.2,x.1,cM 13 (aI n (λi=>aj (f i)) g)⟩,⟨hx,ha,S _⟩,rfl,rfl,rfl,aa.DK λ_=>rfl,aa.refl _,aa.refl _,aa.refl _,λy hy=>⟨λ_=>⟨y,hy,aa.refl _,λE=>rfl⟩,λh'=>absurd h h'⟩⟩
def HK (z:Bool)(l:List Rw)(c:Nat):SB:=.rows z l.length [bY l,bZ l] F (c*2) 50
def Ny (l:List Rw):cO:=.all Nat λc=>.req (l.length<=c) (.new (λk=>.bx k 2 C 0 l.length c) (HK C l c))
def ew (fr to:List UInt8)(n:Nat)(f g:Nat->List UInt8)(i:Nat):List Rw:=aL fr to ((aI n f g).take i)
noncomputable def ZI (fr to:List UInt8)(n:Nat)(f g:Nat->List UInt8):bg :=
 {α:=Nat×Nat,pre:=λ_ x=>x.1<=n/\(ew fr to n f g x.1).length<=x.2,kY:=λ_ x=>n - x.1,fresh:=1,slots:=λst x=>[(10,.int .i64 F x.1),(5,.bx st.nx 2 C 0 (ew fr to n f g x.1).length x.2)],
  mem:=λst x=>[(st.nx,HK C (ew fr to n f g x.1) x.2)]}
noncomputable def Sb (fr to:List UInt8)(n:Nat)(f g:Nat->List UInt8):fQ:={cv with cQ:=λf=>aD f Gb,bD:=λh=>if h=23 then [(3,always (ZI fr to n f g))] else []}
theorem aad (fr to:List UInt8)(n:Nat)(f g:Nat->List UInt8):Sx.Good Q (Sb fr to n f g):=.of bX xN bw
noncomputable def cj (n:Nat)(f g:Nat->List UInt8):List UInt8:=aG (ctext 13 (aI n (λi=>aj (f i)) g))
noncomputable def Oo (n:Nat)(f g:Nat->List UInt8):cO:=.fork (I (cJ n f g=0)) λb=>match b with
 | true=>.ret (.aO [.str F (cj n f g),.int .i64 C 0])
 | false=>.fork (I (cJ n f g=1)) λb=>match b with
   | true=>.ret (.aO [.str C [],.int .i64 C 1])
   | false=>.ret (.aO [.str C [],.int .i64 C 12])
noncomputable def Sy:fQ:={cv with cQ:=λf=>aD f LH}
theorem aaB:Sx.Good Q Sy:=.of bX D3 bw
theorem Q7 (fr to:List UInt8)(n:Nat)(f g:Nat->List UInt8)(z:Bool)(o c:Nat)(key:Option Nat):dA (.n (.s 0 (.n .k (.n .k .t))) (.n (.s 4 (.n (.s 3 (.n .k (.n (.s 0 .k) (.s 0 (.n .k .t))))) (.s 1 (.n .k (.n (.s 0 .k) (.s 0 (.n .k .t))))))) .k)) (iG (Sb fr to n f g) 23 ep [.bH 0 2 z o 0 n c,.agg [.str F fr,.str F to]] [gZ z o c n f g key] (Ny (aL fr to (aI n f g)))) (((∃(u7:Nat×Nat),(u7.1<=n/\(ew fr to n f g u7.1).length<=u7.2)/\0=(u7.1:Int)/\(ew fr to n f g u7.1).length=0/\(HK C (ew fr to n f g u7.1) u7.2).no=C)/\∀(u6:Nat×Nat),u6.1<=n/\(ew fr to n f g u6.1).length<=u6.2->(I ((u6.1:Int)<(n:Int))=C->(0<=(u6.1:Int)/\(u6.1:Int)<(n:Int))/\(o=o/\0+(u6.1:Int).toNat<n)/\(f (0+(u6.1:Int).toNat)).length<1099511627776/\M (SB.cells [SV.str F fr,SV.str F to] 2 28)=M (SB.cells [SV.str F fr,SV.str F to] 2 28)/\(fr.length<=1000/\to.length<=1000)/\(hasB fr to (aj (f (0+(u6.1:Int).toNat)))=C->(0+(ew fr to n f g u6.1).length<=(ew fr to n f g u6.1).length/\True/\2*((ew fr to n f g u6.1).length+1)*32<=(281474976710656:Nat)/\(ew fr to n f g u6.1).length+1<(9223372036854775808:Nat))/\∀(u5:Nat),(ew fr to n f g u6.1).length+1<=u5->I6 ((u6.1:Int)+1)/\∃(u4:Nat×Nat),((u4.1<=n/\(ew fr to n f g u4.1).length<=u4.2)/\n - u4.1<n - u6.1) /\(u6.1:Int)+1=(u4.1:Int)/\((ew fr to n f g u6.1).length+1=(ew fr to n f g u4.1).length/\u5=u4.2)/\aa (SB.rows C ((ew fr to n f g u6.1).length+1) [ak.str λu3=>if u3<(ew fr to n f g u6.1).length then((ew fr to n f g u6.1).getD u3 ([],[])).1 else bT [f (0+(u6.1:Int).toNat)] (u3 - (ew fr to n f g u6.1).length),ak.str λu2=>if u2<(ew fr to n f g u6.1).length then((ew fr to n f g u6.1).getD u2 ([],[])).2 else bT [g (0+(u6.1:Int).toNat)] (u2 - (ew fr to n f g u6.1).length)] F (u5*2) 50) (SB.rows C (ew fr to n f g u4.1).length [bY (ew fr to n f g u4.1),bZ (ew fr to n f g u4.1)] F (u4.2*2) 50))/\(hasB fr to (aj (f (0+(u6.1:Int).toNat)))=F->I6 ((u6.1:Int)+1)/\∃(u1:Nat×Nat),((u1.1<=n/\(ew fr to n f g u1.1).length<=u1.2)/\n - u1.1<n - u6.1)/\(u6.1:Int)+1=(u1.1:Int)/\((ew fr to n f g u6.1).length=(ew fr to n f g u1.1).length/\u6.2=u1.2) /\aa (SB.rows C (ew fr to n f g u6.1).length [bY (ew fr to n f g u6.1),bZ (ew fr to n f g u6.1)] F (u6.2*2) 50) (SB.rows C (ew fr to n f g u1.1).length [bY (ew fr to n f g u1.1),bZ (ew fr to n f g u1.1)] F (u1.2*2) 50)))/\(I ((u6.1:Int)<(n:Int))=F->∃(u0:Nat),(aL fr to (aI n f g)).length<=u0/\aa (SB.rows C (ew fr to n f g u6.1).length [bY (ew fr to n f g u6.1),bZ (ew fr to n f g u6.1)] F (u6.2*2) 50) (SB.rows C (aL fr to (aI n f g)).length [bY (aL fr to (aI n f g)),bZ (aL fr to (aI n f g))] F (u0*2) 50)/\af (SV.bx ((2:Nat)) 2 C 0 (ew fr to n f g u6.1).length u6.2) (SV.bx ((2:Nat)) 2 C 0 (aL fr to (aI n f g)).length u0)))):=⟨by kernel_rfl,by kernel_rfl⟩
theorem abN (n:Nat)(f g:Nat->List UInt8)(z:Bool)(o c:Nat)(key:Option Nat):dA (.s 3 (.n (.s 0 .k) .k)) (iG Sy 21 en [.bH 0 2 z o 0 n c] [gZ z o c n f g key] (Oo n f g)) (((((z=z/\o=o/\0+n<=n)/\True)/\n<9223372036854775808)/\((!decide (cJ n f g=0))=C->((!decide (cJ n f g=0))=C->(I (cJ n f g=0)=C->af (SV.aO [SV.str C [],SV.int .i64 F (cJ n f g)]) (SV.aO [SV.str F (cj n f g),SV.int .i64 C 0]))/\(I (cJ n f g=0)=F->(I (cJ n f g=1)=C->af (SV.aO [SV.str C [],SV.int .i64 F (cJ n f g)]) (SV.aO [SV.str C [],SV.int .i64 C 1]))/\(I (cJ n f g=1)=F->af (SV.aO [SV.str C [],SV.int .i64 F (cJ n f g)]) (SV.aO [SV.str C [],SV.int .i64 C 12]))))/\((!decide (cJ n f g=0))=F->(True/\Qj [[]])/\(I (cJ n f g=0)=C->af (SV.aO [XO [[]],SV.int .i64 C 0]) (SV.aO [SV.str F (cj n f g),SV.int .i64 C 0]))/\(I (cJ n f g=0)=F->(I (cJ n f g=1)=C->af (SV.aO [XO [[]],SV.int .i64 C 0]) (SV.aO [SV.str C [],SV.int .i64 C 1]))/\(I (cJ n f g=1)=F->af (SV.aO [XO [[]],SV.int .i64 C 0]) (SV.aO [SV.str C [],SV.int .i64 C 12])))))/\((!decide (cJ n f g=0))=F->(((z=z /\o=o/\0+n<=n)/\True)/\n<=1000/\∀(u8:Nat),u8<n->(f u8).length<1099511627776)/\∀(u7:Nat),(aI n (fun(u6:Nat)=>aj (f u6)) g).length<=u7->∃(u5:List Rw×Nat),(bV 13 u5.1/\u5.1.length<=1000/\(13:Nat)<=(13:Nat))/\((aI n (fun(u4:Nat)=>aj (f u4)) g).length=u5.1.length/\u7=u5.2)/\aa (SB.rows F (aI n (fun(u3:Nat)=>aj (f u3)) g).length [bY (aI n (fun(u2:Nat)=>aj (f u2)) g),bZ (aI n (fun(u1:Nat)=>aj (f u1)) g)] F (u7*2) 174) (SB.rows F u5.1.length [bY u5.1,bZ u5.1] C (u5.2*2) 174)/\∀(u0:Nat×Pd),Told u0.2 14 u0.1 (cM 13 u5.1)->u0.2.D u0.1=C/\(True/\Qj [u0.2.cR u0.1])/\(I (cJ n f g=0)=C->af (SV.aO [XO [u0.2.cR u0.1],SV.int .i64 C 0]) (SV.aO [SV.str F (cj n f g),SV.int .i64 C 0]))/\(I (cJ n f g=0)=F->(I (cJ n f g=1)=C->af (SV.aO [XO [u0.2.cR u0.1],SV.int .i64 C 0]) (SV.aO [SV.str C [],SV.int .i64 C 1]))/\(I (cJ n f g=1)=F ->af (SV.aO [XO [u0.2.cR u0.1],SV.int .i64 C 0]) (SV.aO [SV.str C [],SV.int .i64 C 12])))))):=⟨by kernel_rfl,by kernel_rfl⟩
theorem Ee (hi:i<n):(aI n f g).take (i+1)=(aI n f g).take i++[(f i,g i)]:=by have hl:=fh n f g;rw[yq (by omega)];rw[BA hi]
theorem WN {fr to:List UInt8}(hi:i<n)(h:hasB fr to (aj (f i))=C):ew fr to n f g (i+1)=ew fr to n f g i++[(f i,g i)]:=by unfold ew aL;rw[Ee hi,eW];congr 1;rw[e5,h];rfl
theorem ZU {fr to:List UInt8}(hi:i<n)(h:hasB fr to (aj (f i))=F):ew fr to n f g (i+1)=ew fr to n f g i:=by unfold ew aL;rw[Ee hi,eW,e5,h];simp
theorem WM (fr to:List UInt8)(n:Nat)(f g:Nat->List UInt8)(i:Nat):(ew fr to n f g i).length<=n:=by
 have h1:=List.length_filter_le (λe:List UInt8×List UInt8=>hasB fr to (aj e.1)) ((aI n f g).take i);have h2:((aI n f g).take i).length<=(aI n f g).length:=by rw[List.length_take];omega
 rw[fh] at h2;unfold ew aL;omega
theorem WK (fr to:List UInt8)(n:Nat)(f g:Nat->List UInt8)(i:Nat)(hi:n<=i):ew fr to n f g i=aL fr to (aI n f g):=by unfold ew;rw[e! (by rw[fh];exact hi)]
theorem HL {z:Bool}{l':List Rw}(h:l=l')(hc:c=c'):aa (HK z l c) (HK z l' c'):=by subst h;subst hc;exact aa.refl _
theorem S2 {l':List Rw}{a b:List UInt8}(h:l'=l++[(a,b)])(hc:c=c'):aa (.rows C (l.length+1) [.str λj=>if j<l.length then(l.getD j ([],[])).1 else bT [a] (j - l.length),.str λj=>if j<l.length then(l.getD j ([],[])).2 else bT [b] (j - l.length)] F (c*2) ty) (.rows C l'.length [bY l',bZ l'] F (c'*2) ty):=by subst h;subst hc;exact Ou (r:=(a,b))
theorem CT (fr to:List UInt8)(n:Nat)(f g:Nat->List UInt8)(hn:n<=1000)(hf: ∀ i,i<n->(f i).length<1099511627776)(hr:fr.length<=1000)(ht:to.length<=1000)(z:Bool)(o c:Nat)(key:Option Nat):az (iG (Sb fr to n f g) 23 ep [.bH 0 2 z o 0 n c,.agg [.str F fr,.str F to]] [gZ z o c n f g key] (Ny (aL fr to (aI n f g)))):=by
 refine az.pr (Q7 fr to n f g z o c key) ?_;simp only[Int.toNat_natCast,c_,S,true_and,decide_eq_true_eq,decide_eq_false_iff_not];refine⟨⟨(0,0),⟨c! _,S _⟩,rfl,rfl,rfl⟩,λx ⟨h1,h2⟩=>⟨λh=> ?_,λh=> ?_⟩⟩
 ·obtain⟨i,c⟩:=x;have hlt:i<n:=by omega
  have hl:(ew fr to n f g (i,c).fst).length<=n:=WM fr to n f g i;have hlt:(i,c).fst<n:=hlt;refine⟨by omega,hlt,hf i hlt,⟨hr,ht⟩,λhb=>⟨⟨by omega,by omega⟩,λc' hc'=>⟨⟨by omega,by omega⟩,(i+1,c'),?_⟩⟩,λhb=>⟨⟨by omega,by omega⟩,(i+1,c),?_⟩⟩
  ·have e:=WN (g:=g) hlt hb;have el:(ew fr to n f g (i+1)).length=(ew fr to n f g i).length+1:=by rw[e,V];rfl
   exact⟨⟨⟨by omega,by show _<=c';rw[el];exact hc'⟩,by show n - (i+1)<n - i;omega⟩,by show(i:Int)+1=((i+1:Nat):Int);omega,⟨el.symm,rfl⟩,S2 e rfl⟩
  ·have e:=ZU (g:=g) hlt hb;exact⟨⟨⟨by omega,by show(ew fr to n f g (i+1)).length<=c;rw[e];exact h2⟩,by show n - (i+1)<n - i;omega⟩,by show(i:Int)+1=((i+1:Nat):Int);omega,⟨congrArg ez e.symm,rfl⟩,HL (z:=C) e.symm rfl⟩
 ·obtain⟨i,c⟩:=x;have e:=WK fr to n f g i (by omega);exact⟨c,by rw[← e];exact h2,HL (z:=C) e rfl,ye rfl (congrArg ez e) rfl⟩
theorem S3 (l:List Rw):(Ny l).Ok:=λ_=>⟨rfl,rfl,λk=>by
 show bf k (k+1)=C;rw[an];omega,λE E' k k' h=>by
 cases l with
 | nil=>rfl
 | cons a r =>show(SV.bx k 2 C 0 (a::r).length _).val E=(SV.bx k' 2 C 0 (a::r).length _).val E';have:=h (SB.iN (i:=0) (f_ _));simp only[SV.val];rw[this]⟩
def abw:List tq:=[.of (.slice dE),.agg [.one,.one]]
def zM (vs:List SV)(l:List Seen):Option (Prop×cO):=match vs,l with
 | [_,.agg [.str F fr,.str F to]],[⟨_,_,_,n,_,[.str f,.str g]⟩]=>M (n<=1000/\(∀ i,i<n->(f i).length<1099511627776)/\fr.length<=1000/\to.length<=1000,Ny (aL fr to (aI n f g)))
 | _,_=>J
theorem Av:av Q 23 (bS abw zM):=by
 refine gp (n:=20) (fn:=ep) Tryz.func23 (by kernel_rfl) (by kernel_rfl) ?_;intro vs l q a h hq;unfold zM at h;split at h
 ·rename_i v fr to key z o n c f g;injection h with h;injection h with h1 h2;subst h1;subst h2;exact⟨_,aad fr to n f g,rfl,S3 _,CT fr to n f g hq.1 hq.2.1 hq.2.2.1 hq.2.2.2 z o c key⟩
 ·cases h
theorem HC (h:bV 13 l):(ctext 13 l).length<=700:=by
 cases l with
 | nil=>show(cS dO).length<=700;decide +kernel
 | cons r l=>exact lD (S _) h (List.cons_ne_nil _ _)
theorem Ms (n:Nat)(f g:Nat->List UInt8)(hn:n<9223372036854775808)(z:Bool)(o c:Nat)(key:Option Nat):az (iG Sy 21 en [.bH 0 2 z o 0 n c] [gZ z o c n f g key] (Oo n f g)):=by
 refine az.pr (abN n f g z o c key) ?_;simp only[c_,S,true_and,and_true,ay,d!,decide_eq_true_eq,decide_eq_false_iff_not];refine⟨hn,λh=>⟨λ_=>⟨λh'=>absurd h' h,λ_=>⟨λe=>Aj e,λe=>Aj (SJ h e)⟩⟩,λh'=>absurd h' h⟩,λh=> ?_⟩;obtain⟨he,h40⟩:=ku h;have hro:=gS h;have hl:=fh n (λi=>aj (f i)) g;refine⟨⟨by omega,λi hi=> ?_⟩,λc hc=>⟨(aI n (λi=>aj (f i)) g,c),⟨hro,by rw[hl];omega⟩,⟨rfl,rfl⟩,oE,λx hx=> ?_⟩⟩
 ·have:=(he.key (f i,g i) (by unfold aI;exact eM.2 ⟨i,Z.2 hi,rfl⟩)).2;have:(f i).length<=6:=this;omega
 ·obtain⟨_,_,hb3,hb4⟩:=CO hx;have ht:x.2.cR x.1=ctext 13 (aI n (λi=>aj (f i)) g):=by injection hb3 with e _;exact e.symm
  rw[ht];have h7:(ctext 13 (aI n (λi=>aj (f i)) g)).length<=700:=HC hro;have ef:flat [ctext 13 (aI n (λi=>aj (f i)) g)]=ctext 13 (aI n (λi=>aj (f i)) g):=by unfold flat;simp
  refine⟨hb4,⟨by rw[ef];omega,by show 1<_;decide⟩,λ_=> ?_,λh'=>absurd h h'⟩;intro E;unfold XO cj;rw[ef]
noncomputable def Cg (vs:List SV)(l:List Seen):Option (Prop×cO):=match vs,l with
 | [_],[⟨_,_,_,n,_,[.str f,.str g]⟩]=>M (n<9223372036854775808,Oo n f g)
 | _,_=>J
theorem Va (n:Nat)(f g:Nat->List UInt8):(Oo n f g).Ok:=λb=>by
 cases b with
 | true=>rfl
 | false=>intro b;cases b<;>rfl
theorem X9:av Q 21 (bS Ws Cg):=by
 refine gp (n:=20) (fn:=en) Tryz.func21 (by kernel_rfl) (by kernel_rfl) ?_;intro vs l q a h hq;unfold Cg at h;split at h
 ·rename_i v key z o n c f g;injection h with h;injection h with h1 h2;subst h1;subst h2;exact⟨_,aaB,rfl,Va n f g,Ms n f g hq z o c key⟩
 ·cases h
def xX (vs:List SV)(l:List Seen):Option (Prop×cO):=match vs,l with
 | [_],[⟨_,_,_,n,_,[.str f,.str g]⟩]=>M (n<9223372036854775808,Gt n f g)
 | _,_=>J
theorem Qi (n:Nat)(f g:Nat->List UInt8):(Gt n f g).Ok:=λb=>by
 cases b with
 | false=>intro b;cases b<;>rfl
 | true =>
   intro c;refine⟨rfl,rfl,λk=>by simp[SV.wf,SV.fO,an],λE E' k k' h=> ?_⟩;simp only[SV.val,SV.vals];cases e:aH (cM 13 (aI n (λi=>aj (f i)) g))with
   | nil=>rfl
   | cons a r=>rw[h (by rw[e];exact SB.iN (i:=0) (f_ _))]
theorem Uz:av Q 26 (bS Ws xX):=by
 refine gp (n:=20) (fn:=er) Tryz.func26 (by kernel_rfl) (by kernel_rfl) ?_;intro vs l q a h hq;unfold xX at h;split at h
 ·rename_i v key z o n c f g;injection h with h;injection h with h1 h2;subst h1;subst h2;exact⟨_,aav,rfl,Qi n f g,I7 n f g hq z o c key⟩
 ·cases h
structure HoG where
 n:Nat
 f:Nat->List UInt8
 g:Nat->List UInt8
 z:Bool
 o:Nat
 c:Nat
noncomputable def m5 (n:Nat)(f g:Nat->List UInt8):List (List UInt8):=aH (cM 13 (aI n (λi=>aj (f i)) g))
noncomputable def iM (n:Nat)(f g:Nat->List UInt8)(q:Nat):List UInt8:=(m5 n f g).getD q []
noncomputable def Bb (n:Nat)(f g:Nat->List UInt8):Bool:=o7 n f g&&(I (cJ n f g=0)&&fT (m5 n f g).length (iM n f g))
noncomputable def nB:gD :=
 {G:=HoG,n:=1,N:=4,pre:=λx=>x.n<9223372036854775808,args:=λx=>[.bH 0 2 x.z x.o 0 x.n x.c],mem:=λx=>[(0,.view x.z x.o x.n [.str x.f,.str x.g])],
  uT:=λx=>.fork (Bb x.n x.f x.g) λb=>match b with
   | true=>.all tM λy=>.req (qo (m5 x.n x.f x.g).length (iM x.n x.f x.g) (aG (iM x.n x.f x.g 0)) y) (.ret (.aO [.ptr 1 C 0,.str F (aG (iM x.n x.f x.g 0))]) [(1,fq 2000 2),(2,.fmap (cG y.Fr) (.ref 3 y.g) J),(3,y.A.bare)])
   | false=>.ret (.aO [.bW,.str C []]) []}
noncomputable def NW:List (FuncId×PT):=(19,bS Ws AQ)::(26,bS Ws xX)::(45,bS shT wV)::(46,cF OR)::fY
theorem LC:bt Q (λf=>aD f NW):=.cons W5 (cz _ _) (.cons Uz (cz _ _) (.cons RL (cz _ _) (.cons Zz (cc _) cZ)))
noncomputable def KI:fQ:={cv with cQ:=λf=>aD f NW}
theorem NJ:Sx.Good Q KI:=.of bX LC bw
theorem Yt (x:HoG):dA (.s 1 (.n (.s 4 (.n (.s 0 .k) (.s 1 (.n .k (.s 0 (.n .k (.n (.s 1 (.n .k (.s 0 .k))) .t))))))) .t)) (runM KI 12 ej nB x) (((((x.z=x.z/\x.o=x.o/\0+x.n<=x.n)/\True)/\True)/\(((x.z=x.z/\x.o=x.o/\0+x.n<=x.n)/\True)/\x.n<9223372036854775808)/\(I (cJ x.n x.f x.g=0)=C->∀(u38:Nat),(aH (cM 13 (aI x.n (fun(u37:Nat)=>aj (x.f u37)) x.g))).length<=u38->(((C=C/\0+(aH (cM 13 (aI x.n (fun(u36:Nat)=>aj (x.f u36)) x.g))).length<=(aH (cM 13 (aI x.n (fun(u35:Nat)=>aj (x.f u35)) x.g))).length)/\True)/\(aH (cM 13 (aI x.n (fun(u34:Nat)=>aj (x.f u34)) x.g))).length<=100000/\∀(u33:Nat),u33<(aH (cM 13 (aI x.n (fun(u32:Nat)=>aj (x.f u32)) x.g))).length->((aH (cM 13 (aI x.n (fun(u31:Nat)=>aj (x.f u31)) x.g))).getD u33 []).length<1099511627776)/\((!o7 x.n x.f x.g)=C->Bb x.n x.f x.g=C->∃(u30:tM),qo (m5 x.n x.f x.g).length (iM x.n x.f x.g) (aG (iM x.n x.f x.g 0)) u30/\False)/\((!o7 x.n x.f x.g)=F->((!fT (aH (cM 13 (aI x.n (fun(u29:Nat)=>aj (x.f u29)) x.g))).length fun(u28:Nat)=>(aH (cM 13 (aI x.n (fun(u27:Nat)=>aj (x.f u27)) x.g))).getD u28 [])=C->Bb x.n x.f x.g=C ->∃(u26:tM),qo (m5 x.n x.f x.g).length (iM x.n x.f x.g) (aG (iM x.n x.f x.g 0)) u26/\False)/\((!fT (aH (cM 13 (aI x.n (fun(u25:Nat)=>aj (x.f u25)) x.g))).length fun(u24:Nat)=>(aH (cM 13 (aI x.n (fun(u23:Nat)=>aj (x.f u23)) x.g))).getD u24 [])=F->∃(u22:AdG),(0<u22.n/\u22.n<=1000/\(u22.n:Int)<=u22.room/\u22.room<=1000000/\(∀(u21:Nat),u21<u22.n->(u22.f u21).length<=1000)/\ni u22.n u22.f=C/\Clo u22.n u22.f)/\((aH (cM 13 (aI x.n (fun(u20:Nat)=>aj (x.f u20)) x.g))).length=u22.n/\u38=u22.c)/\2000=u22.room/\aa (SB.rows C (aH (cM 13 (aI x.n (fun(u19:Nat)=>aj (x.f u19)) x.g))).length [ak.str λu18=>(aH (cM 13 (aI x.n (fun(u17:Nat)=>aj (x.f u17)) x.g))).getD u18 []] F (u38*1) 9) (SB.rows C u22.n [ak.str u22.f] C (u22.c*1) 9)/\∀(u16:tM),qo u22.n u22.f (aG (u22.f 0)) u16->(Bb x.n x.f x.g=C->∃(u15:tM),qo (m5 x.n x.f x.g).length (iM x.n x.f x.g) (aG (iM x.n x.f x.g 0)) u15/\aG (u22.f 0)=aG (iM x.n x.f x.g 0)/\u22.room=2000 /\aa (SB.fmap (cG u16.Fr) (aC.aJ (jF 3 (jq 0 [((3:Nat),SB.cells (SV.agg (aM (aM [SV.int .i64 C 0,SV.fI] 0 (SV.int .i64 (C&&C) 2000).cells) 1 (SV.map 2).cells)).cells 2 126),((2:Nat),SB.map [] 0),((1:Nat),SB.rows C (aH (cM 13 (aI x.n (fun(u14:Nat)=>aj (x.f u14)) x.g))).length [ak.str λu13=>(aH (cM 13 (aI x.n (fun(u12:Nat)=>aj (x.f u12)) x.g))).getD u13 []] F (u38*1) 9),((0:Nat),SB.view x.z x.o x.n [ak.str x.f,ak.str x.g])] (SB.rows C u22.n [ak.str u22.f] C (u22.c*1) 9) (SB.rows C (aH (cM 13 (aI x.n (fun(u11:Nat)=>aj (x.f u11)) x.g))).length [ak.str λu10=>(aH (cM 13 (aI x.n (fun(u9:Nat)=>aj (x.f u9)) x.g))).getD u10 []] F (u38*1) 9) (jq 0 [((3:Nat),SB.cells (SV.agg (aM (aM [SV.int .i64 C 0,SV.fI] 0 (SV.int .i64 (C&&C) 2000).cells) 1 (SV.map 2).cells)).cells 2 126),((2:Nat),SB.map [] 0),((1:Nat),SB.rows C (aH (cM 13 (aI x.n (fun(u8:Nat)=>aj (x.f u8)) x.g))).length [ak.str λu7=>(aH (cM 13 (aI x.n (fun(u6:Nat)=>aj (x.f u6)) x.g))).getD u7 []] F (u38*1) 9),((0:Nat),SB.view x.z x.o x.n [ak.str x.f,ak.str x.g])] (SB.map [] 0) (SB.map [] 0) [((1:Nat),(2:Nat)),((2:Nat),(1:Nat)),((0:Nat),(3:Nat))])) 4) (aC.ref 3 u16.g)) J) (SB.fmap (cG u15.Fr) (aC.ref 3 u15.g) J) /\aa (SB.dV u16.A.D [ak.str u16.A.cR] 4 133 F) (SB.dV u15.A.D [ak.str u15.A.cR] 4 133 F))/\(Bb x.n x.f x.g=F->False))))/\(I (cJ x.n x.f x.g=0)=F->(I (cJ x.n x.f x.g=1)=C->((True/\True)/\(0:Nat)<=(100000:Nat)/\∀(u5:Nat),u5<0->(0:Nat)<(1099511627776:Nat))/\((!o7 x.n x.f x.g)=C->Bb x.n x.f x.g=C->∃(u4:tM),qo (m5 x.n x.f x.g).length (iM x.n x.f x.g) (aG (iM x.n x.f x.g 0)) u4/\False)/\((!o7 x.n x.f x.g)=F->Bb x.n x.f x.g=C->∃(u3:tM),qo (m5 x.n x.f x.g).length (iM x.n x.f x.g) (aG (iM x.n x.f x.g 0)) u3/\False))/\(I (cJ x.n x.f x.g=1)=F->((True/\True)/\(0:Nat)<=(100000:Nat)/\∀(u2:Nat),u2<0->(0:Nat)<(1099511627776:Nat))/\((!o7 x.n x.f x.g)=C->Bb x.n x.f x.g=C->∃(u1:tM),qo (m5 x.n x.f x.g).length (iM x.n x.f x.g) (aG (iM x.n x.f x.g 0)) u1/\False)/\((!o7 x.n x.f x.g)=F->Bb x.n x.f x.g=C->∃(u0:tM),qo (m5 x.n x.f x.g).length (iM x.n x.f x.g) (aG (iM x.n x.f x.g 0)) u0/\False))))):=⟨by kernel_rfl,by kernel_rfl⟩
structure Zu (n:Nat)(f g:Nat->List UInt8):Prop where
 pos:0<(m5 n f g).length
 le:(m5 n f g).length<=1000
 len: ∀ i,i<(m5 n f g).length->(iM n f g i).length<=1000
 read:ni (m5 n f g).length (iM n f g)=C
 clo:fT (m5 n f g).length (iM n f g)=C->Clo (m5 n f g).length (iM n f g)
theorem yY (H: ∀ n f g,cJ n f g=0->Zu n f g)(x:HoG)(hx:nB.pre x):az (runM KI 12 ej nB x):=by
 refine az.pr (Yt x) ?_;have hx:x.n<9223372036854775808:=hx;have no0: ∀ {P:Prop},cJ x.n x.f x.g≠0->Bb x.n x.f x.g=C->P:=λh e=>by unfold Bb at e;rw[decide_eq_false h,eN,d_] at e;cases e
 have no1: ∀ {P:Prop},o7 x.n x.f x.g=F->Bb x.n x.f x.g=C->P:=λh e=>by unfold Bb at e;rw[h,eN] at e;cases e
 simp only[c_,S,true_and,and_true,decide_eq_true_eq,decide_eq_false_iff_not,ay,d!];refine⟨hx,λh0 c hc=> ?_,λh0=>⟨λ_=>⟨⟨c! _,λi hi=>absurd hi (b! _)⟩,λ_=>no0 h0,λ_=>no0 h0⟩,λ_=>⟨⟨c! _,λi hi=>absurd hi (b! _)⟩,λ_=>no0 h0,λ_=>no0 h0⟩⟩⟩;have hH:=H _ _ _ h0;have e1:aH (cM 13 (aI x.n (λi=>aj (x.f i)) x.g))=m5 x.n x.f x.g:=rfl;have e2:(λi=>(m5 x.n x.f x.g).getD i [])=iM x.n x.f x.g:=rfl;rw[e1];have hle:=hH.le;refine⟨⟨by omega,λi hi=>Nat.lt_of_le_of_lt (hH.len i hi) (by decide)⟩,λhf=>no1 hf,λhf=>⟨λha e=> ?_,λha=>⟨⟨(m5 x.n x.f x.g).length,iM x.n x.f x.g,c,2000⟩,⟨hH.pos,hH.le,by show((m5 x.n x.f x.g).length:Int)<=2000;omega,by show(2000:Int)<=1000000;decide,hH.len,hH.read,hH.clo ha⟩,⟨rfl,rfl⟩,rfl,?_,λy hy=>⟨λ_=>⟨y,hy,rfl,rfl,aa.fmap (λ_=>rfl) (λ_=>rfl),aa.refl _⟩,λe=> ?_⟩⟩⟩⟩
 ·have ha:fT (m5 x.n x.f x.g).length (iM x.n x.f x.g)=false:=ha;unfold Bb at e;rw[ha,d_,d_] at e;cases e
 ·exact oE
 ·have ha:fT (m5 x.n x.f x.g).length (iM x.n x.f x.g)=true:=ha;unfold Bb at e;rw[hf,decide_eq_true h0,ha] at e;cases e
theorem TB (H: ∀ n f g,cJ n f g=0->Zu n f g):av Q 12 (cF nB) :=fH (n:=20) (fn:=ej) Tryz.func12 (by kernel_rfl) (by kernel_rfl) nB λx hx=>⟨_,NJ,rfl,yY H x hx⟩
theorem A5 (r:Nat->List UInt8): ∀ k j,j<aV r k->∃ i,i<k/\aQ (r i)=C/\cU r k j=ai (r i)
 | 0,_,h=>absurd h (b! _)
 | k+1,j,h=>by
   simp only[aV,cU] at h ⊢;cases hb:aQ (r k)with
   | false =>rw[hb] at h;obtain⟨i,h1,h2,h3⟩:=A5 r k j h;exact⟨i,by omega,h2,h3⟩
   | true =>
     rw[hb] at h;have h:j<aV r k+1:=h;by_cases e:j=aV r k
     ·exact⟨k,by omega,hb,by rw[cond_true,if_pos e]⟩
     ·obtain⟨i,h1,h2,h3⟩:=A5 r k j (by omega);exact⟨i,by omega,h2,by rw[cond_true,if_neg e];exact h3⟩
theorem Au: ∀(m:Nat) (l:List Rw),bV m l->∀ t,t∈ cr m l->∃ m' l',m'<m/\bV m' l'/\l'≠[]/\t=ctext m' l'/\∀ u,u∈ cr m' l'->u∈ cr m l
 | 0,_,_,t,h=>by cases h
 | m+1,l,hl,t,h=>by
   unfold cr at h;obtain⟨i,hi,h⟩:=eL.1 h;by_cases e:aB l i=[]
   ·rw[if_pos e] at h;cases h
   ·rw[if_neg e] at h;have up: ∀ u,u∈ cr m (aB l i)->u∈ cr (m+1) l:=λu hu=>by unfold cr;exact eL.2 ⟨i,hi,by rw[if_neg e];exact List.mem_append_right _ hu⟩
    rcases a_.1 h with h | h
    ·by_cases s:(ctext m (aB l i)).length<32
     ·rw[if_pos s] at h;cases h
     ·rw[if_neg s,a!] at h;exact⟨m,aB l i,fE _,fD hl i,e,h,up⟩
    ·obtain⟨m',l',h1,h2,h3,h4,h5⟩:=Au m (aB l i) (fD hl i) t h;exact⟨m',l',by omega,h2,h3,h4,λu hu=>up u (h5 u hu)⟩
theorem Qu {m:Nat}(hm:m<=13)(h:bV m l)(hl:l≠[]){j:Nat}(hj:j<gz (ctext m l)): ∃ u,u∈ cr m l/\eY (ctext m l) j=aG u:=by
 unfold gz at hj;unfold eY;rw[eD (dg hm h hl)] at hj ⊢;obtain⟨i,hi,hb,e⟩:=A5 _ 16 j hj
 match m,h with
 | 0,h =>
   match l,hl,h with
   | r::_,_,h=>exact absurd (h.len r (eC ..)) (b! _)
 | m+1,h =>
   rw[lC m l hi] at hb e;by_cases k0:aB l i=[]
   ·rw[if_pos k0] at hb;cases hb
   ·rw[if_neg k0] at hb e;by_cases s:(ctext m (aB l i)).length<32
    ·have:=kH hb;unfold dZ at this;rw[if_pos s] at this;omega
    ·refine⟨ctext m (aB l i),?_,e.trans (gJ s).2.1⟩;unfold cr;refine eL.2 ⟨i,Z.2 hi,?_⟩;rw[if_neg k0,if_neg s];exact List.mem_append_left _ (a!.2 rfl)
theorem lE (h:bV 13 l){t:List UInt8}(ht:t∈ cM 13 l):aY t=C/\t.length<=700/\∀ j,j<gz t->∃ u,u∈ cM 13 l/\eY t j=aG u:=by
 have one: ∀ m l',m<=13->bV m l'->l'≠[]->t=ctext m l'->(∀ u,u∈ cr m l'->u∈ cM 13 l)->aY t=C/\t.length<=700/\∀ j,j<gz t->∃ u,u∈ cM 13 l/\eY t j=aG u:=λm l' hm h' hne e up=>by subst e;refine⟨(gr (dg hm h' hne)).1,lD hm h' hne,λj hj=> ?_⟩;obtain⟨u,hu,e⟩:=Qu hm h' hne hj;exact⟨u,up u hu,e⟩
 unfold cM at ht;rcases eB.1 ht with e | hb
 ·by_cases hl:l=[]
  ·subst hl;have e:t=cS dO:=e;subst e;have h0:gz (cS dO)=0:=by decide +kernel
   exact⟨by decide +kernel,by decide +kernel,λj hj=>by rw[h0] at hj;exact absurd hj (b! _)⟩
  ·exact one 13 l (S _) h hl e λu hu=>e_ _ hu
 ·obtain⟨m',l',h1,h2,h3,h4,h5⟩:=Au 13 l h t hb;exact one m' l' (by omega) h2 h3 h4 λu hu=>e_ _ (h5 u hu)
theorem Y6 (h:cJ n f g=0):Zu n f g:=by
 have hr:=gS h;have hin: ∀ i,i<(m5 n f g).length->iM n f g i∈ cM 13 (aI n (λi=>aj (f i)) g):=λi hi=>(kX _ _ rfl _).1 (tV hi);have at': ∀ u,u∈ cM 13 (aI n (λi=>aj (f i)) g)->∃ q,q<(m5 n f g).length/\iM n f g q=u:=λu hu=>by obtain⟨q,hq,e⟩:=List.getElem_of_mem ((kX _ _ rfl _).2 hu);refine⟨q,hq,?_⟩;show(aH _).getD q []=u;rw[List.getD_eq_getElem?_getD,eu hq];exact e
 refine⟨?_,?_,λi hi=>c5 (lE hr (hin i hi)).2.1 (by decide),?_,λ_ k hk j hj=> ?_⟩
 ·obtain⟨q,hq,_⟩:=at' _ (eC ..);omega
 ·have h1:=wD _ (cM 13 (aI n (λi=>aj (f i)) g)) rfl;have h2:=wX 13 (aI n (λi=>aj (f i)) g);have h3:=(ku h).2;rw[fh] at h2;have h4:(cM 13 (aI n (λi=>aj (f i)) g)).length=(cr 13 (aI n (λi=>aj (f i)) g)).length+1:=rfl;unfold m5;omega
 ·unfold ni;exact eR.2 λi hi=>(lE hr (hin i (Z.1 hi))).1
 ·obtain⟨g1,g2,_⟩:=gT _ _ k hk;obtain⟨u,hu,e⟩:=(lE hr (hin (cB (iM n f g) (m5 n f g).length k).toNat (by omega))).2.2 j hj;obtain⟨q,hq,rfl⟩:=at' u hu;unfold qq;rw[e];exact qK _ _ q hq
theorem TC:av Q 12 (cF nB):=TB λ_ _ _ h=>Y6 h
end
end Go.Proofs.YtoibaecagklkaaaGreatDoor
