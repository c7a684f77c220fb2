/-
  The framework's part 31: calls that reach blocks at keys of their own (what a range over a function has in scope), and what they hold behind it.
-/
import Derived.Test.YtoibaecagklkaaaGreatDoorMp
import Derived.Test.YtoibaecagklkaaaGreatDoorMu
import Derived.Test.YtoibaecagklkaaaGreatDoorMs
open Bool renaming and_eq_true->ay,and_false->c8,false->F,false_and->eC,not_eq_false'->c9,not_eq_true'->aK,or_eq_true->eL,true->C
open Decidable renaming byContradiction->fo,decide->I
open Go.IntKind renaming i64->O
open Go.Op renaming bytesLess->cl
open Go.Proofs.Tryz renaming f107->c_,f12->c!,f21->d_,f23->d!,f26->ei,prog->Q
open List renaming all_eq_true->eN,dropLast_concat_getLast->eP,filter_append->eR,filter_cons->eT,flatten_append->eW,getElem?_eq_getElem->ej,length->en,length_append->V,length_cons->er,length_eq_zero_iff->e5,mem_append->a_,mem_cons->eu,mem_cons_of_mem->e6,mem_cons_self->ez,mem_flatMap->eA,mem_map->eB,mem_range->Z,mem_singleton->a!,take_of_length_le->e7
open Nat renaming beq->ag,ble->W,blt->bf,blt_eq->an,eq_of_beq_eq_true->c4,le_add_right->e_,le_of_ble_eq_true->e!,le_refl->S,le_trans->c5,lt_of_lt_of_le->b_,lt_succ_self->fl,not_lt_zero->b!,succ_pos->fm,zero_add->c6,zero_le->c7
open Option renaming none->J,some->M
namespace Go.Proofs.YtoibaecagklkaaaGreatDoor.Sx
open Go
noncomputable section
def ij (N nx k:Nat):Nat:=match bf k N with
 | true=>k
 | false=>nx+k
structure lM where
 G:Type
 N:Nat
 H:Nat
 pre:G->Prop
 args:G->List SV
 mem:G->Mem
 val:G->SV
 B:Type
 post:G->B->Prop
 back:G->B->Mem
def Eb (H:Nat):Mem->Bool
 | []=>C
 | e::r=>bf e.1 H&&Eb H r
theorem xS {H:Nat}: ∀ {m:Mem} {k:Nat} {B:SB},Eb H m=C->m.get k=M B->k<H
 | [],_,_,_,h=>by cases h
 | e::r,k,B,hb,h=>by
   simp only[Eb,ay,an] at hb;by_cases he:e.1=k
   ·rw[← he];exact hb.1
   ·rw[Mem.get,if_neg he] at h;exact xS hb.2 h
def wM:SV->Option Nat
 | .yield k=>M k
 | _=>J
theorem zF {v:SV}{k:Nat}(h:wM v=M k):v=.yield k:=by
 unfold wM at h;split at h
 ·injection h with h;rw[h]
 ·cases h
def gk (base:Nat):List SV->List SV->Ren->(Ren->VC)->VC
 | [],[],aJ,t=>t aJ
 | h::hs,u::us,aJ,t=>(match wM h,wM u with
   | some a,M b=>(match ag a b,bf a base with
     | true,C=>gk base hs us aJ t
     | _,_=>.fail "call: another yield")
   | _,_=>rz base aJ h u (λaJ=>gk base hs us aJ t))
 | _,_,_,_=>.fail "call: so many arguments"
theorem kY {base:Nat}: ∀ {hs us:List SV} {aJ:Ren} {t:Ren->VC},(gk base hs us aJ t).holds ->
  ∃ ren',aJ.le ren'/\(t ren').holds/\∀ ren'' (E:Nat->Nat),ren'.le ren''->SV.vals (Ren.E base ren'' E) hs=SV.vals E us
 | [],[],aJ,t,h=>⟨aJ,Ren.le_refl _,h,λ_ _ _=>rfl⟩
 | h::hs,u::us,aJ,t,hh=>by
   simp only[gk] at hh;split at hh
   ·rename_i a b ha hb;split at hh
    ·rename_i e1 e2;obtain rfl:=c4 e1;have e2:a<base:=by simpa [an] using e2
     obtain⟨r2,g1,g2,g3⟩:=kY hh;refine⟨r2,g1,g2,λr'' E hle=> ?_⟩;rw[zF ha,zF hb];simp only[SV.vals,SV.val,g3 r'' E hle,Ren.yM e2]
    ·exact hh.elim
   ·obtain⟨r1,h1,h2,h3⟩:=pO hh;obtain⟨r2,g1,g2,g3⟩:=kY h2;exact⟨r2,Ren.le_trans h1 g1,g2,λr'' E hle=>by simp only[SV.vals];rw[h3 r'' E (Ren.le_trans g1 hle),g3 r'' E hle]⟩
 | [],_::_,_,_,h=>h.elim
 | _::_,[],_,_,h=>h.elim
theorem mj {base:Nat}: ∀ {a b:List SV} {aJ:Ren} {t t':Ren->VC},(∀ r,(t r).holds->(t' r).holds)->(gk base a b aJ t).holds->(gk base a b aJ t').holds
 | [],[],_,_,_,ht,h=>ht _ h
 | x::a,y::b,aJ,t,t',ht,h=>by
   simp only[gk] at h ⊢;split at h
   ·split at h
    ·exact mj ht h
    ·exact h.elim
   ·exact zl (λ_ h=>mj ht h) h
 | [],_::_,_,_,_,_,h=>h.elim
 | _::_,[],_,_,_,_,h=>h.elim
def lM.ok (c:lM)(x:c.G):Bool:=W c.N c.H&&(Eb c.H (c.mem x)&&(Mem.wf c.H (c.mem x)&&SV.fH c.H (c.args x)))
def lM.qK (c:lM)(x:c.G)(nx:Nat)(K:SV->Mem->Nat->VC):VC:=.all c.B λy=>.imp (c.post x y) (match Eb c.H (c.back x y)with
 | true=>K ((c.val x).PY (ij c.N nx)) (C' (ij c.N nx) (c.back x y)) (nx+c.H)
 | false=>.fail "call: keys")
theorem lM.lD {c:lM}{x:c.G}{nx:Nat}{K K':SV->Mem->Nat->VC}(hK: ∀ v m nx,(K v m nx).holds->(K' v m nx).holds)(h:(c.qK x nx K).holds):(c.qK x nx K').holds:=by
 intro y hy;have h:=h y hy;cases hb:Eb c.H (c.back x y)with
 | false=>rw[hb] at h;exact h.elim
 | true=>rw[hb] at h;exact hK _ _ _ h
def ku (c:lM):PT:=λargs m nx K=>.ex c.G λx=>.and (.atom (c.pre x)) (match W c.N nx,c.ok x with
 | true,C=>gk c.N (c.args x) args [] λaJ=>e9 c.N m (c.mem x) [] aJ λ_=>c.qK x nx K
 | _,_=>.fail "call: keys")
theorem tY (c:lM):aQ (ku c):=by
 intro args m nx K K' hK h;obtain⟨x,h1,h2⟩:=h;refine⟨x,h1,?_⟩;show VC.holds _
 have h2:VC.holds (match W c.N nx,c.ok x with
  | true,C=>gk c.N (c.args x) args [] λaJ=>e9 c.N m (c.mem x) [] aJ λ_=>c.qK x nx K
  | _,_=>.fail "call: keys"):=h2
 revert h2;cases W c.N nx with
 | false=>exact id
 | true=>cases c.ok x with
   | false=>exact id
   | true=>exact mj λaJ h=>fX (λ_ h=>lM.lD hK h) h
def lM.fit (c:lM)(x:c.G):SV->Mem->Nat->VC:=λv m _=>.ex c.B λy=>.and (.atom (c.post x y)) (kN c.N [c.val x] [v] [] λaJ=>e9 c.N m (c.back x y) [] aJ λ_=>.tt)
section
variable {P : Program}
theorem aL.UZ {Γ:bh}{E m nx w}(h:aL Γ E m nx w){n N:Nat}(hΓ:Γ.td<=n)(hnN:n<=N){aJ:Ren}{m2:Mem}(hb: ∀ kh B',m2.get kh=M B'->An n m [] aJ kh B')
  (hi: ∀ kh kh' B B' k1,m2.get kh=M B->(∃ b a,B.fR b a)->m2.get kh'=M B'->(∃ b a,B'.fR b a)->dy n aJ kh=M k1->dy n aJ kh'=M k1->kh=kh') (hlt: ∀ kh B',m2.get kh=M B'->kh<N) :
  aL Γ (Ren.E n aJ E) m2 N w:=by
 have hE: ∀ kh k1,dy n aJ kh=M k1->Ren.E n aJ E kh=E k1:=λkh k1 hr=>by simp[Ren.E,hr]
 have hg: ∀ {kh B' a},m2.get kh=M B'->B'.fR (Ren.E n aJ E kh) a->∃ k1 B,dy n aJ kh=M k1/\m.get k1=M B/\B.fR (E k1) a/\(∀ E1 o,bz E1 (B.el a) o->bz (Ren.E n aJ E1) (B'.el a) o)/\(B'.ro=F->B.ro=F):=λ{kh B' a} hg ha=>by obtain⟨k1,B,g1,_,g3,g4,g5,g6⟩:=hb kh B' hg _ a ha;exact⟨k1,B,g1,g3,by rw[← hE kh k1 g1];exact g4,g5,g6⟩
 refine⟨λkh B' a hk ha=> ?_,λkh kh' B B' a hk ha hk' ha' hr=> ?_,hlt,λkh B' a hk ha hro=> ?_,h.ext,⟨c5 hΓ hnN,λk hk=>(Ren.yM (b_ hk hΓ)).trans (h.cx.2 k hk)⟩,h.kp⟩
 ·obtain⟨k1,X,_,q3,q4,q5,_⟩:=hg hk ha;obtain⟨o,ho,hbo⟩:=h.iy k1 X a q3 q4;exact⟨o,ho,q5 E o hbo⟩
 ·obtain⟨k1,X,g1,g3,g5,_,g7⟩:=hg hk ha;obtain⟨k1',X',g1',g3',g5',_,g7'⟩:=hg hk' ha';have:=h.iO k1 k1' X X' a g3 g5 g3' g5' (hr.imp g7 g7');subst this;exact hi kh kh' B B' k1 hk ⟨_,_,ha⟩ hk' ⟨_,_,ha'⟩ g1 g1'
 ·obtain⟨k1,X,_,g3,g5,_,g7⟩:=hg hk ha;exact h.jj k1 X a g3 g5 (g7 hro)
theorem aL.abZ {Θ Δ:bh}{E E3:Nat->Nat}{m2:Mem}{N H nx:Nat}{w':World}(h:aL Θ E3 m2 H w')(hw0:Δ.w0=Θ.w0)(hm0:Δ.M0=Θ.M0)(hk0:Δ.keep=Θ.keep)(hΔ:Δ.td<=nx)(hE0: ∀ k,k<Δ.td->E k=Δ.E0 k)
  (hN:N<=nx) (hlow: ∀ k,k<N->E3 k=E k) :
  (∀ k,jD nx E E3 (ij N nx k)=E3 k)/\aL Δ (jD nx E E3) (C' (ij N nx) m2) (nx+H) w':=by
 have hρ: ∀ k,jD nx E E3 (ij N nx k)=E3 k:=λk=>by
  unfold ij jD;cases hb:bf k N with
  | true =>
    have hk:k<N:=by simpa [an] using hb
    simp only[show k<nx by omega,if_true];exact(hlow k hk).symm
  | false=>simp only[show ¬ nx+k<nx by omega,if_false,Nat.add_sub_cancel_left]
 have hget: ∀ {j X},(C' (ij N nx) m2).get j=M X->∃ k B,m2.get k=M B/\ij N nx k=j/\X=B.aJ (ij N nx):=λ{j X} hj=>by
  have hj:(C' (ij N nx) m2++[]).get j=M X:=by rw[List.append_nil];exact hj
  rcases vU hj with h1 | h1
  ·exact h1
  ·cases h1
 have hfun:(λk=>jD nx E E3 (ij N nx k))=E3:=funext hρ;refine⟨hρ,λj X a hj ha=> ?_,λj j' X X' a hj ha hj' ha' hr=> ?_,λj X hj=> ?_,λj X a hj ha hr=> ?_,by rw[hw0,hm0];exact h.ext,⟨c5 hΔ (e_ _ _),λk hk=> ?_⟩,λD hD=>h.kp D (by rw[← hk0];exact hD)⟩
 ·obtain⟨k,B,g1,g2,rfl⟩:=hget hj;rw[SB.vV,← g2,hρ] at ha;obtain⟨o,ho,hbo⟩:=h.iy k B a g1 ha;exact⟨o,ho,bz.aJ (by rw[hfun];exact hbo)⟩
 ·obtain⟨k,B,g1,g2,rfl⟩:=hget hj;obtain⟨k',B',g1',g2',rfl⟩:=hget hj';rw[SB.vV,← g2,hρ] at ha;rw[SB.vV,← g2',hρ] at ha';rw[SB.Mc,SB.Mc] at hr;have:=h.iO k k' B B' a g1 ha g1' ha' hr;subst this;rw[← g2,← g2']
 ·obtain⟨k,B,g1,g2,rfl⟩:=hget hj;have:=h.lt k B g1;rw[← g2];unfold ij;split
  ·rename_i hb;have hk:k<N:=by simpa [an] using hb
   omega
  ·omega
 ·obtain⟨k,B,g1,g2,rfl⟩:=hget hj;rw[SB.vV,← g2,hρ] at ha;rw[SB.Mc] at hr;rw[hm0,hw0];exact h.jj k B a g1 ha hr
 ·unfold jD;rw[if_pos (b_ hk hΔ)];exact hE0 k hk
theorem SH {c:lM}{cal:nB}{Γ:bh}{KP:PK}{run:PT}(hΓ:Γ.td<=c.N)(hcal: ∀ E E':Nat->Nat,(∀ k,k<c.N->E' k=E k)->cal.sem E'=cal.sem E)(hrun:p9 P Γ Ad cal run)
  (h: ∀ x,c.pre x->c.ok x=C->aB (run (c.args x) (c.mem x) c.H (c.fit x))):p9 P Γ KP cal (ku c):=by
 intro Δ hle args m nx K hh hwf hargs E w hs;obtain⟨x,hpre,hh⟩:=hh;have hpre:c.pre x:=hpre
 have hh:VC.holds (match W c.N nx,c.ok x with
  | true,C=>gk c.N (c.args x) args [] λaJ=>e9 c.N m (c.mem x) [] aJ λ_=>c.qK x nx K
  | _,_=>.fail "call: keys"):=hh
 split at hh
 ·rename_i hN hok;have hN:c.N<=nx:=e! hN;have hrh:=(h x hpre hok).out;simp only[lM.ok,ay] at hok;obtain⟨ok1,ok2,ok4,ok5⟩:=hok;have ok1:c.N<=c.H:=e! ok1;obtain⟨ren1,_,h1,hv1⟩:=kY hh;obtain⟨aJ,hl2,hK,h34⟩:=fC h1;obtain⟨h3,h4⟩:=h34 aJ (Ren.le_refl _);let Θ:bh:={Δ with td:=Γ.td}
  have hleΘ:Γ.le Θ:=⟨hle.w,hle.m,S _,hle.e,hle.keep⟩
  have hsΘ:aL Θ E m nx w:=⟨hs.iy,hs.iO,hs.lt,hs.jj,hs.ext,⟨c5 hle.nx hs.cx.1,λk hk=>hs.cx.2 k (b_ hk hle.nx)⟩,hs.kp⟩
  have hsat:=hsΘ.UZ (n:=c.N) (N:=c.H) hΓ ok1 h3 h4 (λkh B' hg=>xS ok2 hg);have hlow: ∀ k,k<c.N->Ren.E c.N aJ E k=E k:=λk hk=>Ren.yM hk;have hcall:=hrun Θ hleΘ _ _ _ _ hrh ok4 ok5 _ _ hsat;rw[hcal E _ hlow,hv1 aJ E hl2] at hcall;refine Out.mono hcall (λr w' hr=> ?_) (λch w' hp=> ?_)
  ·obtain⟨E2,sv,m2,nx2,q1,_,q3,q4,q5⟩:=hr;cases sv with
   | none=>exact q5.elim
   | some v =>
     have q5:(c.fit x v m2 nx2).holds:=q5;obtain⟨y,hy,q5⟩:=q5;have hKy:=hK y hy;obtain⟨ren2,_,g1,gv⟩:=ju q5;split at hKy
     rotate_left
     ·exact hKy.elim
     rename_i ok3;obtain⟨ren3,gl2,_,g34⟩:=fC g1;obtain⟨g3,g4⟩:=g34 ren3 (Ren.le_refl _);have hs3:=q4.UZ (n:=c.N) (N:=c.H) hΓ ok1 g3 g4 (λkh B' hg=>xS ok3 hg);have hlow3: ∀ k,k<c.N->Ren.E c.N ren3 E2 k=E k:=λk hk=>(Ren.yM hk).trans ((q1 k (b_ hk ok1)).trans (hlow k hk));obtain⟨hρ,hfin⟩:=hs3.abZ (Δ:=Δ) (E:=E) (N:=c.N) (nx:=nx) rfl rfl rfl hs.cx.1 hs.cx.2 hN hlow3;refine⟨_,M ((c.val x).PY (ij c.N nx)),_,_,λk hk=> ?_,e_ _ _,λu hu=> ?_,hfin,hKy⟩
     ·unfold jD;rw[if_pos hk]
     ·injection hu with hu;subst hu;rw[SV.Jg,show(λk=>jD nx E (Ren.E c.N ren3 E2) (ij c.N nx k))=Ren.E c.N ren3 E2 from funext hρ,q3 v rfl]
      have:=gv ren3 E2 gl2;simp only[SV.vals,List.cons.injEq,and_true] at this;exact this.symm
  ·obtain⟨_,_,_,_,_,_,_,_,_,hno⟩:=hp;exact hno.elim
 ·exact hh.elim
def recC (f:FuncId)(pt:PT):iH:=⟨λenv KP c=>match c with
 | .yield k=>(match env.find k with
   | some pt=>pt
   | none=>λ_ _ _ _=>.fail "a yield that is not known")
 | .panic=>raise KP
 | .fn g=>(match ag g f with
   | true=>pt
   | false=>λ_ _ _ _=>.fail "another function"),λ_=>F⟩
theorem W9 {f:FuncId}{pt:PT}{Γ:bh}(hm:aQ pt)(h: ∀ KP,p9 P Γ KP (.fn f) pt):rK P (recC f pt) Γ.le:=by
 refine⟨λenv he KP c=> ?_,λenv he KP KP' hK c args m nx K h=> ?_,λ{Γ' Δ} h h'=>bh.le_trans h h',λΔ hle env hem he KP c=> ?_,λg hg=>by cases hg⟩
 ·cases c with
  | yield k =>
    show aQ (match env.find k with
     | some pt=>pt
     | none=>λ_ _ _ _=>.fail "a yield that is not known")
    split
    ·rename_i pt hp;exact he _ (Env.vi hp)
    ·exact λargs m nx K K' _ h=>h.elim
  | panic=>exact λargs m nx K K' _ h=>h
  | fn g =>
    show aQ (match ag g f with
     | true=>pt
     | false=>λ_ _ _ _=>.fail "another function")
    split
    ·exact hm
    ·exact λargs m nx K K' _ h=>h.elim
 ·cases c with
  | yield k=>exact h
  | panic =>
    show(raise KP' args m nx K).holds;have h:(raise KP args m nx K).holds:=h;unfold raise at h ⊢;split at h
    ·split at h
     ·exact hK _ _ _ h
     ·exact h
    ·exact h
  | fn g=>exact h
 ·cases c with
  | yield k =>
    show p9 P Δ KP (.yield k) (match env.find k with
     | some pt=>pt
     | none=>λ_ _ _ _=>.fail "a yield that is not known")
    split
    ·rename_i pt hp;exact he _ (Env.vi hp) KP
    ·exact λΔ _ args m nx K h=>h.elim
  | panic=>exact B8
  | fn g =>
    show p9 P Δ KP (.fn g) (match ag g f with
     | true=>pt
     | false=>λ_ _ _ _=>.fail "another function")
    split
    ·rename_i hg;obtain rfl:=c4 hg;exact(h KP).mono hle
    ·exact λΔ _ args m nx K h=>h.elim
theorem Ut (hmix:P.follows .mixedOrders=C){f:FuncId}{fn:Func}(hf:P.funcs[f]?=M fn) (hname:(fn.name== "runtime.NumGoroutine")=F) {kl N:Nat} {cy:lM} {ct:Nat->lM} {Γ:bh} (hΓ:Γ.td<=N)
  (hy: ∀ KP,p9 P Γ KP (.yield kl) (ku cy)) (hN: ∀ d,(ct d).N=N) (h0: ∀ x,¬ (ct 0).pre x) {n:Nat}
  (h: ∀ d x,(ct (d+1)).pre x->(ct (d+1)).ok x=C->∃ bx,aB (fG P (recC f (ku (ct d))) [(kl,ku cy)] Ad bx n fn ((ct (d+1)).args x) ((ct (d+1)).mem x) (ct (d+1)).H ((ct (d+1)).fit x))) :
  ∀ d KP,p9 P Γ KP (.fn f) (ku (ct d))
 | 0,KP=>λΔ _ args m nx K hh=>by obtain⟨x,hpre,_⟩:=hh;exact(h0 x hpre).elim
 | d+1,KP=>by
   have ih:=Ut hmix hf hname hΓ hy hN h0 h d;intro Δ hle args m nx K hh;obtain⟨x,hpre,hh⟩:=hh;have hh':=hh;have hpre':(ct (d+1)).pre x:=hpre;by_cases hok:(ct (d+1)).ok x=C
   ·obtain⟨A,hA⟩:=h d x hpre' hok;let c1:lM:={ct (d+1)with pre:=λy=>y=x}
    have hfix:p9 P Γ KP (.fn f) (ku c1):=SH (c:=c1) (run:=fG P (recC f (ku (ct d))) [(kl,ku cy)] Ad A n fn) (by rw[show c1.N=(ct (d+1)).N from rfl,hN];exact hΓ) (λ_ _ _=>rfl)
     (Cm hmix (W9 (tY _) ih) (λp hp=>by rcases eu.1 hp with e | hp;subst e;exact tY _;cases hp) (bh.le_refl _) (λp hp KP=>by rcases eu.1 hp with e | hp;subst e;exact hy KP;cases hp) hf hname)
     (λy hy _=>by have hy:y=x:=hy;rw[hy];exact hA)
    exact hfix Δ hle args m nx K ⟨x,rfl,hh'⟩
   ·exfalso;have hok:(ct (d+1)).ok x=false:=by simpa using hok
    have hh:VC.holds (match W (ct (d+1)).N nx,(ct (d+1)).ok x with
     | true,C=>_
     | _,_=>.fail "call: keys"):=hh
    rw[hok] at hh;cases hb:W (ct (d+1)).N nx<;>(rw[hb] at hh;exact hh)
def Nz (N:Nat)(cy ct:lM):Env->PT:=λenv args m nx K=>match env,ag nx N with
 | (_,Y)::_,C=>.and (.all cy.G λx=>.imp (cy.pre x) (match cy.ok x with
   | true=>Y (cy.args x) (cy.mem x) cy.H (cy.fit x)
   | false=>.tt)) (ku ct args m nx K)
 | _,_=>.fail "a range: keys"
theorem Ld (N:Nat)(cy ct:lM)(env:Env):aQ (Nz N cy ct env):=by
 intro args m nx K K' hK h;unfold Nz at h ⊢;split at h
 ·exact⟨h.1,tY ct _ _ _ _ _ hK h.2⟩
 ·exact h.elim
def HS (kl N:Nat)(cy ct:Loop->lM):Env->PT:=λenv args m nx K=>match env,m.get kl with
 | (k,_)::_,M (.loop .ready J R)=>(match ag k kl with
   | true=>Nz N (cy R) (ct R) env args m nx K
   | false=>.fail "a range: another key")
 | _,_=>.fail "a range: no yield"
theorem Te (hmix:P.follows .mixedOrders=C){f:FuncId}{fn:Func}(hf:P.funcs[f]?=M fn) (hname:(fn.name== "runtime.NumGoroutine")=F) {kl N D n:Nat} {cy:Loop->lM} {ct:Loop->Nat->lM} (hkl:kl<N) (hcy: ∀ R,(cy R).N=N)
  (hN: ∀ R d,(ct R d).N=N) (h0: ∀ R x,¬ (ct R 0).pre x)
  (h: ∀ R d x,(ct R (d+1)).pre x->(ct R (d+1)).ok x=C->∃ bx,aB (fG P (recC f (ku (ct R d))) [(kl,ku (cy R))] Ad bx n fn ((ct R (d+1)).args x) ((ct R (d+1)).mem x) (ct R (d+1)).H ((ct R (d+1)).fit x))) :
  EV P f (HS kl N cy (λR=>ct R D)):=by
 refine⟨λenv he args m nx K K' hK hh=> ?_,λΓ env hem he KP Δ hle args m nx K hh hwf hargs E w hs=> ?_⟩
 ·unfold HS at hh ⊢;split at hh
  ·split at hh
   ·exact Ld _ _ _ _ _ _ _ _ _ hK hh
   ·exact hh.elim
  ·exact hh.elim
 ·unfold HS at hh;split at hh
  ·rename_i k Y r R _;split at hh
   ·rename_i hk;obtain rfl:=c4 hk;unfold Nz at hh;split at hh
    ·rename_i k' Y' r' heq hnx;injection heq with e1 e2;injection e1 with e3 e4;subst e4;have hnx:nx=N:=c4 hnx;have hΔ:Δ.td<=N:=hnx▸ hs.cx.1;have hY: ∀ KP,p9 P Δ KP (.yield k) Y:=λKP=>(he (k,Y) (ez ..) KP).mono hle;have hy: ∀ KP,p9 P Δ KP (.yield k) (ku (cy R)):=λKP=>SH (by rw[hcy R];exact hΔ) (λE E' hE=>funext λargs=>by
      show Instr.yield (E' k) args=Instr.yield (E k) args;rw[hE k (by rw[hcy R];exact hkl)]) (hY Ad) (λx hx hok=>⟨by
      have:=hh.1 x hx;rw[hok] at this;exact this⟩)
     exact Ut hmix hf hname hΔ hy (hN R) (h0 R) (h R) D KP Δ Δ.le_refl args m nx K hh.2 hwf hargs E w hs
    ·exact hh.elim
   ·exact hh.elim
  ·exact hh.elim
end
end
end Go.Proofs.YtoibaecagklkaaaGreatDoor.Sx
namespace Go.Proofs.YtoibaecagklkaaaGreatDoor
open Go Sx
set_option maxRecDepth 20000
def aG (l:List (List UInt8)):List (List UInt8):=l.foldl (λu x=>if x∈ u then u else u++[x]) []
theorem ov (l:List (List UInt8))(x:List UInt8):aG (l++[x])=if x∈ aG l then aG l else aG l++[x]:=by unfold aG;rw[List.foldl_append];rfl
theorem kS: ∀(n:Nat) (l:List (List UInt8)),l.length=n->∀ s,s∈ aG l↔s∈ l
 | 0,l,h,s=>by rw[e5.1 h];exact Iff.rfl
 | n+1,l,h,s=>by
   obtain⟨k,x,rfl⟩: ∃ k x,l=k++[x]:=⟨l.dropLast,l.getLast (by intro e;rw[e] at h;cases h),(eP _).symm⟩
   have ih:=kS n k (by rw[V] at h;simpa using h);rw[ov];by_cases hx:x∈ aG k
   ·rw[if_pos hx,ih s,a_,a!];exact⟨.inl,λh=>h.elim id λe=>e▸ (ih x).1 hx⟩
   ·rw[if_neg hx,a_,a_,ih s]
theorem wA: ∀(n:Nat) (l:List (List UInt8)),l.length=n->(aG l).length<=n
 | 0,l,h=>by rw[e5.1 h];exact S _
 | n+1,l,h=>by
   obtain⟨k,x,rfl⟩: ∃ k x,l=k++[x]:=⟨l.dropLast,l.getLast (by intro e;rw[e] at h;cases h),(eP _).symm⟩
   have ih:=wA n k (by rw[V] at h;simpa using h);rw[ov];split
   ·omega
   ·rw[V];simpa using ih
def fe (l:List (List UInt8))(s:List UInt8):Int:=(l.count s:Int)
def gu (l:List (List UInt8))(s:List UInt8):Bool:=I (s∈ l)
noncomputable def Lv:List (FuncId×PT):=(62,bE UK xk)::(64,bE UK Ck)::(63,oI 13)::fP
theorem DY:bn Q (λf=>aE f Lv):=.cons Sb (bQ _ _) (.cons UE (bQ _ _) (.cons (Dp 13) (uV 13) cO))
def Z9 (l:List (List UInt8)):cL:=.all Nat λc=>.req (l.length<=c) (.new (λk=>.aN [.aZ k 1 C 0 l.length c,.int .i64 C 0]) (.rows C l.length [.str λi=>l.getD i []] F (c*1) 9))
def Gb (n:Nat)(f g:Nat->List UInt8):cL:=.fork (I (cA n f g=0)) λb=>match b with
 | true=>Z9 (aG (b8 13 (av n (λi=>ak (f i)) g)))
 | false=>.fork (I (cA n f g=1)) λb=>match b with
   | true=>.ret (.aN [.aM,.int .i64 C 1])
   | false=>.ret (.aN [.aM,.int .i64 C 12])
def HQ (R:Loop)(P:Pd)(key:Nat)(L:List (List UInt8))(c:Nat):Mem:=[(1,.cells [.aZ key 1 C 0 (aG L).length c] 1 29),(key,.rows C (aG L).length [.str λi=>(aG L).getD i []] F (c*1) 9),(2,.fmap (gu L) (.int .i64 (fe L)) J),
 (3,.cells [.map 2] 1 90),(9,.loop .ready J R),(6,P.parts 7),(7,P.lists 6)]
structure NoS where
 L:List (List UInt8)
 c:Nat
 P:Pd
 s:List UInt8
def cyN (R:Loop):lM :=
 {G:=NoS,N:=10,H:=11,pre:=λx=>x.L.length<=100000/\(aG x.L).length<=x.c,args:=λx=>[.str F x.s],mem:=λx=>HQ R x.P 10 x.L x.c,val:=λ_=>.bool C C,B:=Nat,
  post:=λx c=>(aG (x.L++[x.s])).length<=c,back:=λx c=>HQ R x.P 10 (x.L++[x.s]) c}
structure Ov where
 L:List (List UInt8)
 c:Nat
 P:Pd
 a:Nat
 T:List (List UInt8)
def Q8 (R:Loop)(d:Nat):lM :=
 {G:=Ov,N:=10,H:=11,pre:=λx=>Told x.P d x.a x.T/\(x.L++x.T).length<=100000/\(aG x.L).length<=x.c,args:=λx=>[.fI 6 x.a 0,.yield 9],mem:=λx=>HQ R x.P 10 x.L x.c,val:=λ_=>.bool C C,B:=Nat,
  post:=λx c=>(aG (x.L++x.T)).length<=c,back:=λx c=>HQ R x.P 10 (x.L++x.T) c}
def Xc (st:Sx.St):List Nat:=match st.m.get 1 with
 | some (.cells [.aZ k _ _ _ _ _] _ _)=>[k]
 | _=>[]
def gb (x:Ov)(Ks:List (List (List UInt8)))(i:Nat):List (List UInt8):=x.L++x.P.cS x.a::(Ks.take i).flatten
noncomputable def VV (R:Loop)(x:Ov)(Ks:List (List (List UInt8))):aV :={α:=Nat×Nat,pre:=λ_ y=>y.1<=Ks.length/\(aG (gb x Ks y.1)).length<=y.2,kT:=λ_ y=>Ks.length - y.1,fresh:=1,slots:=λ_ y=>[(19,.int .i64 F y.1)],mem:=λst y=>HQ R x.P st.nx (gb x Ks y.1) y.2,drop:=Xc}
noncomputable def Yk (R:Loop)(d:Nat)(x:Ov)(Ks:List (List (List UInt8))):VC :=fG Q (recC 107 (ku (Q8 R d))) [(9,ku (cyN R))] Ad [(4,always (VV R x Ks))] 100 c_ ((Q8 R (d+1)).args x) ((Q8 R (d+1)).mem x) 11 ((Q8 R (d+1)).fit x)
noncomputable def M5:fJ:={cm with cG:=λf=>aE f Lv,iter:=λf=>if f=107 then M (HS 9 10 cyN (λR=>Q8 R 14))else J}
theorem aaI (R:Loop)(d:Nat)(x:Ov)(Ks:List (List (List UInt8))):cZ (.s 1 (.n .k (.s 0 (.n (.s 0 .k) (.s 0 (.n .k (.n .k (.s 1 (.n .k (.n .k (.s 0 (.n (.s 0 (.n .k (.s 0 (.n (.s 0 .k) (.s 0 (.n .k (.n .k (.n .k (.s 0 .k))))))))) (.n (.s 2 (.n .k (.s 1 (.n (.s 0 .k) (.s 0 (.n .k (.n .k (.s 1 (.n .k (.n .k (.s 1 (.n .k (.s 0 (.n (.s 0 .k) (.s 0 (.n .k (.n .k (.n .k (.s 0 .k))))))))))))))))))) (.s 2 (.n (.s 0 .k) (.s 0 (.n .k (.n .k .t)))))))))))))))))) (Yk R d x Ks) ((x.P.D x.a=C/\∃(u17:NoS),(u17.L.length<=100000/\(aG u17.L).length<=u17.c)/\x.P.cS x.a=u17.s/\((aG x.L).length=(aG u17.L).length/\x.c=u17.c)/\aa (SB.rows C (aG x.L).length [aq.str λu16=>(aG x.L).getD u16 []] F (x.c*1) 9) (SB.rows C (aG u17.L).length [aq.str λu15=>(aG u17.L).getD u15 []] F (u17.c*1) 9)/\aa (SB.fmap (gu x.L) (aD.int O (fe x.L)) J) (SB.fmap (gu u17.L) (aD.int O (fe u17.L)) J)/\aa (SB.dR x.P.D [aq.str x.P.cS,aq.bU 7 1 C x.P.fb x.P.nb x.P.cb] 2 165 F) (u17.P.parts 7)/\aa (SB.dD x.P.D2 x.P.n2 [bW.ref 6 x.P.g] F) (u17.P.lists 6)/\∀(u14:Nat),(aG (u17.L++[u17.s])).length<=u14->u17.P.D x.a=C/\(∃(u13:Nat×Nat),(u13.1<=Ks.length/\(aG (gb x Ks u13.1)).length<=u13.2)/\0=(u13.1:Int)/\((aG (u17.L++[u17.s])).length=(aG (gb x Ks u13.1)).length/\u14=u13.2) /\aa (SB.rows C (aG (u17.L++[u17.s])).length [aq.str λu12=>(aG (u17.L++[u17.s])).getD u12 []] F (u14*1) 9) (SB.rows C (aG (gb x Ks u13.1)).length [aq.str λu11=>(aG (gb x Ks u13.1)).getD u11 []] F (u13.2*1) 9)/\aa (SB.fmap (gu (u17.L++[u17.s])) (aD.int O (fe (u17.L++[u17.s]))) J) (SB.fmap (gu (gb x Ks u13.1)) (aD.int O (fe (gb x Ks u13.1))) J)/\aa (SB.cells [SV.map (ij 10 11 2)] 1 90) (SB.cells [SV.map 2] 1 90)/\aa (SB.dR u17.P.D [aq.str u17.P.cS,aq.bU (ij 10 11 7) 1 C u17.P.fb u17.P.nb u17.P.cb] 2 165 F) (x.P.parts 7)/\aa (SB.dD u17.P.D2 u17.P.n2 [bW.ref (ij 10 11 6) u17.P.g] F) (x.P.lists 6))/\∀(u10:Nat×Nat),u10.1<=Ks.length/\(aG (gb x Ks u10.1)).length<=u10.2->(I ((u10.1:Int)<(↑(u17.P.nb x.a):Int))=C->(0<=(u10.1:Int)/\(u10.1:Int)<(↑(u17.P.nb x.a):Int))/\(x.P.D2 (u17.P.fb x.a)=C/\0+(u10.1:Int).toNat<x.P.n2 (u17.P.fb x.a))/\∃(u9:Ov),(Told u9.P d u9.a u9.T/\(u9.L++u9.T).length<=100000/\(aG u9.L).length<=u9.c) /\x.P.g (u17.P.fb x.a) (0+(u10.1:Int).toNat)=u9.a/\((aG (gb x Ks u10.1)).length=(aG u9.L).length/\u10.2=u9.c)/\aa (SB.rows C (aG (gb x Ks u10.1)).length [aq.str λu8=>(aG (gb x Ks u10.1)).getD u8 []] F (u10.2*1) 9) (SB.rows C (aG u9.L).length [aq.str λu7=>(aG u9.L).getD u7 []] F (u9.c*1) 9)/\aa (SB.fmap (gu (gb x Ks u10.1)) (aD.int O (fe (gb x Ks u10.1))) J) (SB.fmap (gu u9.L) (aD.int O (fe u9.L)) J)/\aa (SB.dR x.P.D [aq.str x.P.cS,aq.bU 7 1 C x.P.fb x.P.nb x.P.cb] 2 165 F) (u9.P.parts 7)/\aa (SB.dD x.P.D2 x.P.n2 [bW.ref 6 x.P.g] F) (u9.P.lists 6)/\∀(u6:Nat),(aG (u9.L++u9.T)).length<=u6->I6 ((u10.1:Int)+1)/\∃(u5:Nat×Nat),((u5.1<=Ks.length/\(aG (gb x Ks u5.1)).length<=u5.2)/\Ks.length - u5.1<Ks.length - u10.1)/\(u10.1:Int)+1=(u5.1:Int)/\((aG (u9.L++u9.T)).length=(aG (gb x Ks u5.1)).length/\u6=u5.2) /\aa (SB.rows C (aG (u9.L++u9.T)).length [aq.str λu4=>(aG (u9.L++u9.T)).getD u4 []] F (u6*1) 9) (SB.rows C (aG (gb x Ks u5.1)).length [aq.str λu3=>(aG (gb x Ks u5.1)).getD u3 []] F (u5.2*1) 9)/\aa (SB.fmap (gu (u9.L++u9.T)) (aD.int O (fe (u9.L++u9.T))) J) (SB.fmap (gu (gb x Ks u5.1)) (aD.int O (fe (gb x Ks u5.1))) J)/\aa (SB.cells [SV.map (ij 10 ((23:Nat)) 2)] 1 90) (SB.cells [SV.map 2] 1 90)/\aa (SB.dR u9.P.D [aq.str u9.P.cS,aq.bU (ij 10 ((23:Nat)) 7) 1 C u9.P.fb u9.P.nb u9.P.cb] 2 165 F) (x.P.parts 7)/\aa (SB.dD u9.P.D2 u9.P.n2 [bW.ref (ij 10 ((23:Nat)) 6) u9.P.g] F) (x.P.lists 6))/\(I ((u10.1:Int)<(↑(u17.P.nb x.a):Int))=F->∃(u2:Nat),(aG (x.L++x.T)).length<=u2/\((aG (gb x Ks u10.1)).length=(aG (x.L++x.T)).length/\u10.2=u2) /\aa (SB.rows C (aG (gb x Ks u10.1)).length [aq.str λu1=>(aG (gb x Ks u10.1)).getD u1 []] F (u10.2*1) 9) (SB.rows C (aG (x.L++x.T)).length [aq.str λu0=>(aG (x.L++x.T)).getD u0 []] F (u2*1) 9)/\aa (SB.fmap (gu (gb x Ks u10.1)) (aD.int O (fe (gb x Ks u10.1))) J) (SB.fmap (gu (x.L++x.T)) (aD.int O (fe (x.L++x.T))) J)))):=⟨by kernel_rfl,by kernel_rfl⟩
theorem XB (n:Nat)(f g:Nat->List UInt8)(z:Bool)(o c:Nat)(key:Option Nat):cZ (.s 3 (.n (.s 0 .k) (.s 0 (.n .k (.n (.s 1 (.n (.s 4 (.n (.s 0 .k) (.s 0 (.n .k (.n .k .t))))) (.s 2 (.n (.s 0 .k) (.s 0 (.n .k (.n .k .t))))))) (.s 0 (.n .k (.s 1 (.n .k (.s 0 (.n .k (.n .k (.s 0 .k))))))))))))) (gD M5 26 ei [.bS 0 2 z o 0 n c] [fD z o c n f g key] (Gb n f g)) ((λP0:Ov->Nat->SV=>(((((z=z/\o=o/\0+n<=n)/\True)/\n<9223372036854775808)/\((!decide (cA n f g=0))=C->(I (cA n f g=0)=C->∃(u29:Nat),(aG (b8 13 (av n (fun(u28:Nat)=>ak (f u28)) g))).length<=u29/\False)/\(I (cA n f g=0)=F->(I (cA n f g=1)=C->af (SV.aN [SV.aM,SV.int .i64 F (cA n f g)]) (SV.aN [SV.aM,SV.int .i64 C 1]))/\(I (cA n f g=1)=F->af (SV.aN [SV.aM,SV.int .i64 F (cA n f g)]) (SV.aN [SV.aM,SV.int .i64 C 12]))))/\((!decide (cA n f g=0))=F->(((z=z/\o=o/\0+n<=n)/\True)/\n<=1000/\∀(u27:Nat),u27<n->(f u27).length<1099511627776)/\∀(u26:Nat),(av n (fun(u25:Nat)=>ak (f u25)) g).length<=u26->∃(u24:List Rw×Nat),(cg 13 u24.1/\u24.1.length<=1000/\(13:Nat)<=(13:Nat))/\((av n (fun(u23:Nat)=>ak (f u23)) g).length=u24.1.length/\u26=u24.2) /\aa (SB.rows F (av n (fun(u22:Nat)=>ak (f u22)) g).length [bK (av n (fun(u21:Nat)=>ak (f u21)) g),bL (av n (fun(u20:Nat)=>ak (f u20)) g)] F (u26*2) 174) (SB.rows F u24.1.length [bK u24.1,bL u24.1] C (u24.2*2) 174)/\∀(u19:Nat×Pd),Told u19.2 14 u19.1 (b8 13 u24.1)->∀(_u18:Loop),(∀(u17:NoS),u17.L.length<=100000/\(aG u17.L).length<=u17.c->I6 (dflt (gu u17.L u17.s) (fe u17.L u17.s)+1)/\(I (dflt (dA (gu u17.L) u17.s u17.s) (fE (fe u17.L) u17.s (dflt (gu u17.L u17.s) (fe u17.L u17.s)+1) u17.s)=1)=C->(0+(aG u17.L).length<=(aG u17.L).length/\True/\2*((aG u17.L).length+1)*16<=(281474976710656:Nat)/\(aG u17.L).length+1<(9223372036854775808:Nat))/\∀(u16:Nat),(aG u17.L).length+1<=u16->∃(u15:Nat),(aG (u17.L++[u17.s])).length<=u15/\((aG u17.L).length+1=(aG (u17.L++[u17.s])).length/\u16=u15) /\aa (SB.rows C ((aG u17.L).length+1) [aq.str λu14=>if u14<(aG u17.L).length then(aG u17.L).getD u14 [] else bP [u17.s] (u14 - (aG u17.L).length)] F (u16*1) 9) (SB.rows C (aG (u17.L++[u17.s])).length [aq.str λu13=>(aG (u17.L++[u17.s])).getD u13 []] F (u15*1) 9)/\aa (SB.fmap (dA (gu u17.L) u17.s) (aD.int O (fE (fe u17.L) u17.s (dflt (gu u17.L u17.s) (fe u17.L u17.s)+1))) J) (SB.fmap (gu (u17.L++[u17.s])) (aD.int O (fe (u17.L++[u17.s]))) J))/\(I (dflt (dA (gu u17.L) u17.s u17.s) (fE (fe u17.L) u17.s (dflt (gu u17.L u17.s) (fe u17.L u17.s)+1) u17.s)=1)=F->∃(u12:Nat),(aG (u17.L++[u17.s])).length<=u12/\((aG u17.L).length=(aG (u17.L++[u17.s])).length/\u17.c=u12)/\aa (SB.rows C (aG u17.L).length [aq.str λu11=>(aG u17.L).getD u11 []] F (u17.c*1) 9) (SB.rows C (aG (u17.L++[u17.s])).length [aq.str λu10=>(aG (u17.L++[u17.s])).getD u10 []] F (u12*1) 9) /\aa (SB.fmap (dA (gu u17.L) u17.s) (aD.int O (fE (fe u17.L) u17.s (dflt (gu u17.L u17.s) (fe u17.L u17.s)+1))) J) (SB.fmap (gu (u17.L++[u17.s])) (aD.int O (fe (u17.L++[u17.s]))) J)))/\∃(u9:Ov),(Told u9.P 14 u9.a u9.T/\(u9.L++u9.T).length<=100000/\(aG u9.L).length<=u9.c)/\u19.1=u9.a/\(aG u9.L).length=0/\(SB.rows C (aG u9.L).length [aq.str λu8=>(aG u9.L).getD u8 []] F (u9.c*1) 9).no=C/\aa (SB.map [] 0) (SB.fmap (gu u9.L) (aD.int O (fe u9.L)) J)/\aa (SB.cells [SV.map ((2:Nat))] 1 90) (SB.cells [SV.map 2] 1 90)/\aa (SB.dR u19.2.D [aq.str u19.2.cS,aq.bU 7 1 C u19.2.fb u19.2.nb u19.2.cb] 2 165 F) (u9.P.parts 7)/\aa (SB.dD u19.2.D2 u19.2.n2 [bW.ref 6 u19.2.g] F) (u9.P.lists 6)/\∀(u7:Nat),(aG (u9.L++u9.T)).length<=u7->(I (cA n f g=0)=C->∃(u6:Nat),(aG (b8 13 (av n (fun(u5:Nat)=>ak (f u5)) g))).length<=u6 /\aa (SB.rows C (aG (u9.L++u9.T)).length [aq.str λu4=>(aG (u9.L++u9.T)).getD u4 []] F (u7*1) 9) (SB.rows C (aG (b8 13 (av n (fun(u3:Nat)=>ak (f u3)) g))).length [aq.str λu2=>(aG (b8 13 (av n (fun(u1:Nat)=>ak (f u1)) g))).getD u2 []] F (u6*1) 9)/\af (P0 u9 u7) (SV.aN [SV.aZ (ij 10 ((10:Nat)) 10) 1 C 0 (aG (b8 13 (av n (fun(u0:Nat)=>ak (f u0)) g))).length u6,SV.int .i64 C 0]))/\(I (cA n f g=0)=F->(I (cA n f g=1)=C->af (P0 u9 u7) (SV.aN [SV.aM,SV.int .i64 C 1]))/\(I (cA n f g=1)=F->af (P0 u9 u7) (SV.aN [SV.aM,SV.int .i64 C 12]))))))) (fun(u9:Ov) (u7:Nat)=>(SV.aN [SV.aZ (ij 10 ((10:Nat)) 10) 1 C 0 (aG (u9.L++u9.T)).length u7,SV.int .i64 C 0]))):=⟨by kernel_rfl,by kernel_rfl⟩
theorem yC {u u':List (List UInt8)}{c c':Nat}{ty:TypeId}(h:u=u')(hc:c=c'):aa (.rows C u.length [.str λi=>u.getD i []] F (c*1) ty) (.rows C u'.length [.str λi=>u'.getD i []] F (c'*1) ty):=by subst h;subst hc;exact aa.refl _
theorem J1 {L L':List (List UInt8)}(h:L=L'):aa (.fmap (gu L) (.int .i64 (fe L)) J) (.fmap (gu L') (.int .i64 (fe L')) J):=by subst h;exact aa.refl _
theorem TP (x:Ov)(Ks:List (List (List UInt8)))(i:Nat)(hi:i<Ks.length):gb x Ks (i+1)=gb x Ks i++Ks[i]:=by unfold gb;rw[List.take_add_one,ej hi,eW];simp
theorem WJ (x:Ov)(Ks:List (List (List UInt8)))(hT:x.T=x.P.cS x.a::Ks.flatten)(i:Nat)(hi:Ks.length<=i):gb x Ks i=x.L++x.T:=by unfold gb;rw[e7 hi,hT]
theorem WK (x:Ov)(Ks:List (List (List UInt8)))(hT:x.T=x.P.cS x.a::Ks.flatten)(i:Nat):(gb x Ks i).length<=(x.L++x.T).length:=by
 have h:Ks.flatten=(Ks.take i).flatten++(Ks.drop i).flatten:=by rw[← eW,List.take_append_drop]
 unfold gb;rw[hT,h];simp only[V,er];omega
theorem Mx (R:Loop)(d:Nat)(x:Ov)(hx:(Q8 R (d+1)).pre x): ∃ bx,aB (fG Q (recC 107 (ku (Q8 R d))) [(9,ku (cyN R))] Ad bx 100 c_ ((Q8 R (d+1)).args x) ((Q8 R (d+1)).mem x) (Q8 R (d+1)).H ((Q8 R (d+1)).fit x)):=by
 obtain⟨⟨hD,Ks,hnb,hD2,hT,hK⟩,hlen,hc⟩:=hx;have key:aB (Yk R d x Ks):=by
  refine aB.pr (aaI R d x Ks) ?_;have hlen:(x.L++x.T).length<=100000:=hlen;have hL:x.L.length<=100000:=by rw[V] at hlen;omega
  refine⟨hD,⟨x.L,x.c,x.P,x.P.cS x.a⟩,⟨hL,hc⟩,rfl,⟨rfl,rfl⟩,aa.refl _,aa.refl _,aa.refl _,aa.refl _,λy hy=>⟨hD,⟨(0,y),⟨c7 _,hy⟩,rfl,⟨rfl,rfl⟩,aa.refl _,aa.refl _,aa.refl _,aa.refl _,aa.refl _⟩,λz hz=>⟨λh=> ?_,λh=> ?_⟩⟩⟩
  ·obtain⟨i,c⟩:=z;obtain⟨hz1,hz2⟩:=hz;have hi:i<Ks.length:=by have:(i:Int)<(x.P.nb x.a:Int):=of_decide_eq_true h;omega
   have hpos:0<Ks.length:=by omega
   have hd:=hD2 hpos;have ek:(0:Nat)+((i:Nat):Int).toNat=i:=by omega
   have em:=TP x Ks i hi;have hml:=WK x Ks hT (i+1);rw[em] at hml;refine⟨⟨by omega,by show(i:Int)<(x.P.nb x.a:Int);omega⟩,⟨hd.1,by rw[ek];exact b_ hi hd.2⟩,⟨gb x Ks i,c,x.P,x.P.g (x.P.fb x.a) i,Ks[i]⟩,⟨hK i _ (ej hi),by show(gb x Ks i++Ks[i]).length<=_;omega,hz2⟩,by rw[ek],⟨rfl,rfl⟩,aa.refl _,aa.refl _,aa.refl _,aa.refl _,λy hy=> ?_⟩;have hl:Ks.length<=100000:=by have:=CN (P:=x.P) (d:=d) (n:=Ks.length) (f:=λi=>x.P.g (x.P.fb x.a) i) (B:=Ks.flatten) ⟨Ks,rfl,rfl,hK⟩;rw[V,hT,er] at hlen;omega
   have ec:aG (gb x Ks i++Ks[i])=aG (gb x Ks (i+1)):=congrArg aG em.symm;refine⟨⟨by omega,by omega⟩,(i+1,y),⟨⟨hi,?_⟩,by show _ - (i+1)<_ - i;omega⟩,by show(i:Int)+1=((i+1:Nat):Int);omega,⟨congrArg en ec,rfl⟩,yC ec rfl,J1 em.symm,aa.refl _,aa.refl _,aa.refl _⟩;show(aG (gb x Ks (i+1))).length<=y;rw[← ec];exact hy
  ·obtain⟨i,c⟩:=z;obtain⟨hz1,hz2⟩:=hz;have hi:Ks.length<=i:=by have: ¬ (i:Int)<(x.P.nb x.a:Int):=of_decide_eq_false h;omega
   have em:=WJ x Ks hT i hi;have hz2:(aG (gb x Ks i)).length<=c:=hz2;exact⟨c,by rw[← em];exact hz2,⟨congrArg (λl=>(aG l).length) em,rfl⟩,yC (congrArg aG em) rfl,J1 em⟩
 exact⟨_,key⟩
theorem O6:EV Q 107 (HS 9 10 cyN (λR=>Q8 R 14)) :=Te (n:=100) bR (fn:=c_) Tryz.func107 (by kernel_rfl) (by decide) (λ_=>rfl) (λ_ _=>rfl) (λR x h=>h.1) λR d x hx _=>Mx R d x hx
theorem Zu:Sx.Good Q M5:=.of bR DY bl λf g h=>by
 simp only[M5] at h;split at h
 ·rename_i e;injection h with h;subst e;subst h;exact O6
 ·cases h
theorem AH (L:List (List UInt8))(s:List UInt8):dflt (gu L s) (fe L s)=fe L s:=by
 unfold dflt gu fe;by_cases h:s∈ L
 ·rw[decide_eq_true h];rfl
 ·rw[decide_eq_false h,List.count_eq_zero_of_not_mem h];rfl
theorem SX (L:List (List UInt8))(s t:List UInt8):dA (gu L) s t=gu (L++[s]) t:=by unfold dA gu;rw[Bool.eq_iff_iff,eL,decide_eq_true_eq,decide_eq_true_eq,decide_eq_true_eq,a_,a!]
theorem Si (L:List (List UInt8))(s t:List UInt8):fE (fe L) s (fe L s+1) t=fe (L++[s]) t:=by
 unfold fE fe;rw[List.count_append,List.count_singleton];by_cases h:t=s
 ·subst h;simp
 ·rw[decide_eq_false h];have: ¬ s=t:=λe=>h e.symm;simp[this]
theorem Na (L:List (List UInt8))(s:List UInt8):aa (.fmap (dA (gu L) s) (.int .i64 (fE (fe L) s (dflt (gu L s) (fe L s)+1))) J) (.fmap (gu (L++[s])) (.int .i64 (fe (L++[s]))) J):=by rw[AH];exact aa.fmap (SX L s) λt=>congrArg (Value.int .i64) (Si L s t)
theorem Nb (L:List (List UInt8))(s:List UInt8):dflt (dA (gu L) s s) (fE (fe L) s (dflt (gu L s) (fe L s)+1) s)=1↔s∉ L:=by
 have h1:dA (gu L) s s=true:=by unfold dA;simp
 have h2:fE (fe L) s (dflt (gu L s) (fe L s)+1) s=fe L s+1:=by unfold fE;rw[AH];simp
 rw[h1,h2];show fe L s+1=1↔_;unfold fe;rw[← List.count_eq_zero];omega
theorem YZ (L:List (List UInt8))(s:List UInt8):0<=fe L s/\fe L s<=(L.length:Int):=by unfold fe;have:=List.count_le_length (a:=s) (l:=L);omega
theorem Xo {u:List (List UInt8)}{s:List UInt8}{u':List (List UInt8)}{c c':Nat}{ty:TypeId}(h:u'=u++[s])(hc:c=c'):aa (.rows C (u.length+1) [.str λj=>if j<u.length then u.getD j [] else bP [s] (j - u.length)] F (c*1) ty) (.rows C u'.length [.str λi=>u'.getD i []] F (c'*1) ty):=by
 subst h;subst hc;refine gZ (by simp) rfl rfl λk c c' h1 h2 i hi E=> ?_
 match k,h1,h2 with
 | 0,h1,h2 =>
   injection h1 with h1;injection h2 with h2;subst h1;subst h2;simp only[aq.at,SV.val];rw[rA u s [] i hi];by_cases h:i<u.length
   ·rw[if_pos h,if_pos h]
   ·rw[if_neg h,if_neg h];rfl
 | k+1,h1,_=>simp at h1
theorem Pv (n:Nat)(f g:Nat->List UInt8):av (n+1) f g=av n f g++[(f n,g n)]:=by unfold av;rw[List.range_succ,List.map_append];rfl
theorem By {n:Nat}{f g:Nat->List UInt8}{r:Rw}(h:r∈ av n f g): ∃ i,i<n/\r=(f i,g i):=by unfold av at h;obtain⟨i,hi,rfl⟩:=eB.1 h;exact⟨i,Z.1 hi,rfl⟩
theorem Nl {f g:Nat->List UInt8}: ∀ {n:Nat},(∀ i,i<n->iX f g i=C)->∀ i,i+1<n->cl (f i) (f (n - 1))=C
 | 0,_,i,hi=>by omega
 | n+1,h,i,hi=>by
   have h1:cl (f (n - 1)) (f n)=true:=by
    have:=h n (fl n);unfold iX at this;simp only[ay,eL,decide_eq_true_eq] at this;rcases this.2.2 with e | e
    ·omega
    ·exact e
   show cl (f i) (f n)=C;by_cases e:i+1=n
   ·rw[← e] at h1;rw[← e];exact h1
   ·exact ur (Nl (λj hj=>h j (by omega)) i (by omega)) h1
theorem Dw {f g:Nat->List UInt8}: ∀ {n:Nat},(∀ i,i<n->iX f g i=C)->(av n f g).Pairwise λa b=>cl a.1 b.1=C
 | 0,_=>List.Pairwise.nil
 | n+1,h=>by rw[Pv,List.pairwise_append];refine⟨Dw λi hi=>h i (by omega),List.pairwise_singleton _ _,λa ha b hb=> ?_⟩;obtain⟨i,hi,rfl⟩:=By ha;rw[a!] at hb;subst hb;exact Nl h i (by omega)
theorem gF {n:Nat}{f g:Nat->List UInt8}(h:cA n f g=0):tK (av n f g)/\n<=40:=by
 unfold cA at h;cases he:Hw n f g with
 | false=>rw[he] at h;exact absurd (show(1:Int)=0 from h) (by decide)
 | true =>
   rw[he,cond_true] at h;have hall: ∀ i,i<n->iX f g i=true:=λi hi=>eN.1 he i (Z.2 hi);refine⟨⟨Dw hall,λx hx=> ?_,λx hx=> ?_⟩,?_⟩
   ·obtain⟨i,hi,rfl⟩:=By hx;have:=hall i hi;unfold iX xG at this;simp only[ay,aK,decide_eq_true_eq,decide_eq_false_iff_not] at this;exact⟨this.1.1,by have:=this.1.2;show(f i).length<=6;omega⟩
   ·obtain⟨i,hi,rfl⟩:=By hx;have:=hall i hi;unfold iX sZ at this;simp only[ay,aK,decide_eq_true_eq,decide_eq_false_iff_not] at this;exact⟨List.length_pos_iff.2 this.2.1.1,by have:=this.2.1.2;show(g i).length<=80;omega⟩
   ·by_cases h40:(40:Int)<(n:Int)
    ·rw[if_pos h40] at h;exact absurd h (by decide)
    ·omega
theorem OH (n:Nat)(f g:Nat->List UInt8):cA n f g=0∨cA n f g=1∨cA n f g=12:=by
 unfold cA;cases Hw n f g with
 | false=>exact .inr (.inl rfl)
 | true =>
   rw[cond_true];by_cases h:(40:Int)<(n:Int)
   ·rw[if_pos h];exact .inr (.inr rfl)
   ·rw[if_neg h];exact .inl rfl
theorem Sc {n:Nat}{f g:Nat->List UInt8}(h: ¬ cA n f g=0)(h1: ¬ cA n f g=1):cA n f g=12:=by
 rcases OH n f g with e | e | e
 ·exact absurd e h
 ·exact absurd e h1
 ·exact e
theorem Am {v:SV}{k:IntKind}{a b:Int}{l l':Bool}(h:a=b):af (.aN [v,.int k l a]) (.aN [v,.int k l' b]):=by subst h;exact λE=>rfl
theorem jQ (n:Nat)(f g:Nat->List UInt8):av n (λi=>ak (f i)) g=rowsOf (av n f g):=by unfold av rowsOf;rw[List.map_map];rfl
theorem jf {n:Nat}{f g:Nat->List UInt8}(h:cA n f g=0):cg 13 (av n (λi=>ak (f i)) g):=by rw[jQ];exact rS (gF h).1
theorem VO (m:Nat)(l:List Rw):(b8 m l).length<=m*l.length+1:=by have:=w9 m l;unfold b8;rw[er];omega
theorem IP (n:Nat)(f g:Nat->List UInt8)(hn:n<9223372036854775808)(z:Bool)(o c:Nat)(key:Option Nat):aB (gD M5 26 ei [.bS 0 2 z o 0 n c] [fD z o c n f g key] (Gb n f g)):=by
 refine aB.pr (XB n f g z o c key) ?_;simp only[c6,S,true_and,and_true,aK,c9,decide_eq_true_eq,decide_eq_false_iff_not];refine⟨hn,λh=>⟨λh'=>absurd h' h,λ_=>⟨λe=>Am e,λe=>Am (Sc h e)⟩⟩,λh=> ?_⟩;obtain⟨he,h40⟩:=gF h;have hro:=jf h;have hl:=dr n (λi=>ak (f i)) g;refine⟨⟨by omega,λi hi=> ?_⟩,λc hc=>⟨(av n (λi=>ak (f i)) g,c),⟨hro,by rw[hl];omega⟩,⟨rfl,rfl⟩,?_,λx hx R=>⟨λy hy=> ?_,?_⟩⟩⟩
 ·have:=(he.key (f i,g i) (by unfold av;exact eB.2 ⟨i,Z.2 hi,rfl⟩)).2;have:(f i).length<=6:=this;omega
 ·exact od
 ·have hL:y.L.length<=100000:=hy.1;have hu:=wA y.L.length y.L rfl;obtain⟨c1,c2⟩:=YZ y.L y.s;have hd:=AH y.L y.s;rw[hd];refine⟨⟨by omega,by omega⟩,λh1=>⟨⟨by omega,by omega⟩,λc hc=>⟨c,?_⟩⟩,λh1=>⟨y.c,?_⟩⟩
  ·rw[← hd] at h1;have hn:y.s∉ aG y.L:=λe=>(Nb y.L y.s).1 h1 ((kS _ _ rfl _).1 e);have e:aG (y.L++[y.s])=aG y.L++[y.s]:=by rw[ov,if_neg hn]
   have el:(aG (y.L++[y.s])).length=(aG y.L).length+1:=by rw[e,V];rfl
   refine⟨by omega,⟨el.symm,rfl⟩,Xo e rfl,?_⟩;rw[← hd];exact Na _ _
  ·rw[← hd] at h1;have hn:y.s∈ aG y.L:=(kS _ _ rfl _).2 (fo λe=>h1 ((Nb y.L y.s).2 e));have e:aG (y.L++[y.s])=aG y.L:=by rw[ov,if_pos hn]
   refine⟨by rw[e];exact hy.2,⟨by rw[e],rfl⟩,yC e.symm rfl,?_⟩;rw[← hd];exact Na _ _
 ·have hal:=VO 13 (av n (λi=>ak (f i)) g);have ha:([]++b8 13 (av n (λi=>ak (f i)) g):List (List UInt8)).length<=100000:=by rw[List.nil_append];omega
  refine⟨⟨[],0,x.2,x.1,b8 13 (av n (λi=>ak (f i)) g)⟩,⟨hx,ha,S _⟩,rfl,rfl,rfl,aa.DH λ_=>rfl,aa.refl _,aa.refl _,aa.refl _,λy hy=>⟨λ_=>⟨y,hy,aa.refl _,λE=>rfl⟩,λh'=>absurd h h'⟩⟩
def Dv (z:Bool)(l:List Rw)(c:Nat):SB:=.rows z l.length [bK l,bL l] F (c*2) 50
def Nk (l:List Rw):cL:=.all Nat λc=>.req (l.length<=c) (.new (λk=>.aZ k 2 C 0 l.length c) (Dv C l c))
def dX (fr to:List UInt8)(n:Nat)(f g:Nat->List UInt8)(i:Nat):List Rw:=aj fr to ((av n f g).take i)
noncomputable def YG (fr to:List UInt8)(n:Nat)(f g:Nat->List UInt8):aV :=
 {α:=Nat×Nat,pre:=λ_ x=>x.1<=n/\(dX fr to n f g x.1).length<=x.2,kT:=λ_ x=>n - x.1,fresh:=1,slots:=λst x=>[(10,.int .i64 F x.1),(5,.aZ st.nx 2 C 0 (dX fr to n f g x.1).length x.2)],
  mem:=λst x=>[(st.nx,Dv C (dX fr to n f g x.1) x.2)]}
noncomputable def Ry (fr to:List UInt8)(n:Nat)(f g:Nat->List UInt8):fJ:={cm with cG:=λf=>aE f FW,bx:=λh=>if h=23 then [(3,always (YG fr to n f g))] else []}
theorem Zb (fr to:List UInt8)(n:Nat)(f g:Nat->List UInt8):Sx.Good Q (Ry fr to n f g):=.of bR xQ bl
noncomputable def br (n:Nat)(f g:Nat->List UInt8):List UInt8:=aC (ctext 13 (av n (λi=>ak (f i)) g))
noncomputable def N6 (n:Nat)(f g:Nat->List UInt8):cL:=.fork (I (cA n f g=0)) λb=>match b with
 | true=>.ret (.aN [.str F (br n f g),.int .i64 C 0])
 | false=>.fork (I (cA n f g=1)) λb=>match b with
   | true=>.ret (.aN [.str C [],.int .i64 C 1])
   | false=>.ret (.aN [.str C [],.int .i64 C 12])
noncomputable def RR:fJ:={cm with cG:=λf=>aE f Lv}
theorem Zy:Sx.Good Q RR:=.of bR DY bl
theorem QF (fr to:List UInt8)(n:Nat)(f g:Nat->List UInt8)(z:Bool)(o c:Nat)(key:Option Nat):cZ (.n (.s 0 (.n .k (.n .k .t))) (.n (.s 4 (.n (.s 3 (.n .k (.n (.s 0 .k) (.s 0 (.n .k .t))))) (.s 1 (.n .k (.n (.s 0 .k) (.s 0 (.n .k .t))))))) .k)) (gD (Ry fr to n f g) 23 d! [.bS 0 2 z o 0 n c,.agg [.str F fr,.str F to]] [fD z o c n f g key] (Nk (aj fr to (av n f g)))) (((∃(u7:Nat×Nat),(u7.1<=n/\(dX fr to n f g u7.1).length<=u7.2)/\0=(u7.1:Int)/\(dX fr to n f g u7.1).length=0/\(Dv C (dX fr to n f g u7.1) u7.2).no=C)/\∀(u6:Nat×Nat),u6.1<=n/\(dX fr to n f g u6.1).length<=u6.2->(I ((u6.1:Int)<(n:Int))=C->(0<=(u6.1:Int)/\(u6.1:Int)<(n:Int))/\(o=o/\0+(u6.1:Int).toNat<n)/\(f (0+(u6.1:Int).toNat)).length<1099511627776/\M (SB.cells [SV.str F fr,SV.str F to] 2 28)=M (SB.cells [SV.str F fr,SV.str F to] 2 28)/\(fr.length<=1000/\to.length<=1000)/\(hasB fr to (ak (f (0+(u6.1:Int).toNat)))=C->(0+(dX fr to n f g u6.1).length<=(dX fr to n f g u6.1).length/\True/\2*((dX fr to n f g u6.1).length+1)*32<=(281474976710656:Nat)/\(dX fr to n f g u6.1).length+1<(9223372036854775808:Nat))/\∀(u5:Nat),(dX fr to n f g u6.1).length+1<=u5->I6 ((u6.1:Int)+1)/\∃(u4:Nat×Nat),((u4.1<=n/\(dX fr to n f g u4.1).length<=u4.2)/\n - u4.1<n - u6.1) /\(u6.1:Int)+1=(u4.1:Int)/\((dX fr to n f g u6.1).length+1=(dX fr to n f g u4.1).length/\u5=u4.2)/\aa (SB.rows C ((dX fr to n f g u6.1).length+1) [aq.str λu3=>if u3<(dX fr to n f g u6.1).length then((dX fr to n f g u6.1).getD u3 ([],[])).1 else bP [f (0+(u6.1:Int).toNat)] (u3 - (dX fr to n f g u6.1).length),aq.str λu2=>if u2<(dX fr to n f g u6.1).length then((dX fr to n f g u6.1).getD u2 ([],[])).2 else bP [g (0+(u6.1:Int).toNat)] (u2 - (dX fr to n f g u6.1).length)] F (u5*2) 50) (SB.rows C (dX fr to n f g u4.1).length [bK (dX fr to n f g u4.1),bL (dX fr to n f g u4.1)] F (u4.2*2) 50))/\(hasB fr to (ak (f (0+(u6.1:Int).toNat)))=F->I6 ((u6.1:Int)+1)/\∃(u1:Nat×Nat),((u1.1<=n/\(dX fr to n f g u1.1).length<=u1.2)/\n - u1.1<n - u6.1)/\(u6.1:Int)+1=(u1.1:Int)/\((dX fr to n f g u6.1).length=(dX fr to n f g u1.1).length/\u6.2=u1.2) /\aa (SB.rows C (dX fr to n f g u6.1).length [bK (dX fr to n f g u6.1),bL (dX fr to n f g u6.1)] F (u6.2*2) 50) (SB.rows C (dX fr to n f g u1.1).length [bK (dX fr to n f g u1.1),bL (dX fr to n f g u1.1)] F (u1.2*2) 50)))/\(I ((u6.1:Int)<(n:Int))=F->∃(u0:Nat),(aj fr to (av n f g)).length<=u0/\aa (SB.rows C (dX fr to n f g u6.1).length [bK (dX fr to n f g u6.1),bL (dX fr to n f g u6.1)] F (u6.2*2) 50) (SB.rows C (aj fr to (av n f g)).length [bK (aj fr to (av n f g)),bL (aj fr to (av n f g))] F (u0*2) 50)/\af (SV.aZ ((2:Nat)) 2 C 0 (dX fr to n f g u6.1).length u6.2) (SV.aZ ((2:Nat)) 2 C 0 (aj fr to (av n f g)).length u0)))):=⟨by kernel_rfl,by kernel_rfl⟩
theorem aaG (n:Nat)(f g:Nat->List UInt8)(z:Bool)(o c:Nat)(key:Option Nat):cZ (.s 3 (.n (.s 0 .k) .k)) (gD RR 21 d_ [.bS 0 2 z o 0 n c] [fD z o c n f g key] (N6 n f g)) (((((z=z/\o=o/\0+n<=n)/\True)/\n<9223372036854775808)/\((!decide (cA n f g=0))=C->((!decide (cA n f g=0))=C->(I (cA n f g=0)=C->af (SV.aN [SV.str C [],SV.int .i64 F (cA n f g)]) (SV.aN [SV.str F (br n f g),SV.int .i64 C 0]))/\(I (cA n f g=0)=F->(I (cA n f g=1)=C->af (SV.aN [SV.str C [],SV.int .i64 F (cA n f g)]) (SV.aN [SV.str C [],SV.int .i64 C 1]))/\(I (cA n f g=1)=F->af (SV.aN [SV.str C [],SV.int .i64 F (cA n f g)]) (SV.aN [SV.str C [],SV.int .i64 C 12]))))/\((!decide (cA n f g=0))=F->(True/\BT [[]])/\(I (cA n f g=0)=C->af (SV.aN [WV [[]],SV.int .i64 C 0]) (SV.aN [SV.str F (br n f g),SV.int .i64 C 0]))/\(I (cA n f g=0)=F->(I (cA n f g=1)=C->af (SV.aN [WV [[]],SV.int .i64 C 0]) (SV.aN [SV.str C [],SV.int .i64 C 1]))/\(I (cA n f g=1)=F->af (SV.aN [WV [[]],SV.int .i64 C 0]) (SV.aN [SV.str C [],SV.int .i64 C 12])))))/\((!decide (cA n f g=0))=F->(((z=z /\o=o/\0+n<=n)/\True)/\n<=1000/\∀(u8:Nat),u8<n->(f u8).length<1099511627776)/\∀(u7:Nat),(av n (fun(u6:Nat)=>ak (f u6)) g).length<=u7->∃(u5:List Rw×Nat),(cg 13 u5.1/\u5.1.length<=1000/\(13:Nat)<=(13:Nat))/\((av n (fun(u4:Nat)=>ak (f u4)) g).length=u5.1.length/\u7=u5.2)/\aa (SB.rows F (av n (fun(u3:Nat)=>ak (f u3)) g).length [bK (av n (fun(u2:Nat)=>ak (f u2)) g),bL (av n (fun(u1:Nat)=>ak (f u1)) g)] F (u7*2) 174) (SB.rows F u5.1.length [bK u5.1,bL u5.1] C (u5.2*2) 174)/\∀(u0:Nat×Pd),Told u0.2 14 u0.1 (b8 13 u5.1)->u0.2.D u0.1=C/\(True/\BT [u0.2.cS u0.1])/\(I (cA n f g=0)=C->af (SV.aN [WV [u0.2.cS u0.1],SV.int .i64 C 0]) (SV.aN [SV.str F (br n f g),SV.int .i64 C 0]))/\(I (cA n f g=0)=F->(I (cA n f g=1)=C->af (SV.aN [WV [u0.2.cS u0.1],SV.int .i64 C 0]) (SV.aN [SV.str C [],SV.int .i64 C 1]))/\(I (cA n f g=1)=F ->af (SV.aN [WV [u0.2.cS u0.1],SV.int .i64 C 0]) (SV.aN [SV.str C [],SV.int .i64 C 12])))))):=⟨by kernel_rfl,by kernel_rfl⟩
theorem Ea {n:Nat}{f g:Nat->List UInt8}{i:Nat}(hi:i<n):(av n f g).take (i+1)=(av n f g).take i++[(f i,g i)]:=by have hl:=dr n f g;rw[yz (by omega)];rw[vB hi]
theorem VZ {fr to:List UInt8}{n:Nat}{f g:Nat->List UInt8}{i:Nat}(hi:i<n)(h:hasB fr to (ak (f i))=C):dX fr to n f g (i+1)=dX fr to n f g i++[(f i,g i)]:=by unfold dX aj;rw[Ea hi,eR];congr 1;rw[eT,h];rfl
theorem YS {fr to:List UInt8}{n:Nat}{f g:Nat->List UInt8}{i:Nat}(hi:i<n)(h:hasB fr to (ak (f i))=F):dX fr to n f g (i+1)=dX fr to n f g i:=by unfold dX aj;rw[Ea hi,eR,eT,h];simp
theorem VY (fr to:List UInt8)(n:Nat)(f g:Nat->List UInt8)(i:Nat):(dX fr to n f g i).length<=n:=by
 have h1:=List.length_filter_le (λe:List UInt8×List UInt8=>hasB fr to (ak e.1)) ((av n f g).take i);have h2:((av n f g).take i).length<=(av n f g).length:=by rw[List.length_take];omega
 rw[dr] at h2;unfold dX aj;omega
theorem VX (fr to:List UInt8)(n:Nat)(f g:Nat->List UInt8)(i:Nat)(hi:n<=i):dX fr to n f g i=aj fr to (av n f g):=by unfold dX;rw[e7 (by rw[dr];exact hi)]
theorem Hv {z:Bool}{l l':List Rw}{c c':Nat}(h:l=l')(hc:c=c'):aa (Dv z l c) (Dv z l' c'):=by subst h;subst hc;exact aa.refl _
theorem Sw {l l':List Rw}{a b:List UInt8}{c c':Nat}{ty:TypeId}(h:l'=l++[(a,b)])(hc:c=c'):aa (.rows C (l.length+1) [.str λj=>if j<l.length then(l.getD j ([],[])).1 else bP [a] (j - l.length),.str λj=>if j<l.length then(l.getD j ([],[])).2 else bP [b] (j - l.length)] F (c*2) ty) (.rows C l'.length [bK l',bL l'] F (c'*2) ty):=by subst h;subst hc;exact N9 (r:=(a,b))
theorem CS (fr to:List UInt8)(n:Nat)(f g:Nat->List UInt8)(hn:n<=1000)(hf: ∀ i,i<n->(f i).length<1099511627776)(hr:fr.length<=1000)(ht:to.length<=1000)(z:Bool)(o c:Nat)(key:Option Nat):aB (gD (Ry fr to n f g) 23 d! [.bS 0 2 z o 0 n c,.agg [.str F fr,.str F to]] [fD z o c n f g key] (Nk (aj fr to (av n f g)))):=by
 refine aB.pr (QF fr to n f g z o c key) ?_;simp only[Int.toNat_natCast,c6,S,true_and,decide_eq_true_eq,decide_eq_false_iff_not];refine⟨⟨(0,0),⟨c7 _,S _⟩,rfl,rfl,rfl⟩,λx ⟨h1,h2⟩=>⟨λh=> ?_,λh=> ?_⟩⟩
 ·obtain⟨i,c⟩:=x;have hlt:i<n:=by omega
  have hl:(dX fr to n f g (i,c).fst).length<=n:=VY fr to n f g i;have hlt:(i,c).fst<n:=hlt;refine⟨by omega,hlt,hf i hlt,⟨hr,ht⟩,λhb=>⟨⟨by omega,by omega⟩,λc' hc'=>⟨⟨by omega,by omega⟩,(i+1,c'),?_⟩⟩,λhb=>⟨⟨by omega,by omega⟩,(i+1,c),?_⟩⟩
  ·have e:=VZ (g:=g) hlt hb;have el:(dX fr to n f g (i+1)).length=(dX fr to n f g i).length+1:=by rw[e,V];rfl
   exact⟨⟨⟨by omega,by show _<=c';rw[el];exact hc'⟩,by show n - (i+1)<n - i;omega⟩,by show(i:Int)+1=((i+1:Nat):Int);omega,⟨el.symm,rfl⟩,Sw e rfl⟩
  ·have e:=YS (g:=g) hlt hb;exact⟨⟨⟨by omega,by show(dX fr to n f g (i+1)).length<=c;rw[e];exact h2⟩,by show n - (i+1)<n - i;omega⟩,by show(i:Int)+1=((i+1:Nat):Int);omega,⟨congrArg en e.symm,rfl⟩,Hv (z:=C) e.symm rfl⟩
 ·obtain⟨i,c⟩:=x;have e:=VX fr to n f g i (by omega);exact⟨c,by rw[← e];exact h2,Hv (z:=C) e rfl,yf rfl (congrArg en e) rfl⟩
theorem Sy (l:List Rw):(Nk l).Ok:=λ_=>⟨rfl,rfl,λk=>by
 show bf k (k+1)=C;rw[an];omega,λE E' k k' h=>by
 cases l with
 | nil=>rfl
 | cons a r =>show(SV.aZ k 2 C 0 (a::r).length _).val E=(SV.aZ k' 2 C 0 (a::r).length _).val E';have:=h (SB.jo (i:=0) (fm _));simp only[SV.val];rw[this]⟩
def Xf:List tO:=[.of (.slice dE),.agg [.one,.one]]
def uU (vs:List SV)(l:List Seen):Option (Prop×cL):=match vs,l with
 | [_,.agg [.str F fr,.str F to]],[⟨_,_,_,n,_,[.str f,.str g]⟩]=>M (n<=1000/\(∀ i,i<n->(f i).length<1099511627776)/\fr.length<=1000/\to.length<=1000,Nk (aj fr to (av n f g)))
 | _,_=>J
theorem tU:az Q 23 (bE Xf uU):=by
 refine fT (n:=20) (fn:=d!) Tryz.func23 (by kernel_rfl) (by kernel_rfl) ?_;intro vs l q a h hq;unfold uU at h;split at h
 ·rename_i v fr to key z o n c f g;injection h with h;injection h with h1 h2;subst h1;subst h2;exact⟨_,Zb fr to n f g,rfl,Sy _,CS fr to n f g hq.1 hq.2.1 hq.2.2.1 hq.2.2.2 z o c key⟩
 ·cases h
theorem Ho {l:List Rw}(h:cg 13 l):(ctext 13 l).length<=700:=by
 cases l with
 | nil=>show(cR e8).length<=700;decide +kernel
 | cons r l=>exact k8 (S _) h (List.cons_ne_nil _ _)
theorem Mi (n:Nat)(f g:Nat->List UInt8)(hn:n<9223372036854775808)(z:Bool)(o c:Nat)(key:Option Nat):aB (gD RR 21 d_ [.bS 0 2 z o 0 n c] [fD z o c n f g key] (N6 n f g)):=by
 refine aB.pr (aaG n f g z o c key) ?_;simp only[c6,S,true_and,and_true,aK,c9,decide_eq_true_eq,decide_eq_false_iff_not];refine⟨hn,λh=>⟨λ_=>⟨λh'=>absurd h' h,λ_=>⟨λe=>Am e,λe=>Am (Sc h e)⟩⟩,λh'=>absurd h' h⟩,λh=> ?_⟩;obtain⟨he,h40⟩:=gF h;have hro:=jf h;have hl:=dr n (λi=>ak (f i)) g;refine⟨⟨by omega,λi hi=> ?_⟩,λc hc=>⟨(av n (λi=>ak (f i)) g,c),⟨hro,by rw[hl];omega⟩,⟨rfl,rfl⟩,od,λx hx=> ?_⟩⟩
 ·have:=(he.key (f i,g i) (by unfold av;exact eB.2 ⟨i,Z.2 hi,rfl⟩)).2;have:(f i).length<=6:=this;omega
 ·obtain⟨_,_,hb3,hb4⟩:=CM hx;have ht:x.2.cS x.1=ctext 13 (av n (λi=>ak (f i)) g):=by injection hb3 with e _;exact e.symm
  rw[ht];have h7:(ctext 13 (av n (λi=>ak (f i)) g)).length<=700:=Ho hro;have ef:flat [ctext 13 (av n (λi=>ak (f i)) g)]=ctext 13 (av n (λi=>ak (f i)) g):=by unfold flat;simp
  refine⟨hb4,⟨by rw[ef];omega,by show 1<_;decide⟩,λ_=> ?_,λh'=>absurd h h'⟩;intro E;unfold WV br;rw[ef]
noncomputable def Ch (vs:List SV)(l:List Seen):Option (Prop×cL):=match vs,l with
 | [_],[⟨_,_,_,n,_,[.str f,.str g]⟩]=>M (n<9223372036854775808,N6 n f g)
 | _,_=>J
theorem Uz (n:Nat)(f g:Nat->List UInt8):(N6 n f g).Ok:=λb=>by
 cases b with
 | true=>rfl
 | false=>intro b;cases b<;>rfl
theorem Xb:az Q 21 (bE UK Ch):=by
 refine fT (n:=20) (fn:=d_) Tryz.func21 (by kernel_rfl) (by kernel_rfl) ?_;intro vs l q a h hq;unfold Ch at h;split at h
 ·rename_i v key z o n c f g;injection h with h;injection h with h1 h2;subst h1;subst h2;exact⟨_,Zy,rfl,Uz n f g,Mi n f g hq z o c key⟩
 ·cases h
def sG (vs:List SV)(l:List Seen):Option (Prop×cL):=match vs,l with
 | [_],[⟨_,_,_,n,_,[.str f,.str g]⟩]=>M (n<9223372036854775808,Gb n f g)
 | _,_=>J
theorem PI (n:Nat)(f g:Nat->List UInt8):(Gb n f g).Ok:=λb=>by
 cases b with
 | false=>intro b;cases b<;>rfl
 | true =>
   intro c;refine⟨rfl,rfl,λk=>by simp[SV.wf,SV.fH,an],λE E' k k' h=> ?_⟩;simp only[SV.val,SV.vals];cases e:aG (b8 13 (av n (λi=>ak (f i)) g))with
   | nil=>rfl
   | cons a r=>rw[h (by rw[e];exact SB.jo (i:=0) (fm _))]
theorem IQ:az Q 26 (bE UK sG):=by
 refine fT (n:=20) (fn:=ei) Tryz.func26 (by kernel_rfl) (by kernel_rfl) ?_;intro vs l q a h hq;unfold sG at h;split at h
 ·rename_i v key z o n c f g;injection h with h;injection h with h1 h2;subst h1;subst h2;exact⟨_,Zu,rfl,PI n f g,IP n f g hq z o c key⟩
 ·cases h
structure Yu where
 n:Nat
 f:Nat->List UInt8
 g:Nat->List UInt8
 z:Bool
 o:Nat
 c:Nat
noncomputable def lV (n:Nat)(f g:Nat->List UInt8):List (List UInt8):=aG (b8 13 (av n (λi=>ak (f i)) g))
noncomputable def fz (n:Nat)(f g:Nat->List UInt8)(q:Nat):List UInt8:=(lV n f g).getD q []
noncomputable def xz (n:Nat)(f g:Nat->List UInt8):Bool:=oQ n f g&&(I (cA n f g=0)&&fq (lV n f g).length (fz n f g))
noncomputable def lW:gE :=
 {G:=Yu,n:=1,N:=4,pre:=λx=>x.n<9223372036854775808,args:=λx=>[.bS 0 2 x.z x.o 0 x.n x.c],mem:=λx=>[(0,.view x.z x.o x.n [.str x.f,.str x.g])],
  wP:=λx=>.fork (xz x.n x.f x.g) λb=>match b with
   | true=>.all tJ λy=>.req (nC (lV x.n x.f x.g).length (fz x.n x.f x.g) (aC (fz x.n x.f x.g 0)) y) (.ret (.aN [.ptr 1 C 0,.str F (aC (fz x.n x.f x.g 0))]) [(1,gC 2000 2),(2,.fmap (cn y.Fr) (.ref 3 y.g) J),(3,y.A.bare)])
   | false=>.ret (.aN [.bO,.str C []]) []}
noncomputable def NH:List (FuncId×PT):=(19,bE UK AS)::(26,bE UK sG)::(45,bE shT wX)::(46,cD Ow)::fP
theorem Lq:bn Q (λf=>aE f NH):=.cons Wb (bQ _ _) (.cons IQ (bQ _ _) (.cons Rk (bQ _ _) (.cons Yx (cc _) cO)))
noncomputable def Ku:fJ:={cm with cG:=λf=>aE f NH}
theorem Nu:Sx.Good Q Ku:=.of bR Lq bl
theorem Xx (x:Yu):cZ (.s 1 (.n (.s 4 (.n (.s 0 .k) (.s 1 (.n .k (.s 0 (.n .k (.n (.s 1 (.n .k (.s 0 .k))) .t))))))) .t)) (runM Ku 12 c! lW x) (((((x.z=x.z/\x.o=x.o/\0+x.n<=x.n)/\True)/\True)/\(((x.z=x.z/\x.o=x.o/\0+x.n<=x.n)/\True)/\x.n<9223372036854775808)/\(I (cA x.n x.f x.g=0)=C->∀(u38:Nat),(aG (b8 13 (av x.n (fun(u37:Nat)=>ak (x.f u37)) x.g))).length<=u38->(((C=C/\0+(aG (b8 13 (av x.n (fun(u36:Nat)=>ak (x.f u36)) x.g))).length<=(aG (b8 13 (av x.n (fun(u35:Nat)=>ak (x.f u35)) x.g))).length)/\True)/\(aG (b8 13 (av x.n (fun(u34:Nat)=>ak (x.f u34)) x.g))).length<=100000/\∀(u33:Nat),u33<(aG (b8 13 (av x.n (fun(u32:Nat)=>ak (x.f u32)) x.g))).length->((aG (b8 13 (av x.n (fun(u31:Nat)=>ak (x.f u31)) x.g))).getD u33 []).length<1099511627776)/\((!oQ x.n x.f x.g)=C->xz x.n x.f x.g=C->∃(u30:tJ),nC (lV x.n x.f x.g).length (fz x.n x.f x.g) (aC (fz x.n x.f x.g 0)) u30/\False)/\((!oQ x.n x.f x.g)=F->((!fq (aG (b8 13 (av x.n (fun(u29:Nat)=>ak (x.f u29)) x.g))).length fun(u28:Nat)=>(aG (b8 13 (av x.n (fun(u27:Nat)=>ak (x.f u27)) x.g))).getD u28 [])=C->xz x.n x.f x.g=C ->∃(u26:tJ),nC (lV x.n x.f x.g).length (fz x.n x.f x.g) (aC (fz x.n x.f x.g 0)) u26/\False)/\((!fq (aG (b8 13 (av x.n (fun(u25:Nat)=>ak (x.f u25)) x.g))).length fun(u24:Nat)=>(aG (b8 13 (av x.n (fun(u23:Nat)=>ak (x.f u23)) x.g))).getD u24 [])=F->∃(u22:AdG),(0<u22.n/\u22.n<=1000/\(u22.n:Int)<=u22.room/\u22.room<=1000000/\(∀(u21:Nat),u21<u22.n->(u22.f u21).length<=1000)/\mV u22.n u22.f=C/\Clo u22.n u22.f)/\((aG (b8 13 (av x.n (fun(u20:Nat)=>ak (x.f u20)) x.g))).length=u22.n/\u38=u22.c)/\2000=u22.room/\aa (SB.rows C (aG (b8 13 (av x.n (fun(u19:Nat)=>ak (x.f u19)) x.g))).length [aq.str λu18=>(aG (b8 13 (av x.n (fun(u17:Nat)=>ak (x.f u17)) x.g))).getD u18 []] F (u38*1) 9) (SB.rows C u22.n [aq.str u22.f] C (u22.c*1) 9)/\∀(u16:tJ),nC u22.n u22.f (aC (u22.f 0)) u16->(xz x.n x.f x.g=C->∃(u15:tJ),nC (lV x.n x.f x.g).length (fz x.n x.f x.g) (aC (fz x.n x.f x.g 0)) u15/\aC (u22.f 0)=aC (fz x.n x.f x.g 0)/\u22.room=2000 /\aa (SB.fmap (cn u16.Fr) (aD.aJ (pL 3 (tB 0 [((3:Nat),SB.cells (SV.agg (aT (aT [SV.int .i64 C 0,SV.fB] 0 (SV.int .i64 (C&&C) 2000).cells) 1 (SV.map 2).cells)).cells 2 126),((2:Nat),SB.map [] 0),((1:Nat),SB.rows C (aG (b8 13 (av x.n (fun(u14:Nat)=>ak (x.f u14)) x.g))).length [aq.str λu13=>(aG (b8 13 (av x.n (fun(u12:Nat)=>ak (x.f u12)) x.g))).getD u13 []] F (u38*1) 9),((0:Nat),SB.view x.z x.o x.n [aq.str x.f,aq.str x.g])] (SB.rows C u22.n [aq.str u22.f] C (u22.c*1) 9) (SB.rows C (aG (b8 13 (av x.n (fun(u11:Nat)=>ak (x.f u11)) x.g))).length [aq.str λu10=>(aG (b8 13 (av x.n (fun(u9:Nat)=>ak (x.f u9)) x.g))).getD u10 []] F (u38*1) 9) (tB 0 [((3:Nat),SB.cells (SV.agg (aT (aT [SV.int .i64 C 0,SV.fB] 0 (SV.int .i64 (C&&C) 2000).cells) 1 (SV.map 2).cells)).cells 2 126),((2:Nat),SB.map [] 0),((1:Nat),SB.rows C (aG (b8 13 (av x.n (fun(u8:Nat)=>ak (x.f u8)) x.g))).length [aq.str λu7=>(aG (b8 13 (av x.n (fun(u6:Nat)=>ak (x.f u6)) x.g))).getD u7 []] F (u38*1) 9),((0:Nat),SB.view x.z x.o x.n [aq.str x.f,aq.str x.g])] (SB.map [] 0) (SB.map [] 0) [((1:Nat),(2:Nat)),((2:Nat),(1:Nat)),((0:Nat),(3:Nat))])) 4) (aD.ref 3 u16.g)) J) (SB.fmap (cn u15.Fr) (aD.ref 3 u15.g) J) /\aa (SB.dR u16.A.D [aq.str u16.A.cS] 4 133 F) (SB.dR u15.A.D [aq.str u15.A.cS] 4 133 F))/\(xz x.n x.f x.g=F->False))))/\(I (cA x.n x.f x.g=0)=F->(I (cA x.n x.f x.g=1)=C->((True/\True)/\(0:Nat)<=(100000:Nat)/\∀(u5:Nat),u5<0->(0:Nat)<(1099511627776:Nat))/\((!oQ x.n x.f x.g)=C->xz x.n x.f x.g=C->∃(u4:tJ),nC (lV x.n x.f x.g).length (fz x.n x.f x.g) (aC (fz x.n x.f x.g 0)) u4/\False)/\((!oQ x.n x.f x.g)=F->xz x.n x.f x.g=C->∃(u3:tJ),nC (lV x.n x.f x.g).length (fz x.n x.f x.g) (aC (fz x.n x.f x.g 0)) u3/\False))/\(I (cA x.n x.f x.g=1)=F->((True/\True)/\(0:Nat)<=(100000:Nat)/\∀(u2:Nat),u2<0->(0:Nat)<(1099511627776:Nat))/\((!oQ x.n x.f x.g)=C->xz x.n x.f x.g=C->∃(u1:tJ),nC (lV x.n x.f x.g).length (fz x.n x.f x.g) (aC (fz x.n x.f x.g 0)) u1/\False)/\((!oQ x.n x.f x.g)=F->xz x.n x.f x.g=C->∃(u0:tJ),nC (lV x.n x.f x.g).length (fz x.n x.f x.g) (aC (fz x.n x.f x.g 0)) u0/\False))))):=⟨by kernel_rfl,by kernel_rfl⟩
structure Yv (n:Nat)(f g:Nat->List UInt8):Prop where
 pos:0<(lV n f g).length
 le:(lV n f g).length<=1000
 len: ∀ i,i<(lV n f g).length->(fz n f g i).length<=1000
 read:mV (lV n f g).length (fz n f g)=C
 clo:fq (lV n f g).length (fz n f g)=C->Clo (lV n f g).length (fz n f g)
theorem y5 (H: ∀ n f g,cA n f g=0->Yv n f g)(x:Yu)(hx:lW.pre x):aB (runM Ku 12 c! lW x):=by
 refine aB.pr (Xx x) ?_;have hx:x.n<9223372036854775808:=hx;have no0: ∀ {P:Prop},cA x.n x.f x.g≠0->xz x.n x.f x.g=C->P:=λh e=>by unfold xz at e;rw[decide_eq_false h,eC,c8] at e;cases e
 have no1: ∀ {P:Prop},oQ x.n x.f x.g=F->xz x.n x.f x.g=C->P:=λh e=>by unfold xz at e;rw[h,eC] at e;cases e
 simp only[c6,S,true_and,and_true,decide_eq_true_eq,decide_eq_false_iff_not,aK,c9];refine⟨hx,λh0 c hc=> ?_,λh0=>⟨λ_=>⟨⟨c7 _,λi hi=>absurd hi (b! _)⟩,λ_=>no0 h0,λ_=>no0 h0⟩,λ_=>⟨⟨c7 _,λi hi=>absurd hi (b! _)⟩,λ_=>no0 h0,λ_=>no0 h0⟩⟩⟩;have hH:=H _ _ _ h0;have e1:aG (b8 13 (av x.n (λi=>ak (x.f i)) x.g))=lV x.n x.f x.g:=rfl;have e2:(λi=>(lV x.n x.f x.g).getD i [])=fz x.n x.f x.g:=rfl;rw[e1];have hle:=hH.le;refine⟨⟨by omega,λi hi=>Nat.lt_of_le_of_lt (hH.len i hi) (by decide)⟩,λhf=>no1 hf,λhf=>⟨λha e=> ?_,λha=>⟨⟨(lV x.n x.f x.g).length,fz x.n x.f x.g,c,2000⟩,⟨hH.pos,hH.le,by show((lV x.n x.f x.g).length:Int)<=2000;omega,by show(2000:Int)<=1000000;decide,hH.len,hH.read,hH.clo ha⟩,⟨rfl,rfl⟩,rfl,?_,λy hy=>⟨λ_=>⟨y,hy,rfl,rfl,aa.fmap (λ_=>rfl) (λ_=>rfl),aa.refl _⟩,λe=> ?_⟩⟩⟩⟩
 ·have ha:fq (lV x.n x.f x.g).length (fz x.n x.f x.g)=false:=ha;unfold xz at e;rw[ha,c8,c8] at e;cases e
 ·exact od
 ·have ha:fq (lV x.n x.f x.g).length (fz x.n x.f x.g)=true:=ha;unfold xz at e;rw[hf,decide_eq_true h0,ha] at e;cases e
theorem S6 (H: ∀ n f g,cA n f g=0->Yv n f g):az Q 12 (cD lW) :=gx (n:=20) (fn:=c!) Tryz.func12 (by kernel_rfl) (by kernel_rfl) lW λx hx=>⟨_,Nu,rfl,y5 H x hx⟩
theorem A6 (r:Nat->List UInt8): ∀ k j,j<aS r k->∃ i,i<k/\bw (r i)=C/\cK r k j=ah (r i)
 | 0,_,h=>absurd h (b! _)
 | k+1,j,h=>by
   simp only[aS,cK] at h ⊢;cases hb:bw (r k)with
   | false =>rw[hb] at h;obtain⟨i,h1,h2,h3⟩:=A6 r k j h;exact⟨i,by omega,h2,h3⟩
   | true =>
     rw[hb] at h;have h:j<aS r k+1:=h;by_cases e:j=aS r k
     ·exact⟨k,by omega,hb,by rw[cond_true,if_pos e]⟩
     ·obtain⟨i,h1,h2,h3⟩:=A6 r k j (by omega);exact⟨i,by omega,h2,by rw[cond_true,if_neg e];exact h3⟩
theorem Aw: ∀(m:Nat) (l:List Rw),cg m l->∀ t,t∈ cw m l->∃ m' l',m'<m/\cg m' l'/\l'≠[]/\t=ctext m' l'/\∀ u,u∈ cw m' l'->u∈ cw m l
 | 0,_,_,t,h=>by cases h
 | m+1,l,hl,t,h=>by
   unfold cw at h;obtain⟨i,hi,h⟩:=eA.1 h;by_cases e:aP l i=[]
   ·rw[if_pos e] at h;cases h
   ·rw[if_neg e] at h;have up: ∀ u,u∈ cw m (aP l i)->u∈ cw (m+1) l:=λu hu=>by unfold cw;exact eA.2 ⟨i,hi,by rw[if_neg e];exact List.mem_append_right _ hu⟩
    rcases a_.1 h with h | h
    ·by_cases s:(ctext m (aP l i)).length<32
     ·rw[if_pos s] at h;cases h
     ·rw[if_neg s,a!] at h;exact⟨m,aP l i,fl _,gA hl i,e,h,up⟩
    ·obtain⟨m',l',h1,h2,h3,h4,h5⟩:=Aw m (aP l i) (gA hl i) t h;exact⟨m',l',by omega,h2,h3,h4,λu hu=>up u (h5 u hu)⟩
theorem PW {m:Nat}{l:List Rw}(hm:m<=13)(h:cg m l)(hl:l≠[]){j:Nat}(hj:j<fW (ctext m l)): ∃ u,u∈ cw m l/\eK (ctext m l) j=aC u:=by
 unfold fW at hj;unfold eK;rw[gX (dZ hm h hl)] at hj ⊢;obtain⟨i,hi,hb,e⟩:=A6 _ 16 j hj
 match m,h with
 | 0,h =>
   match l,hl,h with
   | r::_,_,h=>exact absurd (h.len r (ez ..)) (b! _)
 | m+1,h =>
   rw[rR m l hi] at hb e;by_cases k0:aP l i=[]
   ·rw[if_pos k0] at hb;cases hb
   ·rw[if_neg k0] at hb e;by_cases s:(ctext m (aP l i)).length<32
    ·have:=lT hb;unfold eS at this;rw[if_pos s] at this;omega
    ·refine⟨ctext m (aP l i),?_,e.trans (i9 s).2.1⟩;unfold cw;refine eA.2 ⟨i,Z.2 hi,?_⟩;rw[if_neg k0,if_neg s];exact List.mem_append_left _ (a!.2 rfl)
theorem oO {l:List Rw}(h:cg 13 l){t:List UInt8}(ht:t∈ b8 13 l):bg t=C/\t.length<=700/\∀ j,j<fW t->∃ u,u∈ b8 13 l/\eK t j=aC u:=by
 have one: ∀ m l',m<=13->cg m l'->l'≠[]->t=ctext m l'->(∀ u,u∈ cw m l'->u∈ b8 13 l)->bg t=C/\t.length<=700/\∀ j,j<fW t->∃ u,u∈ b8 13 l/\eK t j=aC u:=λm l' hm h' hne e up=>by subst e;refine⟨(gz (dZ hm h' hne)).1,k8 hm h' hne,λj hj=> ?_⟩;obtain⟨u,hu,e⟩:=PW hm h' hne hj;exact⟨u,up u hu,e⟩
 unfold b8 at ht;rcases eu.1 ht with e | hb
 ·by_cases hl:l=[]
  ·subst hl;have e:t=cR e8:=e;subst e;have h0:fW (cR e8)=0:=by decide +kernel
   exact⟨by decide +kernel,by decide +kernel,λj hj=>by rw[h0] at hj;exact absurd hj (b! _)⟩
  ·exact one 13 l (S _) h hl e λu hu=>e6 _ hu
 ·obtain⟨m',l',h1,h2,h3,h4,h5⟩:=Aw 13 l h t hb;exact one m' l' (by omega) h2 h3 h4 λu hu=>e6 _ (h5 u hu)
theorem X9 {n:Nat}{f g:Nat->List UInt8}(h:cA n f g=0):Yv n f g:=by
 have hr:=jf h;have hin: ∀ i,i<(lV n f g).length->fz n f g i∈ b8 13 (av n (λi=>ak (f i)) g):=λi hi=>(kS _ _ rfl _).1 (tV hi);have at': ∀ u,u∈ b8 13 (av n (λi=>ak (f i)) g)->∃ q,q<(lV n f g).length/\fz n f g q=u:=λu hu=>by obtain⟨q,hq,e⟩:=List.getElem_of_mem ((kS _ _ rfl _).2 hu);refine⟨q,hq,?_⟩;show(aG _).getD q []=u;rw[List.getD_eq_getElem?_getD,ej hq];exact e
 refine⟨?_,?_,λi hi=>c5 (oO hr (hin i hi)).2.1 (by decide),?_,λ_ k hk j hj=> ?_⟩
 ·obtain⟨q,hq,_⟩:=at' _ (ez ..);omega
 ·have h1:=wA _ (b8 13 (av n (λi=>ak (f i)) g)) rfl;have h2:=w9 13 (av n (λi=>ak (f i)) g);have h3:=(gF h).2;rw[dr] at h2;have h4:(b8 13 (av n (λi=>ak (f i)) g)).length=(cw 13 (av n (λi=>ak (f i)) g)).length+1:=rfl;unfold lV;omega
 ·unfold mV;exact eN.2 λi hi=>(oO hr (hin i (Z.1 hi))).1
 ·obtain⟨g1,g2,_⟩:=gG _ _ k hk;obtain⟨u,hu,e⟩:=(oO hr (hin (cq (fz n f g) (lV n f g).length k).toNat (by omega))).2.2 j hj;obtain⟨q,hq,rfl⟩:=at' u hu;unfold qi;rw[e];exact qG _ _ q hq
theorem HP:az Q 12 (cD lW):=S6 λ_ _ _ h=>X9 h
end Go.Proofs.YtoibaecagklkaaaGreatDoor
