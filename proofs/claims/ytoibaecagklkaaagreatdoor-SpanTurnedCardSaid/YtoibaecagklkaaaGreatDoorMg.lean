/-
  The framework's twelfth part: one operation of a region; a region in the text's order.
-/
import Derived.Test.YtoibaecagklkaaaGreatDoorMf
open Array renaming getElem?_setIfInBounds->aK
open Bool renaming and_eq_true->J,and_true->N,false->F,or_eq_true->aM,true->C
open Go.Call renaming operands->O
open Go.Op renaming operands->M
open List renaming erase_comm->ag,getElem?_set->a_,length_erase_of_mem->V,mem_append->an,mem_cons->I,mem_cons_of_mem->a!,mem_erase_of_ne->W,mem_filter->bf,mem_of_mem_erase->L,mem_singleton->Y,set_cons_zero->bx
open Nat renaming beq->ay,land->bO,le_refl->Z,le_trans->S,lt_of_lt_of_le->T,testBit_and->bS,testBit_or->bU,zero_testBit->b_
open Option renaming none->G,some->A
namespace Go.Proofs.YtoibaecagklkaaaGreatDoor.Sx
open Go
noncomputable section
structure St where
 tmps:List (Option SV)
 m:Mem
 nx:Nat
def slot (tmps:List (Option SV))(i:Nat):Option SV :=
 match tmps,i with
 | [],_=>G
 | v::_,0=>v
 | _::r,i+1=>slot r i
theorem mW: ∀ {tmps:List (Option SV)} {i:Nat} {v:SV},slot tmps i=A v->tmps[i]?=A (A v)
 | [],_,_,h=>by simp[slot] at h
 | x::_,0,v,h=>by simp[slot] at h;simp[h]
 | _::r,i+1,v,h=>by simp[slot] at h;simpa using mW h
def ev (tmps:List (Option SV)):Operand->Option SV
 | .tmp i=>slot tmps i
 | .const v=>SV.ofConst v
 | .global g=>A (.raw (.pointer (A ⟨g,0,G⟩)))
 | .func f=>A (.func (.func f) [] [])
def dg (nx:Nat):List (Option SV)->Bool
 | []=>C
 | none::r=>dg nx r
 | some v::r=>v.wf nx&&dg nx r
theorem jY {nx:Nat}: ∀ {l:List (Option SV)},dg nx l=C->∀ {i:Nat} {v:SV},l[i]?=A (A v)->v.wf nx=C
 | none::r,h,0,v,hv=>by simp at hv
 | some x::r,h,0,v,hv=>by simp at hv;subst hv;simp only[dg,J] at h;exact h.1
 | none::r,h,i+1,v,hv=>jY (l:=r) (by simpa [dg] using h) (i:=i) (by simpa using hv)
 | some x::r,h,i+1,v,hv=>jY (l:=r) (by simp only[dg,J] at h;exact h.2) (i:=i) (by simpa using hv)
structure cJ (E:Nat->Nat)(tmps:List (Option SV))(a:Act):Prop where
 size:a.tmps.size=tmps.length
 val: ∀(i:Nat) (v:SV),tmps[i]?=A (A v)->a.tmps[i]?=A (v.val E)
theorem cJ.reads {E:Nat->Nat}{tmps:List (Option SV)}{a:Act}(h:cJ E tmps a):Reads E (ev tmps) a.eval:=by
 intro x v hx;cases x with
 | tmp i =>have:=h.val i v (mW hx);simp[Act.eval,Array.getD_eq_getD_getElem?,this]
 | const c=>exact(SV.ze hx).symm
 | global g=>simp[ev] at hx;subst hx;rfl
 | func f=>simp[ev] at hx;subst hx;rfl
theorem cJ.wf {nx:Nat}{tmps:List (Option SV)}(h:dg nx tmps=C):WfS nx (ev tmps):=by
 intro x v hx;cases x with
 | tmp i=>exact jY h (mW hx)
 | const c=>exact BR hx
 | global g=>simp[ev] at hx;subst hx;rfl
 | func f=>simp[ev] at hx;subst hx;rfl
theorem cJ.congr {E E':Nat->Nat}{nx:Nat}{tmps:List (Option SV)}{a:Act}(h:cJ E tmps a)(hw:dg nx tmps=C)(hE: ∀ k,k<nx->E' k=E k):cJ E' tmps a :=⟨h.size,λi v hv=>by rw[SV.val_congr hE v (jY hw hv)];exact h.val i v hv⟩
def b6 (tmps:List (Option SV))(dst:Option Nat)(v:Option SV):List (Option SV) :=
 match dst with
 | none=>tmps
 | some d=>tmps.set d v
theorem cJ.put {E:Nat->Nat}{tmps:List (Option SV)}{a:Act}(h:cJ E tmps a){dst:Option Nat}{sv:Option SV}{r:Value}(hr: ∀ v,sv=A v->r=v.val E) :
  cJ E (b6 tmps dst sv) (a.put dst r):=by
 cases dst with
 | none=>exact h
 | some d =>
   refine⟨by simp[Act.put,b6,h.size],λi v hv=> ?_⟩;simp only[b6] at hv;rw[a_] at hv;simp only[Act.put];rw[aK];split at hv
   ·rename_i e;subst e;split at hv
    ·rename_i hlt;injection hv with hv;rw[if_pos rfl,if_pos (by rw[h.size];exact hlt),hr v hv]
    ·cases hv
   ·rename_i e;rw[if_neg e];exact h.val i v hv
theorem pZ {nx:Nat}: ∀ {l:List (Option SV)} {d:Nat} {v:Option SV},dg nx l=C->(∀ u,v=A u->u.wf nx=C)->dg nx (l.set d v)=C
 | [],_,_,h,_=>h
 | none::r,0,G,h,hv=>h
 | none::r,0,A u,h,hv=>by simp only[bx,dg,J];exact⟨hv u rfl,h⟩
 | some x::r,0,G,h,hv=>by simp only[dg,J] at h;exact h.2
 | some x::r,0,A u,h,hv=>by simp only[dg,J,bx] at h ⊢;exact⟨hv u rfl,h.2⟩
 | none::r,d+1,v,h,hv=>pZ (l:=r) h hv
 | some x::r,d+1,v,h,hv=>by simp only[dg,J,List.set_cons_succ] at h ⊢;exact⟨h.1,pZ h.2 hv⟩
theorem jb {n m:Nat}(h:n<=m): ∀ {l:List (Option SV)},dg n l=C->dg m l=C
 | [],_=>rfl
 | none::r,hl=>jb h (l:=r) hl
 | some x::r,hl=>by simp only[dg,J] at hl ⊢;exact⟨SV.ig h x hl.1,jb h hl.2⟩
theorem mB {nx:Nat}{l:List (Option SV)}{dst:Option Nat}{v:Option SV}(h:dg nx l=C)(hv: ∀ u,v=A u->u.wf nx=C):dg nx (b6 l dst v)=true:=by
 cases dst with
 | none=>exact h
 | some d=>exact pZ h hv
def wfO (nx:Nat):Option SV->Bool
 | none=>C
 | some v=>v.wf nx
theorem Vz {nx:Nat}{v:Option SV}(h:wfO nx v=C): ∀ u,v=A u->u.wf nx=true:=by rintro u rfl;exact h
def Bz (D:Nat):Deferred:={target:=.collected D,args:=#[]}
def Marks (Γ:bh)(ds:List Deferred)(w:World):Prop :=∃ Ds:List Nat,ds=Ds.map Bz++Γ.tail/\Ds.Nodup/\(∀ D∈ Ds,w.heap[D]?=A (.deferred (A []))/\D∉ Γ.keep/\Γ.w0.heap.size<=D)/\(Γ.rf=F->Ds=[])
theorem Marks.nil (Γ:bh)(w:World)(ht:Γ.tail=[]):Marks Γ [] w:=⟨[],by rw[ht];rfl,List.nodup_nil,(λD h=>by cases h),λ_=>rfl⟩
structure Sat (Γ:bh)(E:Nat->Nat)(st:St)(a:Act)(w:World):Prop where
 tm:cJ E st.tmps a
 wt:dg st.nx st.tmps=C
 df:Marks Γ a.defers w
 mm:aL Γ E st.m st.nx w
theorem aL.weaken {Γ Δ:bh}(hle:Γ.le Δ){E:Nat->Nat}{m:Mem}{nx:Nat}{w:World}(h:aL Δ E m nx w):aL Γ E m nx w :=
 ⟨h.iy,h.iO,h.lt,λk B a hk hn hr=>by have:=h.jj k B a hk hn hr;rw[hle.m,hle.w] at this;exact this,by have:=h.ext;rw[hle.m,hle.w] at this;exact this,
  ⟨S hle.nx h.cx.1,λk hk=>(h.cx.2 k (T hk hle.nx)).trans (hle.e k hk)⟩,λD hD=>h.kp D (hle.keep D hD)⟩
def bh.more (Γ:bh)(Ds:List Nat):bh:={Γ with keep:=Ds++Γ.keep}
theorem bh.FL (Γ:bh)(Ds:List Nat):Γ.le (Γ.more Ds):=⟨rfl,rfl,Z _,λ_ _=>rfl,λ_D h=>List.mem_append_right _ h⟩
theorem aL.more {Γ:bh}{E:Nat->Nat}{m:Mem}{nx:Nat}{w:World}(h:aL Γ E m nx w){Ds:List Nat}(hD: ∀ D∈ Ds,w.heap[D]?=A (.deferred (A []))):aL (Γ.more Ds) E m nx w :=⟨h.iy,h.iO,h.lt,h.jj,h.ext,h.cx,λD hm=>by rcases an.1 hm with h1 | h1;exact hD D h1;exact h.kp D h1⟩
theorem Marks.kept {Γ:bh}{Ds:List Nat}{ds:List Deferred}(he:ds=Ds.map Bz++Γ.tail)(hn:Ds.Nodup)(hk: ∀ D∈ Ds,D∉ Γ.keep/\Γ.w0.heap.size<=D)(hrf:Γ.rf=F->Ds=[]){E:Nat->Nat}{m:Mem}{nx:Nat}{w:World}(h:aL (Γ.more Ds) E m nx w):Marks Γ ds w :=⟨Ds,he,hn,λD hD=>⟨h.kp D (List.mem_append_left _ hD),hk D hD⟩,hrf⟩
def guardOf (ops:Array Oper)(o:Oper)(tmps:List (Option SV)):Option Bool :=
 match o.guard with
 | none=>A C
 | some (j,want)=>(match ops[j]? with
   | some oj=>(match oj.dst with
     | some d=>(match slot tmps d with
       | some (.bool C b)=>A (b==want)
       | some (.aN [])=>A F
       | _=>G)
     | none=>G)
   | none=>G)
theorem qM {E:Nat->Nat}{ops:Array Oper}{o:Oper}{tmps:List (Option SV)}{a:Act}(h:cJ E tmps a){b:Bool}(hg:guardOf ops o tmps=A b) :
  Region.wanted o (yielded ops a.tmps)=b:=by
 unfold guardOf at hg;unfold Region.wanted;split at hg
 ·rename_i e;rw[e];injection hg
 ·rename_i j want e;rw[e];split at hg
  ·rename_i oj hj;split at hg
   ·rename_i d hd;split at hg
    ·rename_i c hc;have:=h.val d _ (mW hc);injection hg with hg;subst hg;simp[yielded,hj,hd,this,SV.val]
    ·rename_i hc;have:=h.val d _ (mW hc);injection hg with hg;subst hg;simp[yielded,hj,hd,this,SV.val]
    ·cases hg
   ·cases hg
  ·cases hg
def sk (ops:Array Oper)(j:Nat):Bool:=ops.toList.any λo=>match o.guard with
 | some (i,_)=>ay i j
 | none=>F
def L1 (g:Bool)(v:Option SV)(nx:Nat)(k:Option SV->VC):VC :=
 match g,v with
 | true,A (.bool F b)=>fork b (λc=>k (A (.bool C c)))
 | _,v=>match wfO nx v with
   | true=>k v
   | false=>.fail "a key out of bounds"
def Uf (g:Bool)(dst:Option Nat)(v:Option SV)(tmps:List (Option SV))(m:Mem)(nx:Nat)(K:St->VC):VC :=L1 g v nx (λv=>K ⟨b6 tmps dst v,m,nx⟩)
theorem vR (g:Bool)(v:Option SV)(nx:Nat): ∃(p:Prop) (u:Option SV),(∀ k,(L1 g v nx k).holds↔p/\(k u).holds)/\(p->wfO nx u=C)/\(∀(E:Nat->Nat) (r:Value),(∀ x,v=A x->r=x.val E)->∀ x,u=A x->r=x.val E):=by
 unfold L1;split
 ·rename_i b;exact⟨True,A (.bool C b),λk=>by rw[cB];exact⟨λh=>⟨trivial,h⟩,λh=>h.2⟩,λ_=>rfl,λE r h x hx=>by injection hx with hx;subst hx;exact h (.bool F b) rfl⟩
 ·cases hw:wfO nx v with
  | true=>exact⟨True,v,λk=>⟨λh=>⟨trivial,h⟩,λh=>h.2⟩,λ_=>hw,λE r h=>h⟩
  | false=>exact⟨False,G,λk=>⟨λh=>h.elim,λh=>h.1.elim⟩,λh=>h.elim,λE r h x hx=>by cases hx⟩
def lop (P:Program)(call:nB->PT)(σ:Operand->Option SV)(m:Mem)(nx:Nat)(o:Op)(K:KL):VC :=
 match o with
 | .alloc t=>(match fY P t with
   | some z=>F0 t z m nx K
   | none=>.fail "alloc")
 | .box t x=>need (σ x) (λv=>F0 t v m nx K)
 | .buildSlice t len parts=>kG P σ t len parts.toList m nx K
 | .makeSlice t x y=>need (σ x) (λa=>need (σ y) (λb=>y8 P t a b m nx K))
 | .store t a x=>ng P t (σ a) (σ x) m nx K
 | .call c=>y7 P call σ c m nx K
 | .makeMap t r=>vA P t (r.map σ) m nx K
 | .mapUpdate t x k v=>gH P t (σ x) (σ k) (σ v) m nx K
 | .insert t x k v=>gH P t (σ x) (σ k) (σ v) m nx K
 | .mapEntry t x k=>sA P t (σ x) (σ k) m nx K
 | .entryStore _ x s v=>mQ (σ x) (σ s) (σ v) m nx K
 | .range t x=>F1 P t (σ x) m nx K
 | .next x b=>NJ (σ x) b m nx K
 | .panic x=>xR call (σ x) m nx
 | _=>.fail "no such operation"
theorem Z2 {P:Program}{Γ:bh}{KP:PK}{call:nB->PT}(hcall: ∀ c,p9 P Γ KP c (call c)){σ:Operand->Option SV}{m:Mem}{nx:Nat}(o:Oper):VL P Γ KP σ m nx o (lop P call σ m nx o.op):=by
 obtain⟨dst,op,type,pos,after,guard⟩:=o;cases op
 case alloc t=>exact qg.tc O7
 case box t x=>exact qg.tc Wz
 case buildSlice t len parts=>exact qg.tc Bp
 case makeSlice t x y=>exact qg.tc TI
 case store t a x=>exact qg.tc D8
 case call c=>exact Ti hcall
 case makeMap t r=>exact qg.tc Ik
 case mapUpdate t x k v=>exact qg.tc tC
 case insert t x k v=>exact qg.tc Lm
 case mapEntry t x k=>exact qg.tc FZ
 case entryStore t x s v=>exact qg.tc Bu
 case range t x=>exact qg.tc Pu
 case next x b=>exact qg.tc TJ
 case panic x=>exact Pt hcall
 all_goals exact qg.tc (qg.fail _)
def de (P:Program)(call:nB->PT)(ops:Array Oper)(j:Nat)(o:Oper)(K:St->VC)(st:St):VC :=
 match guardOf ops o st.tmps with
 | some C=>(match ee P o.op with
   | true=>qop P (λk=>st.m.get k) (ev st.tmps) o.op (λv=>Uf (sk ops j) o.dst v st.tmps st.m st.nx K)
   | false=>(match Mem.wf st.nx st.m with
     | true=>lop P call (ev st.tmps) st.m st.nx o.op (λv m nx=>Uf (sk ops j) o.dst v st.tmps m nx K)
     | false=>.fail "a key out of bounds"))
 | some F=>K ⟨b6 st.tmps o.dst (A (.aN [])),st.m,st.nx⟩
 | none=>.fail "a guard that is not known"
def jH (K:St->VC)(Γ:bh)(E:Nat->Nat)(nx:Nat)(a:Act)(w:World):Prop :=∃ E' st',(∀ k,k<nx->E' k=E k)/\nx<=st'.nx/\Sat Γ E' st' a w/\(K st').holds
theorem jH.trans {K K':St->VC}{Γ:bh}{E:Nat->Nat}{nx:Nat}{a:Act}{w:World}(h:jH K Γ E nx a w)
  (hk: ∀ E' st',nx<=st'.nx->Sat Γ E' st' a w->(K st').holds->jH K' Γ E' st'.nx a w):jH K' Γ E nx a w:=by
 obtain⟨E',st',h1,h2,h3,h4⟩:=h;obtain⟨E'',st'',k1,k2,k3,k4⟩:=hk E' st' h2 h3 h4;exact⟨E'',st'',λk hk=>(k1 k (T hk h2)).trans (h1 k hk),S h2 k2,k3,k4⟩
theorem B6 {K:St->VC}{Γ:bh}{E:Nat->Nat}{nx:Nat}{g:Bool}{dst:Option Nat}{sv:Option SV}{tmps:List (Option SV)}{m:Mem}{a:Act}{w:World}{r:Value}
  (h:(Uf g dst sv tmps m nx K).holds) (ht:cJ E tmps a) (hw:dg nx tmps=C) (hd:Marks Γ a.defers w) (hm:aL Γ E m nx w) (hr: ∀ v,sv=A v->r=v.val E) :
  jH K Γ E nx (a.put dst r) w:=by
 have hdf:Marks Γ (a.put dst r).defers w:=by cases dst<;>exact hd
 obtain⟨p,u,h1,h2,h3⟩:=vR g sv nx;obtain⟨hp,hk⟩:=(h1 _).1 h;exact⟨E,_,λ_ _=>rfl,Z _,⟨ht.put (h3 E r hr),mB hw (Vz (h2 hp)),hdf,hm⟩,hk⟩
theorem C8 {P:Program}{o:Oper}(h:ee P o.op=C):o9 o=true:=by unfold o9;cases ho:o.op<;>first | rfl | (rw[ho] at h;cases h)
theorem Ip {P:Program}{call:nB->PT}{σ:Operand->Option SV}{m:Mem}{nx:Nat}{o:Oper}{K:KL}(h:(lop P call σ m nx o.op K).holds):o9 o=true:=by unfold o9;cases ho:o.op<;>first | rfl | (rw[ho] at h;exact h.elim)
def mD (KP:PK)(Γ:bh)(E:Nat->Nat)(nx:Nat)(e:Exit)(a:Act)(w:World):Prop :=∃ ch,e=.panic ch/\Marks Γ a.defers w/\jG KP Γ E nx ch w
theorem wq {P:Program}{Γ:bh}{ro:Option Nat}{KP:PK}{call:nB->PT}(hcall: ∀ c,p9 P Γ KP c (call c)){ops:Array Oper}{j:Nat}{o:Oper}{K:St->VC}{st:St}(h:(de P call ops j o K st).holds)
  {E:Nat->Nat} {a:Act} {w:World} (hs:Sat Γ E st a w) (Q:Exit->Act->World->Prop) (hP: ∀ e w,mD KP Γ E st.nx e a w->Q e a w) :
  if Region.wanted o (yielded ops a.tmps)then o.wpIn (Fr ro) 0 P a w (λa' w'=>(∃ r,a'=a.put o.dst r)/\jH K Γ E st.nx a' w') Q else jH K Γ E st.nx (a.put o.dst undef) w:=by
 unfold de at h;split at h
 ·rename_i hg;rw[qM hs.tm hg,if_pos rfl];split at h
  ·rename_i hq;obtain⟨obl,sv,h1,h2⟩:=L8 (P:=P) (look:=λk=>st.m.get k) (σ:=ev st.tmps) o;obtain⟨hobl,hk⟩:=(h1 _).1 h;obtain⟨r,hrun,hv⟩:=h2 E w a.eval ⟨hs.mm.nG,hs.mm.KU,hs.mm.iy⟩ hs.tm.reads hobl;refine Out.wp (C8 hq) (R:=λv w'=>w'=w/\v=r) (RP:=λ_ _=>False) ?_ ?_ (λ_ _ h=>h.elim)
   ·rw[hrun];exact⟨rfl,rfl⟩
   ·rintro v w' ⟨rfl,rfl⟩;exact⟨⟨_,rfl⟩,B6 hk hs.tm hs.wt hs.df hs.mm hv⟩
  ·split at h
   ·rename_i hwf;obtain⟨Ds,d1,d2,d3,d4⟩:=hs.df;have hm:=hs.mm.more λD hD=>(d3 D hD).1;have:=Z2 (λc=>(hcall c).mono (Γ.FL Ds)) o _ E w a.eval h hm hwf (cJ.wf hs.wt) hs.tm.reads;refine Out.wp (Ip h) this ?_ ?_
    rotate_left
    ·rintro ch w' ⟨E',v,m',nx',g1,g2,g3,gw,g4,g5⟩;exact hP _ _ ⟨ch,rfl,Marks.kept d1 d2 (λD hD=>(d3 D hD).2) d4 g4,E',v,m',nx',g1,g2,g3,gw,g4.weaken (Γ.FL Ds),g5⟩
    rintro r w' ⟨E',sv,m',nx',g1,g2,g3,g4,g5⟩;have ht:=hs.tm.congr hs.wt g1;obtain⟨E'',st',k1,k2,k3,k4⟩:=B6 g5 ht (jb g2 hs.wt) (Marks.kept d1 d2 (λD hD=>(d3 D hD).2) d4 g4) (g4.weaken (Γ.FL Ds)) g3;exact⟨⟨_,rfl⟩,E'',st',λk hk=>(k1 k (T hk g2)).trans (g1 k hk),S g2 k2,k3,k4⟩
   ·exact h.elim
 ·rename_i hg;rw[qM hs.tm hg];simp only[Bool.false_eq_true,if_false];exact⟨E,⟨b6 st.tmps o.dst (A (.aN [])),st.m,st.nx⟩,λ_ _=>rfl,Z _,⟨hs.tm.put (sv:=A (.aN [])) (r:=undef) (λv hv=>by injection hv with hv;subst hv;rfl),mB hs.wt (λu hu=>by injection hu with hu;subst hu;rfl),by cases o.dst<;>exact hs.df,hs.mm⟩,h⟩
 ·exact h.elim
def mu (P:Program)(call:nB->PT)(ops:Array Oper):List Nat->(St->VC)->St->VC
 | [],K,st=>K st
 | j::r,K,st=>match ops[j]? with
   | some o=>de P call ops j o (mu P call ops r K) st
   | none=>.fail "no operation"
def unsure (ops:Array Oper)(tmps:List (Option SV)):List (Option SV):=ops.toList.foldl (λt o=>b6 t o.dst G) tmps
theorem Gz {tmps:List (Option SV)}{d:Option Nat}{i:Nat}{v:SV}(h:(b6 tmps d G)[i]?=A (A v)):tmps[i]?=A (A v)/\d≠A i:=by
 cases d with
 | none=>exact⟨h,λe=>by cases e⟩
 | some d =>
   simp only[b6,a_] at h;split at h
   ·split at h<;>cases h
   ·rename_i e;exact⟨h,λx=>e (by injection x)⟩
theorem CJ {ops:Array Oper}{tmps:List (Option SV)}{i:Nat}{v:SV}(h:(unsure ops tmps)[i]?=A (A v)):tmps[i]?=A (A v)/\∀ o∈ ops.toList,o.dst≠A i:=by
 unfold unsure at h;generalize ops.toList=l at h;induction l generalizing tmps with
 | nil=>exact⟨h,λo ho=>by cases ho⟩
 | cons x r ih =>obtain⟨h1,h2⟩:=ih h;obtain⟨h3,h4⟩:=Gz h1;exact⟨h3,λo ho=>by rcases I.1 ho with rfl | ho;exact h4;exact h2 o ho⟩
theorem ME {ops:Array Oper}{tmps:List (Option SV)}:(unsure ops tmps).length=tmps.length:=by
 unfold unsure;generalize ops.toList=l;induction l generalizing tmps with
 | nil=>rfl
 | cons x r ih =>rw[List.foldl_cons,ih];cases x.dst<;>simp[b6]
theorem cJ.unsure {E:Nat->Nat}{ops:Array Oper}{tmps:List (Option SV)}{a:Act}(h:cJ E tmps a):cJ E (unsure ops tmps) a :=⟨by rw[ME];exact h.size,λi v hv=>h.val i v (CJ hv).1⟩
theorem cJ.CK {E:Nat->Nat}{ops:Array Oper}{tmps:List (Option SV)}{a:Act}(h:cJ E (Sx.unsure ops tmps) a){o:Oper}(ho:o∈ ops.toList)(r:Value):cJ E (Sx.unsure ops tmps) (a.put o.dst r):=by
 cases hd:o.dst with
 | none=>exact h
 | some d =>refine⟨by simp[Act.put,h.size],λi v hv=> ?_⟩;simp only[Act.put];rw[aK,if_neg (λe=>(CJ hv).2 o ho (by rw[hd,e]))];exact h.val i v hv
theorem ES {nx:Nat}{ops:Array Oper}{tmps:List (Option SV)}(h:dg nx tmps=C):dg nx (unsure ops tmps)=true:=by
 unfold unsure;generalize ops.toList=l;induction l generalizing tmps with
 | nil=>exact h
 | cons x r ih=>exact ih (mB h λu hu=>by cases hu)
theorem mD.weaken {KP:PK}{Γ:bh}{E E':Nat->Nat}{nx nx':Nat}{e:Exit}{a:Act}{w:World}(h:mD KP Γ E' nx' e a w)(hE: ∀ k,k<nx->E' k=E k)(hn:nx<=nx'):mD KP Γ E nx e a w:=by obtain⟨ch,h1,h2,h3⟩:=h;exact⟨ch,h1,h2,h3.weaken hE hn⟩
theorem v7 {P:Program}{Γ:bh}{ro:Option Nat}{KP:PK}{call:nB->PT}(hcall: ∀ c,p9 P Γ KP c (call c)){ops:Array Oper}{Q:Exit->Act->World->Prop}{K:St->VC}{E0:Nat->Nat}{td:Nat}{T0:List (Option SV)}(hT0:dg td T0=C)
  (hP: ∀ e a w,cJ E0 (unsure ops T0) a->mD KP Γ E0 td e a w->Q e a w) :
  ∀(l:List Nat) {st:St} {E:Nat->Nat} {a:Act} {w:World},(mu P call ops l K st).holds->Sat Γ E st a w->cJ E0 (unsure ops T0) a->(∀ k,k<td->E k=E0 k)->td<=st.nx ->
   (∀ a w,jH K Γ E st.nx a w->Q .normal a w)->wpOpsIn (Fr ro) 0 P ops Q l a w
 | [],st,E,a,w,h,hs,_,_,_,hQ=>hQ _ _ ⟨E,st,λ_ _=>rfl,Z _,hs,h⟩
 | j::r,st,E,a,w,h,hs,hF,hE0,hn0,hQ=>by
   rw[wpOpsIn_cons];unfold wpOpIn;simp only[mu] at h;cases ho:ops[j]? with
   | none=>rw[ho] at h;exact h.elim
   | some o =>
     rw[ho] at h;simp only;have hmem:o∈ ops.toList:=by rw[← Array.getElem?_toList] at ho;exact List.mem_of_getElem? ho
     have hstep:=wq (ro:=ro) hcall h hs Q (λe w hb=>hP e a w hF (hb.weaken hE0 hn0));have go: ∀ a' w',((∃ r,a'=a.put o.dst r)/\jH (mu P call ops r K) Γ E st.nx a' w')->wpOpsIn (Fr ro) 0 P ops Q r a' w':=by rintro a' w' ⟨⟨rr,ha⟩,E',st',g1,g2,g3,g4⟩;refine v7 hcall hT0 hP r g4 g3 (ha▸ cJ.CK hF hmem rr) (λk hk=>(g1 k (T hk hn0)).trans (hE0 k hk)) (S hn0 g2) λa'' w'' hb=>hQ a'' w'' ?_;obtain⟨E'',st'',k1,k2,k3,k4⟩:=hb;exact⟨E'',st'',λk hk=>(k1 k (T hk g2)).trans (g1 k hk),S g2 k2,k3,k4⟩
     split
     ·rename_i hw;rw[if_pos hw] at hstep;exact Oper.wpIn_mono go hstep
     ·rename_i hw;rw[if_neg hw] at hstep;exact⟨Ap ro,go _ _ ⟨⟨_,rfl⟩,hstep⟩⟩
theorem rT {σ σ':Operand->Option SV}: ∀ {l:List Operand},(∀ x∈ l,σ x=σ' x)->Fq σ l=Fq σ' l
 | [],_=>rfl
 | x::r,h=>by simp only[Fq];rw[h x (by simp),rT λy hy=>h y (by simp[hy])]
theorem nh {σ σ':Operand->Option SV}: ∀ {l:List (Nat×Operand)},(∀ p∈ l,σ p.2=σ' p.2)->partsOf σ l=partsOf σ' l
 | [],_=>rfl
 | (i,x)::r,h=>by simp only[partsOf];rw[h (i,x) (by simp),nh λp hp=>h p (by simp[hp])]
theorem qu {σ σ':Operand->Option SV}{d:Bool×Int}{x:Option Operand}(h: ∀ y,x=A y->σ y=σ' y):bound σ d x=bound σ' d x:=by
 cases x with
 | none=>rfl
 | some y=>simp only[bound,h y rfl]
def keyOf (σ:Operand->Option SV):Op->Option Nat
 | .load _ a=>(match σ a with
   | some (.ptr key _ _)=>A key
   | some (.kV key _ _ _)=>A key
   | some (.iE key _ _ _ _)=>A key
   | some (.oD key _ _ _)=>A key
   | some (.fI key _ _)=>A key
   | some (.m5 key _ _ _ _)=>A key
   | _=>G)
 | .convert _ _ a=>(match σ a with
   | some (.slc key _ _ _ _)=>A key
   | some (.aZ key _ _ _ _ _)=>A key
   | _=>G)
 | .lookup _ x _ _=>(match σ x with
   | some (.map key)=>A key
   | _=>G)
 | .call c=>(match c.args.toList with
   | [x]=>(match σ x with
     | some (.map key)=>A key
     | _=>G)
   | _=>G)
 | _=>G
theorem PS {P:Program}{look look':k6}{σ σ':Operand->Option SV}{o:Op}{K:Option SV->VC}(h: ∀ x∈ o.operands,σ x=σ' x)(hl: ∀ k,keyOf σ o=A k->look k=look' k) :
  qop P look σ o K=qop P look' σ' o K:=by
 cases o<;>simp only[M] at h<;>simp only[qop]
 case move x=>rw[h x (by simp)]
 case assign x=>rw[h x (by simp)]
 case pick c a b=>rw[h c (by simp),h a (by simp),h b (by simp)]
 case load t a =>
  simp only[keyOf] at hl;rw[h a (by simp)] at hl ⊢;unfold N0;cases P.underlying t with
  | none=>rfl
  | some d =>
    simp only;split
    ·rename_i key o hx;rw[hx] at hl;rw[hl key rfl]
    ·rename_i key w i k hx;rw[hx] at hl;rw[hl key rfl]
    ·rename_i key w o i k hx;rw[hx] at hl;rw[hl key rfl]
    ·rename_i key base n i hx;rw[hx] at hl;rw[hl key rfl]
    ·rfl
    ·rename_i key b o hx;rw[hx] at hl;rw[hl key rfl]
    ·rename_i key w b i k hx;rw[hx] at hl;rw[hl key rfl]
    ·rfl
 case nilCheck x=>rw[h x (by simp)]
 case binOp op t x y yt=>rw[h x (by simp),h y (by simp)]
 case unOp op t x=>rw[h x (by simp)]
 case convert s d x =>
  simp only[keyOf] at hl;rw[h x (by simp)] at hl ⊢;cases hx:σ' x with
  | none=>rfl
  | some a =>
    simp only[need,Gk];split
    ·unfold L4;split
     ·rfl
     ·rename_i key o n cl c;rw[hx] at hl;rw[hl key rfl]
     ·rename_i key i n c;rw[hx] at hl;rw[hl key rfl]
     ·rfl
    ·rfl
 case makeInterface t x=>rw[h x (by simp)]
 case makeFunc fn a b =>rw[rT (l:=a.toList) λx hx=>h x (by simp;exact .inl (by simpa using hx)),rT (l:=b.toList) λx hx=>h x (by simp;exact .inr (by simpa using hx))]
 case slice t x lo hi mx =>
  have hx:=h x (by simp);have hlo: ∀ d,bound σ d lo=bound σ' d lo:=λd=>qu λy hy=>h y (by simp[hy]);have hhi: ∀ d,bound σ d hi=bound σ' d hi:=λd=>qu λy hy=>h y (by simp[hy]);have hmx: ∀ d,bound σ d mx=bound σ' d mx:=λd=>qu λy hy=>h y (by simp[hy]);unfold Gn;rw[hx];have e1: ∀ l s,n7 σ l s lo hi K=n7 σ' l s lo hi K:=λ_ _=>by simp only[n7,hlo,hhi]
  have e2: ∀ m a key o n cl c,jT σ m a key o n cl c lo hi K=jT σ' m a key o n cl c lo hi K:=λ_ _ _ _ _ _ _=>by simp only[jT,hlo,hhi]
  have e3: ∀ key w i n c,jS σ key w i n c lo hi K=jS σ' key w i n c lo hi K:=λ_ _ _ _ _=>by simp only[jS,hlo,hhi]
  have e4: ∀ key o n,n6 σ key o n lo hi K=n6 σ' key o n lo hi K:=λ_ _ _=>by simp only[n6,hlo,hhi]
  have e5: ∀ n,sy σ n lo hi=sy σ' n lo hi:=λ_=>by simp only[sy,hlo,hhi]
  have e6: ∀ m key o n c z,mx=A z->pI σ m key o n c lo hi z K=pI σ' m key o n c lo hi z K:=λ_ _ _ _ _ z hz=>by subst hz;simp only[pI,hlo,hhi,hmx]
  split
  ·exact e1 _ _
  ·split
   ·rw[e5,e4];split
    ·rfl
    ·exact e2 _ _ _ _ _ _ _
   ·rfl
  ·split
   ·exact e6 _ _ _ _ _ _ rfl
   ·rfl
  ·split
   ·exact e6 _ _ _ _ _ _ rfl
   ·rfl
  ·split
   ·exact e2 _ _ _ _ _ _ _
   ·rfl
  ·split
   ·rw[e3]
   ·rfl
  ·rfl
 case fieldAddr s x f=>rw[h x (by simp)]
 case field t x f=>rw[h x (by simp)]
 case indexAddr t x i=>rw[h x (by simp),h i (by simp)]
 case index t x i=>rw[h x (by simp),h i (by simp)]
 case typeAssert x t at_ ok=>rw[h x (by simp)]
 case extract x i=>rw[h x (by simp)]
 case build t parts =>unfold Gj;rw[nh (l:=parts.toList) λp hp=>h p.2 (by simp;exact⟨p.1,by simpa using hp⟩)]
 case lookup t x k ok =>
  simp only[keyOf] at hl;rw[h x (by simp)] at hl ⊢;rw[h k (by simp)];unfold need;cases hx:σ' x with
  | none=>rfl
  | some v =>
    cases σ' k with
    | none=>rfl
    | some u =>
      simp only;unfold Af;split
      ·split
       ·split
        ·rfl
        ·rename_i key _;rw[hx] at hl;rw[hl key rfl]
        ·rfl
       ·rfl
      ·rfl
 case call c =>
  obtain⟨callee,args,ats⟩:=c;cases callee with
  | value f=>rfl
  | invoke r m=>rfl
  | builtin b =>
    simp only[O] at h;simp only;unfold NX;split
    ·rename_i x hx
     have hxe:=h x (by simp;have:x∈ args.toList:=by rw[hx];simp
                       simpa using this)
     rw[hxe];cases args_ty:ats[0]? with
     | none=>rfl
     | some t =>
       simp only;unfold need;cases hv:σ' x with
       | none=>rfl
       | some v =>
         simp only;unfold NZ;split
         ·rename_i key;have:=hl key (by simp only[keyOf,hx,hxe,hv]);rw[this]
         ·rfl
    ·rename_i x hx;rw[h x (by simp;have:x∈ args.toList:=by rw[hx];simp
                              simpa using this)]
    ·rename_i x y hx;have h1:x∈ args.toList:=by rw[hx];simp
     have h2:y∈ args.toList:=by rw[hx];simp
     rw[h x (by simpa using h1),h y (by simpa using h2)]
    ·rename_i x y hx;have h1:x∈ args.toList:=by rw[hx];simp
     have h2:y∈ args.toList:=by rw[hx];simp
     rw[h x (by simpa using h1),h y (by simpa using h2)]
    ·rfl
theorem kD {σ σ':Operand->Option SV}{o:Op}(h: ∀ x∈ o.operands,σ x=σ' x):keyOf σ o=keyOf σ' o:=by
 cases o<;>simp only[keyOf]
 case load t a=>rw[h a (by simp[M])]
 case convert s d a=>rw[h a (by simp[M])]
 case lookup t x k ok=>rw[h x (by simp[M])]
 case call c =>
  split
  ·rename_i x hx;have hm:x∈ c.args.toList:=by rw[hx];simp
   rw[h x (by simp only[M,O];cases c.callee<;>simp<;>first | exact .inr (by simpa using hm) | simpa using hm)]
  ·rfl
theorem Pr {P:Program}{call:nB->PT}{σ σ':Operand->Option SV}{m:Mem}{nx:Nat}{o:Op}{K:KL}(h: ∀ x∈ o.operands,σ x=σ' x):lop P call σ m nx o K=lop P call σ' m nx o K:=by
 cases o<;>simp only[M] at h<;>simp only[lop]
 case box t x=>rw[h x (by simp)]
 case buildSlice t len parts =>unfold kG;rw[nh (l:=parts.toList) λp hp=>h p.2 (by simp;exact⟨p.1,by simpa using hp⟩)]
 case makeSlice t x y=>rw[h x (by simp),h y (by simp)]
 case store t a x=>rw[h a (by simp),h x (by simp)]
 case makeMap t r=>cases r with
  | none=>rfl
  | some x=>simp only[Option.map_some];rw[h x (by simp)]
 case mapUpdate t x k v=>rw[h x (by simp),h k (by simp),h v (by simp)]
 case insert t x k v=>rw[h x (by simp),h k (by simp),h v (by simp)]
 case mapEntry t x k=>rw[h x (by simp),h k (by simp)]
 case entryStore t x k v=>rw[h x (by simp),h k (by simp),h v (by simp)]
 case range t x=>rw[h x (by simp)]
 case next x b=>rw[h x (by simp)]
 case panic x=>rw[h x (by simp)]
 case call c =>
  obtain⟨callee,args,ats⟩:=c;have he:Fq σ args.toList=Fq σ' args.toList:=rT λx hx=>h x (by simp only[O];cases callee<;>simp<;>first | exact .inr (by simpa using hx) | simpa using hx)
  unfold y7;simp only[he];cases Fq σ' args.toList with
  | none=>cases callee<;>first | rfl | (rename_i b;cases b<;>rfl)
  | some avs =>
    cases callee with
    | value f=>have:=h f (by simp[O]);dsimp only;rw[this]
    | invoke r m=>have:=h r (by simp[O]);dsimp only;rw[this]
    | builtin b=>cases b<;>first | rfl | (cases avs with | nil=>rfl | cons x r=>cases r with | nil=>rfl | cons y r=>cases r<;>rfl)
def aQ (pt:PT):Prop:=∀ args m nx (K K':SV->Mem->Nat->VC),(∀ v m nx,(K v m nx).holds->(K' v m nx).holds)->(pt args m nx K).holds->(pt args m nx K').holds
theorem Sd {l:Bool}{c:Prop}[Decidable c]{t t':VC}(h:t.holds->t'.holds):(m6 l c t).holds->(m6 l c t').holds:=by
 unfold m6;cases l
 ·exact λx=>⟨x.1,h x.2⟩
 ·by_cases hc:c
  ·simp only[if_pos hc];exact h
  ·simp only[if_neg hc];exact id
theorem xV {x:Option SV}{t t':SV->VC}(h: ∀ v,(t v).holds->(t' v).holds):(need x t).holds->(need x t').holds:=by
 cases x with
 | none=>exact id
 | some v=>exact h v
theorem lp {d:TypeDesc}{k:SV}{t t':VK->VC}(h: ∀ r,(t r).holds->(t' r).holds): ∀ {es:List (Nat×SV×SV)} {i:Nat},(gB d k t es i).holds->(gB d k t' es i).holds
 | [],i,hh=>h _ hh
 | e::r,i,hh=>by
   unfold gB at hh ⊢;split at hh
   ·split at hh
    ·exact h _ hh
    ·exact lp h hh
   ·rw[cB] at hh ⊢;split at hh
    ·exact h _ hh
    ·exact lp h hh
   ·exact hh
theorem wK {P:Program}{t:TypeId}{x k:Option SV}{m:Mem}{f f':TypeDesc->SV->Nat->List (Nat×SV×SV)->Nat->SV->VC}(h: ∀ d kv key es clock z,(f d kv key es clock z).holds->(f' d kv key es clock z).holds) :
  (p5 P t x k m f).holds->(p5 P t x k m f').holds:=by
 unfold p5;split
 ·split
  ·split
   ·exact h _ _ _ _ _ _
   ·exact id
  ·exact id
 ·exact id
theorem zH {P:Program}{t:TypeId}{x k v:Option SV}{m:Mem}{nx:Nat}{K K':KL}(h: ∀ v m nx,(K v m nx).holds->(K' v m nx).holds):(jO P t x k v m nx K).holds->(jO P t x k v m nx K').holds:=by
 unfold jO;refine wK λd kv key es clock z=> ?_;split
 ·exact lp λr=>by
   cases r with
   | none=>exact h _ _ _
   | some q=>exact h _ _ _
 ·exact id
theorem Bl {P:Program}{t:TypeId}{x k:Option SV}{m:Mem}{nx:Nat}{K K':KL}(h: ∀ v m nx,(K v m nx).holds->(K' v m nx).holds):(lG P t x k m nx K).holds->(lG P t x k m nx K').holds:=by
 unfold lG;exact wK λd kv key es clock z=>lp λr=>by
  cases r with
  | none=>exact h _ _ _
  | some q=>exact h _ _ _
theorem xF {x s v:Option SV}{m:Mem}{nx:Nat}{K K':KL}(h: ∀ v m nx,(K v m nx).holds->(K' v m nx).holds):(iZ x s v m nx K).holds->(iZ x s v m nx K').holds:=by
 unfold iZ;split
 ·split
  ·split
   ·exact h _ _ _
   ·exact id
  ·exact id
 ·exact id
theorem FK {P:Program}{ats:Array TypeId}{x k:SV}{m:Mem}{nx:Nat}{K K':KL}(_h: ∀ v m nx,(K v m nx).holds->(K' v m nx).holds):(z7 P ats x k m nx K).holds->(z7 P ats x k m nx K').holds:=id
theorem Iq {P:Program}{t:TypeId}{x:Option SV}{m:Mem}{nx:Nat}{K K':KL}(_h: ∀ v m nx,(K v m nx).holds->(K' v m nx).holds):(F1 P t x m nx K).holds->(F1 P t x m nx K').holds:=id
theorem LA {x:Option SV}{s:Bool}{m:Mem}{nx:Nat}{K K':KL}(_h: ∀ v m nx,(K v m nx).holds->(K' v m nx).holds):(NJ x s m nx K).holds->(NJ x s m nx K').holds:=id
theorem Io {P:Program}{call:nB->PT}(hm: ∀ f,aQ (call f)){σ:Operand->Option SV}{m:Mem}{nx:Nat}{o:Op}{K K':KL}(h: ∀ v m nx,(K v m nx).holds->(K' v m nx).holds) :
  (lop P call σ m nx o K).holds->(lop P call σ m nx o K').holds:=by
 have hnew: ∀ t z,(F0 t z m nx K).holds->(F0 t z m nx K').holds:=by
  intro t z;unfold F0;split
  ·exact h _ _ _
  ·exact id
 have hupd: ∀ t x k v,(gH P t x k v m nx K).holds->(gH P t x k v m nx K').holds:=λt x k v=>by
  unfold gH;split
  ·have hfu: ∀ key f c (v:Option SV) m,(iN P t key f c k v m nx K).holds->(iN P t key f c k v m nx K').holds:=λkey f c v m=>by
    unfold iN;split
    ·split
     ·exact h _ _ _
     ·exact id
    ·exact id
   split
   ·exact hfu _ _ _ _ _
   ·refine A3 λvs m'=> ?_;split
    ·exact hfu _ _ _ _ _
    ·exact id
  exact zH h
 have hgrown: ∀ e n cs s m nx,(grown e n cs s m nx K).holds->(grown e n cs s m nx K').holds:=λe n cs s m nx x c hc=>h _ _ _ (x c hc);unfold lop;split
 ·split
  ·exact hnew _ _
  ·exact id
 ·exact xV λv=>hnew _ _
 ·unfold kG;split
  ·split
   ·split
    ·split
     ·exact h _ _ _
     ·exact id
    ·exact id
   ·exact id
  ·exact id
 ·refine xV λa=>xV λb=> ?_;unfold y8;split
  ·split
   ·split
    ·exact Sd (h _ _ _)
    ·exact id
   ·exact id
  ·split
   ·split
    ·split
     ·exact λhh=>⟨hh.1,h _ _ _ hh.2⟩
     ·exact id
    ·exact id
   ·exact id
  ·exact id
 ·unfold ng;split
  ·split
   ·split
    ·exact h _ _ _
    ·exact id
   ·exact id
  ·split
   ·split
    ·split
     ·exact λx=>⟨x.1,h _ _ _ x.2⟩
     ·exact id
    ·exact id
   ·split
    ·exact λx=>⟨x.1,h _ _ _ x.2⟩
    ·exact id
   ·exact id
  ·split
   ·split
    ·split
     ·exact λx=>⟨x.1,h _ _ _ x.2⟩
     ·exact id
    ·exact id
   ·exact id
  ·split
   ·split
    ·split
     ·split
      ·exact λx=>⟨x.1,h _ _ _ x.2⟩
      ·exact id
     ·exact id
    ·exact id
   ·exact id
  ·split
   ·split
    ·split
     ·exact λx=>⟨x.1,h _ _ _ x.2⟩
     ·exact id
    ·exact id
   ·exact id
  ·exact id
 ·unfold y7;split
  ·split
   ·exact hm _ _ _ _ _ _ λv m nx=>h _ _ _
   ·exact hm _ _ _ _ _ _ λv m nx=>h _ _ _
   ·exact id
  ·split
   ·split
    ·split
     ·exact hm _ _ _ _ _ _ λv m nx=>h _ _ _
     ·exact id
    ·exact id
   ·exact id
  ·unfold vu;split
   ·unfold z6;split
    ·split
     ·split
      ·split
       ·split
        ·unfold xJ;split
         ·split
          ·split
           ·split
            ·exact h _ _ _
            ·exact hgrown _ _ _ _ _ _
           ·split
            ·split
             ·split
              ·exact h _ _ _
              ·exact id
             ·exact hgrown _ _ _ _ _ _
            ·exact id
           ·split
            ·split
             ·exact λx=>⟨x.1,λc hc=>h _ _ _ (x.2 c hc)⟩
             ·exact id
            ·exact id
           ·exact id
          ·exact id
         ·exact id
        ·exact id
       ·exact id
      ·exact id
     ·exact id
    ·exact id
   ·split
    ·split
     ·split
      ·split
       ·exact xI λu m nx=>h _ _ _
       ·exact id
      ·exact id
     ·exact id
    ·exact id
  ·unfold ND;split
   ·split
    ·split
     ·split
      ·split
       ·exact h _ _ _
       ·exact id
      ·exact id
     ·unfold vv;split
      ·split
       ·exact λx=>⟨x.1,h _ _ _ x.2⟩
       ·exact id
      ·exact id
     ·exact id
    ·exact id
   ·exact id
  ·exact FK h
  ·exact id
 ·unfold vA;split
  ·exact h _ _ _
  ·split
   ·exact h _ _ _
   ·exact id
  ·exact id
 ·exact hupd _ _ _ _
 ·exact hupd _ _ _ _
 ·unfold sA;split
  ·unfold rX;split
   ·split
    ·split
     ·split
      ·exact λhh b=>h _ _ _ (hh b)
      ·exact id
     ·exact id
    ·exact id
   ·exact id
  exact Bl h
 ·unfold mQ;split
  ·unfold rY;split
   ·split
    ·exact λhh=>And.intro hh.1 (h _ _ _ hh.2)
    ·exact id
   ·exact id
  exact xF h
 ·exact Iq h
 ·exact LA h
 ·exact id
 ·exact id
def names (ops:Array Oper)(o:Oper):List Nat:=o.looksAt ops
def Un (P:Program)(ops:Array Oper)(j:Nat)(o:Oper)(tmps:List (Option SV))(m:Mem)(nx:Nat)(k:Option SV->VC):VC :=
 match guardOf ops o tmps with
 | some C=>qop P (λk=>m.get k) (ev tmps) o.op (λv=>L1 (sk ops j) v nx k)
 | some F=>k (A (.aN []))
 | none=>.fail "a guard that is not known"
theorem ie {P:Program}{call:nB->PT}{ops:Array Oper}{j:Nat}{o:Oper}(hq:ee P o.op=C)(K:St->VC)(st:St) :
  de P call ops j o K st=Un P ops j o st.tmps st.m st.nx (λv=>K ⟨b6 st.tmps o.dst v,st.m,st.nx⟩):=by
 unfold de Un;cases guardOf ops o st.tmps with
 | none=>rfl
 | some b=>cases b<;>simp only[hq]<;>rfl
theorem Ag (P:Program)(ops:Array Oper)(j:Nat)(o:Oper)(tmps:List (Option SV))(m:Mem)(nx:Nat) :
  ∃(p:Prop) (u:Option SV),(∀ k,(Un P ops j o tmps m nx k).holds↔p/\(k u).holds):=by
 unfold Un;cases guardOf ops o tmps with
 | none=>exact⟨False,G,λk=>⟨λh=>h.elim,λh=>h.1.elim⟩⟩
 | some b =>
   cases b with
   | false=>exact⟨True,A (.aN []),λk=>⟨λh=>⟨trivial,h⟩,λh=>h.2⟩⟩
   | true =>obtain⟨obl,sv,h1,_⟩:=L8 (P:=P) (look:=λk=>m.get k) (σ:=ev tmps) o;obtain⟨p,u,g1,_,_⟩:=vR (sk ops j) sv nx;exact⟨obl/\p,u,λk=>by simp only[h1,g1];exact⟨λh=>⟨⟨h.1,h.2.1⟩,h.2.2⟩,λh=>⟨h.1.1,h.1.2,h.2⟩⟩⟩
theorem BE {ops:Array Oper}{o:Oper}{t:Nat}(h:Operand.tmp t∈ o.op.operands):t∈ o.looksAt ops:=by simp only[Oper.looksAt,an,List.mem_filterMap];exact .inl ⟨.tmp t,by simpa using h,rfl⟩
theorem vD {ops:Array Oper}{o oj:Oper}{j d:Nat}{b:Bool}(hg:o.guard=A (j,b))(hj:ops[j]?=A oj)(hd:oj.dst=A d):d∈ o.looksAt ops:=by simp only[Oper.looksAt,an];right;simp[hg,hj,hd]
def Agree (ops:Array Oper)(o:Oper)(tmps tmps':List (Option SV)):Prop:=∀ t∈ o.looksAt ops,slot tmps t=slot tmps' t
theorem Agree.ev {ops:Array Oper}{o:Oper}{tmps tmps':List (Option SV)}(h:Agree ops o tmps tmps'): ∀ x∈ o.op.operands,Sx.ev tmps x=Sx.ev tmps' x:=by
 intro x hx;cases x with
 | tmp t=>exact h t (BE hx)
 | _=>rfl
theorem Agree.guard {ops:Array Oper}{o:Oper}{tmps tmps':List (Option SV)}(h:Agree ops o tmps tmps'):guardOf ops o tmps=guardOf ops o tmps':=by
 unfold guardOf;split
 ·rfl
 ·rename_i j want hg;split
  ·rename_i oj hj;split
   ·rename_i d hd;rw[h d (vD hg hj hd)]
   ·rfl
  ·rfl
theorem x7 {P:Program}{ops:Array Oper}{j:Nat}{o:Oper}{tmps tmps':List (Option SV)}{m m':Mem}{nx:Nat}{k:Option SV->VC}(h:Agree ops o tmps tmps')
  (hl: ∀ key,keyOf (ev tmps) o.op=A key->m.get key=m'.get key):Un P ops j o tmps m nx k=Un P ops j o tmps' m' nx k:=by
 unfold Un;rw[h.guard];cases guardOf ops o tmps' with
 | none=>rfl
 | some b =>
   cases b with
   | false=>rfl
   | true=>exact PS h.ev hl
theorem zu: ∀ {tmps:List (Option SV)} {d t:Nat} {v:Option SV},d≠t->slot (tmps.set d v) t=slot tmps t
 | [],_,_,_,_=>rfl
 | _::_,0,0,_,h=>absurd rfl h
 | _::_,0,_+1,_,_=>rfl
 | _::_,_+1,0,_,_=>rfl
 | _::r,d+1,t+1,v,h=>zu (tmps:=r) (λe=>h (by rw[e]))
theorem gV {ops:Array Oper}{o:Oper}{tmps:List (Option SV)}{dst:Option Nat}{v:Option SV}(h: ∀ d,dst=A d->d∉ o.looksAt ops):Agree ops o (b6 tmps dst v) tmps:=by
 intro t ht;cases dst with
 | none=>rfl
 | some d=>exact zu (λe=>h d rfl (e▸ ht))
theorem wg {tmps:List (Option SV)}{x y:Option Nat}{v u:Option SV}(h: ∀ d,x=A d->y≠A d):b6 (b6 tmps x v) y u=b6 (b6 tmps y u) x v:=by
 cases x with
 | none=>rfl
 | some d =>
   cases y with
   | none=>rfl
   | some e =>have:d≠e:=λhe=>h d rfl (he▸ rfl);simp only[b6];exact List.set_comm _ _ this
def jR (keys:List Nat)(m m':Mem)(t:VC):VC :=
 match keys with
 | []=>t
 | k::r=>.and (.atom (m'.get k=m.get k)) (jR r m m' t)
theorem gj {keys:List Nat}{m m':Mem}{t:VC}:(jR keys m m' t).holds↔(∀ k∈ keys,m'.get k=m.get k)/\t.holds:=by
 induction keys with
 | nil=>simp[jR]
 | cons k r ih =>simp only[jR,VC.holds,ih,I,forall_eq_or_imp];exact⟨λh=>⟨⟨h.1,h.2.1⟩,h.2.2⟩,λh=>⟨h.1.1,h.1.2,h.2⟩⟩
def HN (nx nx':Nat)(t:VC):VC:=match Nat.ble nx nx' with
 | true=>t
 | false=>.fail "keys"
theorem lE {nx nx':Nat}{t:VC}:(HN nx nx' t).holds↔nx<=nx'/\t.holds:=by
 unfold HN;cases h:Nat.ble nx nx' with
 | true=>exact⟨λx=>⟨Nat.le_of_ble_eq_true h,x⟩,λx=>x.2⟩
 | false=>exact⟨λx=>x.elim,λx=>by have:=Nat.ble_eq_true_of_le x.1;rw[h] at this;cases this⟩
section
variable {P : Program} {call : nB -> PT} {ops : Array Oper}
theorem ck (hm: ∀ f,aQ (call f)){j:Nat}{o:Oper}{K K':St->VC}{st:St}
  (h: ∀ u m nx,(K ⟨b6 st.tmps o.dst u,m,nx⟩).holds->(K' ⟨b6 st.tmps o.dst u,m,nx⟩).holds) (hh:(de P call ops j o K st).holds):(de P call ops j o K' st).holds:=by
 cases hq:ee P o.op with
 | true =>rw[ie hq] at hh ⊢;obtain⟨p,u,hd⟩:=Ag P ops j o st.tmps st.m st.nx;rw[hd] at hh ⊢;exact⟨hh.1,h _ _ _ hh.2⟩
 | false =>
   unfold de at hh ⊢;cases hg:guardOf ops o st.tmps with
   | none=>rw[hg] at hh;exact hh.elim
   | some b =>
     rw[hg] at hh;cases b with
     | false=>exact h _ _ _ hh
     | true =>
       simp only[hq] at hh ⊢;cases hw:Mem.wf st.nx st.m with
       | false=>rw[hw] at hh;exact hh.elim
       | true =>rw[hw] at hh;simp only at hh ⊢;refine Io hm (λv m nx hp=> ?_) hh;obtain⟨p,u,g1,_,_⟩:=vR (sk ops j) v nx;unfold Uf at hp ⊢;rw[g1] at hp ⊢;exact⟨hp.1,h _ _ _ hp.2⟩
def stepG (P:Program)(call:nB->PT)(ops:Array Oper)(i:Nat)(o:Oper)(H:List Nat)(K:St->VC)(st:St):VC :=de P call ops i o (λst'=>jR H st.m st'.m (HN st.nx st'.nx (K st'))) st
theorem PL {g:Bool}{v:Option SV}{nx nx':Nat}(hn:nx<=nx'){k:Option SV->VC}(h:(L1 g v nx k).holds):(L1 g v nx' k).holds:=by
 have hw:wfO nx v=C->wfO nx' v=true:=by cases v with
  | none=>exact id
  | some v=>exact SV.ig hn v
 unfold L1 at *;split at h
 ·exact h
 ·rename_i g' v' hne;cases hv:wfO nx v with
  | false=>rw[hv] at h;exact h.elim
  | true =>rw[hv] at h;rw[hw hv];exact h
theorem Uo {j:Nat}{o:Oper}{tmps:List (Option SV)}{m:Mem}{nx nx':Nat}(hn:nx<=nx'){k:Option SV->VC}(h:(Un P ops j o tmps m nx k).holds):(Un P ops j o tmps m nx' k).holds:=by
 unfold Un at h ⊢;cases hg:guardOf ops o tmps with
 | none=>rw[hg] at h;exact h.elim
 | some b =>
   rw[hg] at h;cases b with
   | false=>exact h
   | true =>obtain⟨obl,sv,h1,_⟩:=L8 (P:=P) (look:=λk=>m.get k) (σ:=ev tmps) o;simp only at h ⊢;rw[h1] at h ⊢;refine⟨h.1,?_⟩;exact PL hn h.2
structure yL (ops:Array Oper)(x y:Oper):Prop where
 a: ∀ d,x.dst=A d->d∉ y.looksAt ops
 b: ∀ d,x.dst=A d->y.dst≠A d
 c: ∀ d,y.dst=A d->d∉ x.looksAt ops
theorem Qx (hm: ∀ f,aQ (call f)){jp ji:Nat}{op oi:Oper}(hp:ee P op.op=C)(hi:ee P oi.op=F)(ha:yL ops op oi){H H1:List Nat}{K:St->VC}{st:St}
  (hH: ∀ k∈ H,k∈ H1) (hk: ∀ k,keyOf (ev st.tmps) op.op=A k->k∈ H1) (h:(de P call ops jp op (stepG P call ops ji oi H1 K) st).holds) :
  (stepG P call ops ji oi H (de P call ops jp op K) st).holds:=by
 obtain⟨tmps,m,nx⟩:=st;rw[ie hp] at h;obtain⟨pp,u,hd⟩:=Ag P ops jp op tmps m nx;obtain⟨hpp,h⟩:=(hd _).1 h;have hag:Agree ops oi (b6 tmps op.dst u) tmps:=gV ha.a
 have fin: ∀(u':Option SV) (m':Mem) (nx':Nat),(jR H1 m m' (HN nx nx' (K ⟨b6 (b6 tmps op.dst u) oi.dst u',m',nx'⟩))).holds ->
   (jR H m m' (HN nx nx' (de P call ops jp op K ⟨b6 tmps oi.dst u',m',nx'⟩))).holds:=by
  intro u' m' nx' hh;rw[gj,lE] at hh ⊢;refine⟨λk hk'=>hh.1 k (hH k hk'),hh.2.1,?_⟩;rw[ie hp];have h1:(Un P ops jp op tmps m nx (λv=>K ⟨b6 (b6 tmps oi.dst u') op.dst v,m',nx'⟩)).holds:=by rw[hd];refine⟨hpp,?_⟩;rw[wg (λd hd' he=>ha.b d he hd')];exact hh.2.2
  have h2:=Uo hh.2.1 h1;rw[x7 (tmps':=b6 tmps oi.dst u') (m':=m') (λt ht=>((gV (tmps:=tmps) (v:=u') ha.c) t ht).symm) (λkey hkey=>(hh.1 key (hk key hkey)).symm)] at h2;exact h2
 unfold stepG de at h ⊢;rw[hag.guard] at h;cases hg:guardOf ops oi tmps with
 | none=>rw[hg] at h;exact h.elim
 | some b =>
   rw[hg] at h;cases b with
   | false=>exact fin _ _ _ h
   | true =>
     simp only[hi] at h ⊢;cases hw:Mem.wf nx m with
     | false=>rw[hw] at h;exact h.elim
     | true =>rw[hw] at h;simp only at h ⊢;rw[Pr hag.ev] at h;refine Io hm (λv m' nx' hpk=> ?_) h;obtain⟨p',u',g1,_,_⟩:=vR (sk ops ji) v nx';unfold Uf at hpk ⊢;rw[g1] at hpk ⊢;exact⟨hpk.1,fin _ _ _ hpk.2⟩
theorem CA {jp ji:Nat}{op oi:Oper}(hp:ee P op.op=C)(hi:ee P oi.op=C)(ha:yL ops op oi){K:St->VC}{st:St}
  (h:(de P call ops jp op (de P call ops ji oi K) st).holds):(de P call ops ji oi (de P call ops jp op K) st).holds:=by
 obtain⟨tmps,m,nx⟩:=st;rw[ie hp] at h;obtain⟨pp,u,hd⟩:=Ag P ops jp op tmps m nx;obtain⟨hpp,h⟩:=(hd _).1 h;rw[ie hi] at h ⊢;rw[x7 (tmps':=tmps) (gV ha.a) (λ_ _=>rfl)] at h;obtain⟨pi,v,hd2⟩:=Ag P ops ji oi tmps m nx;rw[hd2] at h ⊢;refine⟨h.1,?_⟩;rw[ie hp];rw[x7 (tmps':=tmps) (gV ha.c) (λ_ _=>rfl),hd];refine⟨hpp,?_⟩;have h2:=h.2;simp only at h2 ⊢;rw[wg (λd hd' he=>ha.b d he hd')];exact h2
def jm (mask:Nat)(rd:List (Nat×Nat)):List Nat :=
 match rd with
 | []=>[]
 | (p,k)::r=>match mask.testBit p with
   | true=>jm mask r
   | false=>k::jm mask r
theorem kE {mask:Nat}{k:Nat}: ∀ {rd:List (Nat×Nat)},k∈ jm mask rd↔∃ p,(p,k)∈ rd/\mask.testBit p=F
 | []=>by simp[jm]
 | (p,x)::r=>by
   simp only[jm];cases h:mask.testBit p with
   | true =>
     simp only[kE (rd:=r),I,Prod.mk.injEq];constructor
     ·rintro⟨q,h1,h2⟩;exact⟨q,.inr h1,h2⟩
     ·rintro⟨q,h1 | h1,h2⟩
      ·obtain⟨rfl,rfl⟩:=h1;rw[h] at h2;cases h2
      ·exact⟨q,h1,h2⟩
   | false =>
     simp only[I,kE (rd:=r),Prod.mk.injEq];constructor
     ·rintro(rfl | ⟨q,h1,h2⟩)
      ·exact⟨p,.inl ⟨rfl,rfl⟩,h⟩
      ·exact⟨q,.inr h1,h2⟩
     ·rintro⟨q,h1 | h1,h2⟩
      ·obtain⟨rfl,rfl⟩:=h1;exact .inl rfl
      ·exact .inr ⟨q,h1,h2⟩
def addKey (j:Nat)(k:Option Nat)(rd:List (Nat×Nat)):List (Nat×Nat) :=
 match k with
 | some k=>(j,k)::rd
 | none=>rd
def lO (f:Nat->VC):List Nat->VC
 | []=>.tt
 | j::r=>(match r with
   | []=>f j
   | _::_=>.and (f j) (lO f r))
theorem oH {f:Nat->VC}: ∀ {l:List Nat},(lO f l).holds->∀ j∈ l,(f j).holds
 | [],_,_,h=>by cases h
 | [j],h,k,hk=>by simp only[Y] at hk;subst hk;exact h
 | j::x::r,h,k,hk=>by
   rw[I] at hk;rcases hk with rfl | hk
   ·exact h.1
   ·exact oH (l:=x::r) h.2 k hk
theorem j0 {f g:Nat->VC}(hfg: ∀ j,(f j).holds->(g j).holds): ∀ {l:List Nat},(lO f l).holds->(lO g l).holds
 | [],h=>h
 | [j],h=>hfg j h
 | j::x::r,h=>⟨hfg j h.1,j0 hfg (l:=x::r) h.2⟩
def jn:List Nat->Nat
 | []=>0
 | q::r=>Nat.lor (Nat.pow 2 q) (jn r)
theorem D5 {k:Nat}: ∀ {l:List Nat},(jn l).testBit k=C->k∈ l
 | [],h=>by simp[jn] at h
 | q::r,h=>by
   have h:(2^ q ||| jn r).testBit k=true:=h;simp only[bU,aM] at h;rcases h with h | h
   ·rw[Nat.testBit_two_pow] at h;simp at h;simp[h]
   ·exact a! _ (D5 h)
theorem D6 {k:Nat}: ∀ {l:List Nat},k∈ l->(jn l).testBit k=C
 | q::r,h=>by
   show(2^ q ||| jn r).testBit k=C;simp only[bU,aM];rw[I] at h;rcases h with rfl | h
   ·left;simp[]
   ·exact .inr (D6 h)
def isReady (masks:List Nat)(lm:Nat)(j:Nat):Bool:=ay (bO (masks.getD j 0) lm) 0
theorem iY {masks l:List Nat}{j:Nat}:isReady masks (jn l) j=C↔∀ q∈ l,(masks.getD j 0).testBit q=false:=by
 unfold isReady;constructor
 ·intro h q hq;have h0:=Nat.eq_of_beq_eq_true h;have:(masks.getD j 0 &&& jn l).testBit q=false:=by show(bO (masks.getD j 0) (jn l)).testBit q=F;rw[h0];exact b_ q
  rw[bS,D6 hq,N] at this;exact this
 ·intro h;have key: ∀ {a b:Nat},a=b->ay a b=true:=λe=>by subst e;exact Nat.beq_refl _
  apply key;apply Nat.eq_of_testBit_eq;intro k;show(masks.getD j 0 &&& jn l).testBit k=_;rw[bS,b_];cases hk:(jn l).testBit k with
  | false=>simp
  | true=>rw[h k (D5 hk)];rfl
def quietAt (P:Program)(ops:Array Oper)(j:Nat):Bool:=match ops[j]? with
 | some o=>ee P o.op
 | none=>F
def vh (P:Program)(ops:Array Oper)(masks:List Nat)(lm:Nat):List Nat->Option Nat
 | []=>G
 | j::r=>match quietAt P ops j&&isReady masks lm j with
   | true=>A j
   | false=>vh P ops masks lm r
theorem oS {masks:List Nat}{lm j:Nat}: ∀ {l:List Nat},vh P ops masks lm l=A j->j∈ l/\quietAt P ops j=C/\isReady masks lm j=C
 | [],h=>by cases h
 | k::r,h=>by
   unfold vh at h;split at h
   ·rename_i hk;injection h with h;subst h;rw[J] at hk;exact⟨by simp,hk⟩
   ·have:=oS h;exact⟨by simp[this.1],this.2⟩
theorem oR {masks:List Nat}{lm:Nat}: ∀ {l:List Nat},vh P ops masks lm l=G->∀ j∈ l,(quietAt P ops j&&isReady masks lm j)=F
 | [],_,_,hj=>by cases hj
 | k::r,h,j,hj=>by
   unfold vh at h;split at h
   ·cases h
   ·rename_i hk;rw[I] at hj;rcases hj with rfl | hj
    ·exact hk
    ·exact oR h j hj
def Cb (P:Program)(ops:Array Oper)(masks:List Nat)(l:List Nat):List Nat :=l.filter λj=>!quietAt P ops j&&isReady masks (jn l) j
def cu (P:Program)(call:nB->PT)(ops:Array Oper)(masks:List Nat):Nat->List Nat->List (Nat×Nat)->(St->VC)->St->VC
 | _,[],_,K,st=>K st
 | 0,_::_,_,_,_=>.fail "a region that is too long"
 | n+1,x::r,rd,K,st=>match vh P ops masks (jn (x::r)) (x::r)with
   | some i=>(match ops[i]? with
     | some o=>de P call ops i o (cu P call ops masks n ((x::r).erase i) (addKey i (keyOf (ev st.tmps) o.op) rd) K) st
     | none=>.fail "no operation")
   | none=>lO (λj=>match ops[j]? with
      | some oj=>stepG P call ops j oj (jm (masks.getD j 0) rd) (cu P call ops masks n ((x::r).erase j) rd K) st
      | none=>.fail "no operation") (Cb P ops masks (x::r))
theorem mL {masks:List Nat}{n:Nat}{rd:List (Nat×Nat)}{K:St->VC}{st:St}:cu P call ops masks n [] rd K st=K st:=by cases n<;>rfl
theorem GY {i:Nat}{k:Option Nat}{rd rd':List (Nat×Nat)}(h: ∀ x∈ rd,x∈ rd'): ∀ x∈ addKey i k rd,x∈ addKey i k rd':=by
 intro x hx;cases k with
 | none=>exact h x hx
 | some k=>simp only[addKey,I] at hx ⊢;exact hx.imp id (h x)
theorem Kh {i:Nat}{k:Option Nat}{rd:List (Nat×Nat)}: ∀ x∈ rd,x∈ addKey i k rd:=by
 intro x hx;cases k with
 | none=>exact hx
 | some k=>exact a! _ hx
theorem yO {i j:Nat}{k k':Option Nat}{rd:List (Nat×Nat)}: ∀ x∈ addKey i k (addKey j k' rd),x∈ addKey j k' (addKey i k rd):=by intro x hx;cases k<;>cases k'<;>simp only[addKey,I] at hx ⊢ <;> first | exact hx | (rcases hx with h | h | h<;>simp[h])
theorem lQ (hm: ∀ f,aQ (call f)){masks:List Nat}{K:St->VC}: ∀ {n:Nat} {l:List Nat} {rd rd':List (Nat×Nat)} {st:St},(∀ x∈ rd,x∈ rd')->(cu P call ops masks n l rd' K st).holds->(cu P call ops masks n l rd K st).holds
 | n,[],_,_,_,_,h=>by rw[mL] at h ⊢;exact h
 | 0,_::_,_,_,_,_,h=>h.elim
 | n+1,x::r,rd,rd',st,hr,h=>by
   simp only[cu] at h ⊢;split at h
   ·split at h
    ·exact ck hm (λu m nx hh=>lQ hm (GY hr) hh) h
    ·exact h.elim
   ·refine j0 (λj hj=> ?_) h;cases hoj:ops[j]? with
    | none=>rw[hoj] at hj;exact hj.elim
    | some oj =>rw[hoj] at hj;simp only at hj ⊢;refine ck hm (λu m nx hh=> ?_) hj;rw[gj,lE] at hh ⊢;refine⟨λk hk=>hh.1 k ?_,hh.2.1,lQ hm hr hh.2.2⟩;rw[kE] at hk ⊢;obtain⟨p,h1,h2⟩:=hk;exact⟨p,hr _ h1,h2⟩
theorem yL.symm {x y:Oper}(h:yL ops x y):yL ops y x:=⟨h.c,λd hd he=>h.b d he hd,h.a⟩
def Rel (P:Program)(ops:Array Oper)(masks:List Nat)(p i:Nat):Prop :=∃ op oi,ops[p]?=A op/\ops[i]?=A oi/\((masks.getD i 0).testBit p=C∨(masks.getD p 0).testBit i=C∨(ee P op.op=F/\ee P oi.op=F)∨yL ops op oi)
def Kg (P:Program)(ops:Array Oper)(masks:List Nat)(R:List Nat):Prop:=∀ p∈ R,∀ i∈ R,p≠i->Rel P ops masks p i
theorem Kg.erase {masks:List Nat}{R:List Nat}(h:Kg P ops masks R)(q:Nat):Kg P ops masks (R.erase q):=λp hp i hi=>h p (L hp) i (L hi)
def BU (P:Program)(call:nB->PT)(ops:Array Oper)(masks:List Nat)(n:Nat)(i:Nat)(oi:Oper)(R:List Nat)(rd:List (Nat×Nat))(K:St->VC)(st:St):VC :=
 match ee P oi.op with
 | true=>de P call ops i oi (cu P call ops masks n R (addKey i (keyOf (ev st.tmps) oi.op) rd) K) st
 | false=>stepG P call ops i oi (jm (masks.getD i 0) rd) (cu P call ops masks n R rd K) st
theorem YU (hm: ∀ f,aQ (call f)){masks:List Nat}{K:St->VC}: ∀(n:Nat),
  (∀ {R:List Nat} {rd:List (Nat×Nat)} {st:St} {i:Nat} {oi:Oper},R.length<=n+1->Kg P ops masks R->i∈ R->ops[i]?=A oi->(∀ q∈ R,(masks.getD i 0).testBit q=F) ->
    (cu P call ops masks (n+1) R rd K st).holds->(BU P call ops masks n i oi (R.erase i) rd K st).holds) /\
  (∀ {X:List Nat} {rd:List (Nat×Nat)} {st:St} {q:Nat} {oq:Oper},X.length<=n+1->Kg P ops masks X->q∈ X->ops[q]?=A oq->ee P oq.op=C->(∀ p∈ X,(masks.getD q 0).testBit p=F) ->
    (de P call ops q oq (cu P call ops masks n (X.erase q) (addKey q (keyOf (ev st.tmps) oq.op) rd) K) st).holds->(cu P call ops masks (n+1) X rd K st).holds):=by
 have apart: ∀ {R:List Nat} {q i:Nat} {oq oi:Oper},Kg P ops masks R->q∈ R->i∈ R->q≠i->ops[q]?=A oq->ops[i]?=A oi->ee P oq.op=C ->
   (∀ p∈ R,(masks.getD q 0).testBit p=F)->(∀ p∈ R,(masks.getD i 0).testBit p=F)->yL ops oq oi:=by
  intro R q i oq oi hR hq hi hne hoq hoi hqq h1 h2;obtain⟨op,oi',e1,e2,h⟩:=hR q hq i hi hne;rw[hoq] at e1;injection e1 with e1;subst e1;rw[hoi] at e2;injection e2 with e2;subst e2;rcases h with h | h | h | h
  ·rw[h2 q hq] at h;cases h
  ·rw[h1 i hi] at h;cases h
  ·rw[hqq] at h;cases h.1
  ·exact h
 intro n;induction n with
 | zero =>
   refine⟨λ{R rd st i oi} hl hR hi ho hrd h=> ?_,λ{X rd st q oq} hl hX hq ho hqq hrd h=> ?_⟩
   ·have hR1:R=[i]:=by
     match R,hl,hi with
     | [x],_,hi=>simp only[Y] at hi;rw[hi]
    subst hR1;simp only[cu] at h;split at h
    ·rename_i j hj;obtain⟨g1,g2,_⟩:=oS hj;simp only[Y] at g1;subst g1;simp only[quietAt,ho] at g2;rw[ho] at h;simp only[BU,g2];exact h
    ·rename_i hj;have hnq:=oR hj i (by simp);have hre:isReady masks (jn [i]) i=true:=iY.2 hrd;simp only[hre,N,quietAt,ho] at hnq;have:=oH h i (by simp only[Cb,bf,quietAt,ho,hnq,hre];simp);rw[ho] at this;simp only[BU,hnq];exact this
   ·have hX1:X=[q]:=by
     match X,hl,hq with
     | [x],_,hi=>simp only[Y] at hi;rw[hi]
    subst hX1;simp only[cu];have hre:isReady masks (jn [q]) q=true:=iY.2 hrd;simp only[vh,quietAt,ho,hqq,hre,N];exact h
 | succ m ih =>
   obtain⟨ih1,ih2⟩:=ih;refine⟨λ{R rd st i oi} hl hR hi ho hrd h=> ?_,λ{X rd st q oq} hl hX hq ho hqq hrd h=> ?_⟩
   ·obtain⟨x,r,hxr⟩: ∃ x r,R=x::r:=by
     match R,hi with
     | x::r,_=>exact⟨x,r,rfl⟩
    have hdr:cu P call ops masks (m+1+1) R rd K st=(match vh P ops masks (jn R) R with
     | some i=>(match ops[i]? with
       | some o=>de P call ops i o (cu P call ops masks (m+1) (R.erase i) (addKey i (keyOf (ev st.tmps) o.op) rd) K) st
       | none=>.fail "no operation")
     | none=>lO (λj=>match ops[j]? with
        | some oj=>stepG P call ops j oj (jm (masks.getD j 0) rd) (cu P call ops masks (m+1) (R.erase j) rd K) st
        | none=>.fail "no operation") (Cb P ops masks R)):=by rw[hxr];rfl
    rw[hdr] at h;split at h
    ·rename_i q hq;obtain⟨g1,g2,g3⟩:=oS hq;rw[iY] at g3;cases hoq:ops[q]? with
     | none=>rw[hoq] at h;exact h.elim
     | some oq =>
       rw[hoq] at h;simp only at h;simp only[quietAt,hoq] at g2;by_cases e:q=i
       ·subst e;rw[hoq] at ho;injection ho with ho;subst ho;simp only[BU,g2];exact h
       ·have hap:=apart hR g1 hi e hoq ho g2 g3 hrd;have hi':i∈ R.erase q:=(W (λx=>e x.symm)).2 hi;have hq':q∈ R.erase i:=(W e).2 g1;have hl1:(R.erase q).length<=m+1:=by rw[V g1];omega
        have hl2:(R.erase i).length<=m+1:=by rw[V hi];omega
        cases hqi:ee P oi.op with
        | true =>
          simp only[BU,hqi];have hk: ∀ u,keyOf (ev (b6 st.tmps oq.dst u)) oi.op=keyOf (ev st.tmps) oi.op:=λu=>kD (gV hap.a).ev
          have h1:(de P call ops q oq (de P call ops i oi (cu P call ops masks m ((R.erase q).erase i) (addKey i (keyOf (ev st.tmps) oi.op) (addKey q (keyOf (ev st.tmps) oq.op) rd)) K)) st).holds :=
           ck hm (λu m' nx' hh=>by have:=ih1 hl1 (hR.erase q) hi' ho (λp hp=>hrd p (L hp)) hh;simp only[BU,hqi,hk] at this;exact this) h
          have h2:=CA g2 hqi hap h1;refine ck hm (λu m' nx' hh=> ?_) h2;refine ih2 hl2 (hR.erase i) hq' hoq g2 (λp hp=>g3 p (L hp)) ?_;have hk2:keyOf (ev (b6 st.tmps oi.dst u)) oq.op=keyOf (ev st.tmps) oq.op:=kD (gV hap.c).ev;simp only[hk2];rw[ag];exact ck hm (λu m' nx' hh=>lQ hm yO hh) hh
        | false =>
          simp only[BU,hqi]
          have h1:(de P call ops q oq (stepG P call ops i oi (jm (masks.getD i 0) (addKey q (keyOf (ev st.tmps) oq.op) rd)) (cu P call ops masks m ((R.erase q).erase i) (addKey q (keyOf (ev st.tmps) oq.op) rd) K)) st).holds :=
           ck hm (λu m' nx' hh=>by have:=ih1 hl1 (hR.erase q) hi' ho (λp hp=>hrd p (L hp)) hh;simp only[BU,hqi] at this;exact this) h
          have h2:=Qx hm g2 hqi hap (H:=jm (masks.getD i 0) rd) (λk hk=>by
            rw[kE] at hk ⊢;obtain⟨p,y1,y2⟩:=hk;exact⟨p,Kh _ y1,y2⟩) (λk hk=>by
            rw[kE,hk];exact⟨q,by simp[addKey],hrd q g1⟩) h1
          unfold stepG at h2 ⊢;refine ck hm (λu m' nx' hh=> ?_) h2;rw[gj,lE] at hh ⊢;refine⟨hh.1,hh.2.1,?_⟩;refine ih2 hl2 (hR.erase i) hq' hoq g2 (λp hp=>g3 p (L hp)) ?_;have hk2:keyOf (ev (b6 st.tmps oi.dst u)) oq.op=keyOf (ev st.tmps) oq.op:=kD (gV hap.c).ev;simp only[hk2];rw[ag];exact hh.2.2
    ·rename_i hj;have hnq:=oR hj i hi;have hre:isReady masks (jn R) i=true:=iY.2 hrd;simp only[hre,N,quietAt,ho] at hnq;have:=oH h i (by unfold Cb;rw[bf];refine⟨hi,?_⟩;simp only[quietAt,ho,hnq,hre];rfl);rw[ho] at this;simp only[BU,hnq];exact this
   ·obtain⟨y,r,hxr⟩: ∃ x r,X=x::r:=by
     match X,hq with
     | x::r,_=>exact⟨x,r,rfl⟩
    have hdr:cu P call ops masks (m+1+1) X rd K st=(match vh P ops masks (jn X) X with
     | some i=>(match ops[i]? with
       | some o=>de P call ops i o (cu P call ops masks (m+1) (X.erase i) (addKey i (keyOf (ev st.tmps) o.op) rd) K) st
       | none=>.fail "no operation")
     | none=>lO (λj=>match ops[j]? with
        | some oj=>stepG P call ops j oj (jm (masks.getD j 0) rd) (cu P call ops masks (m+1) (X.erase j) rd K) st
        | none=>.fail "no operation") (Cb P ops masks X)):=by rw[hxr];rfl
    rw[hdr];split
    ·rename_i x hx;obtain⟨g1,g2,g3⟩:=oS hx;rw[iY] at g3;have hox: ∃ ox,ops[x]?=A ox/\ee P ox.op=true:=by
      unfold quietAt at g2;split at g2
      ·rename_i ox hox;exact⟨ox,hox,g2⟩
      ·cases g2
     obtain⟨ox,hox,hqx⟩:=hox;rw[hox];simp only;by_cases e:x=q
     ·subst e;rw[hox] at ho;injection ho with ho;subst ho;exact h
     ·have hap:=apart hX hq g1 (λh=>e h.symm) ho hox hqq hrd g3;have hx':x∈ X.erase q:=(W e).2 g1;have hq':q∈ X.erase x:=(W (λh=>e h.symm)).2 hq;have hl1:(X.erase q).length<=m+1:=by rw[V hq];omega
      have hl2:(X.erase x).length<=m+1:=by rw[V g1];omega
      have hk: ∀ u,keyOf (ev (b6 st.tmps oq.dst u)) ox.op=keyOf (ev st.tmps) ox.op:=λu=>kD (gV hap.a).ev
      have h1:(de P call ops q oq (de P call ops x ox (cu P call ops masks m ((X.erase q).erase x) (addKey x (keyOf (ev st.tmps) ox.op) (addKey q (keyOf (ev st.tmps) oq.op) rd)) K)) st).holds :=
       ck hm (λu m' nx' hh=>by have:=ih1 hl1 (hX.erase q) hx' hox (λp hp=>g3 p (L hp)) hh;simp only[BU,hqx,hk] at this;exact this) h
      have h2:=CA hqq hqx hap h1;refine ck hm (λu m' nx' hh=> ?_) h2;refine ih2 hl2 (hX.erase x) hq' ho hqq (λp hp=>hrd p (L hp)) ?_;have hk2:keyOf (ev (b6 st.tmps ox.dst u)) oq.op=keyOf (ev st.tmps) oq.op:=kD (gV hap.c).ev;simp only[hk2];rw[ag];exact ck hm (λu m' nx' hh=>lQ hm yO hh) hh
    ·rename_i hj;have hnq:=oR hj q hq;have hre:isReady masks (jn X) q=true:=iY.2 hrd;simp only[hre,N,quietAt,ho,hqq] at hnq;cases hnq
end
end
end Go.Proofs.YtoibaecagklkaaaGreatDoor.Sx
