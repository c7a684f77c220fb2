/-
  The framework's twelfth part: one operation of a region; a region in the text's order.
-/
import Derived.Test.YtoibaecagklkaaaGreatDoorMf
open Array renaming getElem?_setIfInBounds->ay
open Bool renaming and_eq_true->J,and_true->N,false->F,or_eq_true->aP,true->C
open Go.Call renaming operands->O
open Go.Op renaming operands->M
open List renaming erase_comm->ag,getElem?_set->a_,length_erase_of_mem->V,mem_append->an,mem_cons->I,mem_cons_of_mem->a!,mem_erase_of_ne->W,mem_filter->bf,mem_of_mem_erase->L,mem_singleton->Y,set_cons_zero->bD
open Nat renaming beq->ax,land->bH,le_refl->Z,le_trans->S,lt_of_lt_of_le->T,testBit_and->bW,testBit_or->b7,zero_testBit->b_
open Option renaming none->G,some->A
namespace Go.Proofs.YtoibaecagklkaaaGreatDoor
open Go Sx
variable {a:Act}{ops:Array Oper}{K K':KL}{rd:List (Nat×Nat)}{tmps tmps':List (Option SV)}{masks:List Nat}{m:Mem}{i j nx nx':Nat}{E:Nat->Nat}{o:Oper}{σ σ':Operand->Option SV}{dst k:Option Nat}{v x:Option SV}{KP:PK}{P:Program}{t:TypeId}{w:World}{Γ:br}{call:nR->PT}
namespace Sx
open Go
noncomputable section
structure St where
 tmps:List (Option SV)
 m:Mem
 nx:Nat
def slot (tmps:List (Option SV))(i:Nat):Option SV :=
 match tmps,i with
 | [],_=>G
 | v::_,0=>v
 | _::r,i+1=>slot r i
theorem nj: ∀ {tmps:List (Option SV)} {i:Nat} {v:SV},slot tmps i=A v->tmps[i]?=A (A v)
 | [],_,_,h=>by simp[slot] at h
 | x::_,0,v,h=>by simp[slot] at h;simp[h]
 | _::r,i+1,v,h=>by simp[slot] at h;simpa using nj h
def ev (tmps:List (Option SV)):Operand->Option SV
 | .tmp i=>slot tmps i
 | .const v=>SV.ofConst v
 | .global g=>A (.raw (.pointer (A ⟨g,0,G⟩)))
 | .func f=>A (.func (.func f) [] [])
def dr (nx:Nat):List (Option SV)->Bool
 | []=>C
 | none::r=>dr nx r
 | some v::r=>v.wf nx&&dr nx r
theorem j0 {nx:Nat}: ∀ {l:List (Option SV)},dr nx l=C->∀ {i:Nat} {v:SV},l[i]?=A (A v)->v.wf nx=C
 | none::r,h,0,v,hv=>by simp at hv
 | some x::r,h,0,v,hv=>by simp at hv;subst hv;simp only[dr,J] at h;exact h.1
 | none::r,h,i+1,v,hv=>j0 (l:=r) (by simpa [dr] using h) (i:=i) (by simpa using hv)
 | some x::r,h,i+1,v,hv=>j0 (l:=r) (by simp only[dr,J] at h;exact h.2) (i:=i) (by simpa using hv)
structure cT (E:Nat->Nat)(tmps:List (Option SV))(a:Act):Prop where
 size:a.tmps.size=tmps.length
 val: ∀(i:Nat) (v:SV),tmps[i]?=A (A v)->a.tmps[i]?=A (v.val E)
theorem cT.reads (h:cT E tmps a):Reads E (ev tmps) a.eval:=by
 intro x v hx;cases x with
 | tmp i =>have:=h.val i v (nj hx);simp[Act.eval,Array.getD_eq_getD_getElem?,this]
 | const c=>exact(SV.zc hx).symm
 | global g=>simp[ev] at hx;subst hx;rfl
 | func f=>simp[ev] at hx;subst hx;rfl
theorem cT.wf (h:dr nx tmps=C):WfS nx (ev tmps):=by
 intro x v hx;cases x with
 | tmp i=>exact j0 h (nj hx)
 | const c=>exact BR hx
 | global g=>simp[ev] at hx;subst hx;rfl
 | func f=>simp[ev] at hx;subst hx;rfl
theorem cT.congr {E':Nat->Nat}(h:cT E tmps a)(hw:dr nx tmps=C)(hE: ∀ k,k<nx->E' k=E k):cT E' tmps a :=⟨h.size,λi v hv=>by rw[SV.val_congr hE v (j0 hw hv)];exact h.val i v hv⟩
def cn (tmps:List (Option SV))(dst:Option Nat)(v:Option SV):List (Option SV) :=
 match dst with
 | none=>tmps
 | some d=>tmps.set d v
theorem cT.put (h:cT E tmps a){sv:Option SV}{r:Value}(hr: ∀ v,sv=A v->r=v.val E) :
  cT E (cn tmps dst sv) (a.put dst r):=by
 cases dst with
 | none=>exact h
 | some d =>
   refine⟨by simp[Act.put,cn,h.size],λi v hv=> ?_⟩;simp only[cn] at hv;rw[a_] at hv;simp only[Act.put];rw[ay];split at hv
   ·rename_i e;subst e;split at hv
    ·rename_i hlt;injection hv with hv;rw[if_pos rfl,if_pos (by rw[h.size];exact hlt),hr v hv]
    ·cases hv
   ·rename_i e;rw[if_neg e];exact h.val i v hv
theorem p9 {nx:Nat}: ∀ {l:List (Option SV)} {d:Nat} {v:Option SV},dr nx l=C->(∀ u,v=A u->u.wf nx=C)->dr nx (l.set d v)=C
 | [],_,_,h,_=>h
 | none::r,0,G,h,hv=>h
 | none::r,0,A u,h,hv=>by simp only[bD,dr,J];exact⟨hv u rfl,h⟩
 | some x::r,0,G,h,hv=>by simp only[dr,J] at h;exact h.2
 | some x::r,0,A u,h,hv=>by simp only[dr,J,bD] at h ⊢;exact⟨hv u rfl,h.2⟩
 | none::r,d+1,v,h,hv=>p9 (l:=r) h hv
 | some x::r,d+1,v,h,hv=>by simp only[dr,J,List.set_cons_succ] at h ⊢;exact⟨h.1,p9 h.2 hv⟩
theorem je {n m:Nat}(h:n<=m): ∀ {l:List (Option SV)},dr n l=C->dr m l=C
 | [],_=>rfl
 | none::r,hl=>je h (l:=r) hl
 | some x::r,hl=>by simp only[dr,J] at hl ⊢;exact⟨SV.iw h x hl.1,je h hl.2⟩
theorem mO {l:List (Option SV)}(h:dr nx l=C)(hv: ∀ u,v=A u->u.wf nx=C):dr nx (cn l dst v)=true:=by
 cases dst with
 | none=>exact h
 | some d=>exact p9 h hv
def wfO (nx:Nat):Option SV->Bool
 | none=>C
 | some v=>v.wf nx
theorem Wb (h:wfO nx v=C): ∀ u,v=A u->u.wf nx=true:=by rintro u rfl;exact h
def BC (D:Nat):Deferred:={target:=.collected D,args:=#[]}
def Marks (Γ:br)(ds:List Deferred)(w:World):Prop :=∃ Ds:List Nat,ds=Ds.map BC++Γ.tail/\Ds.Nodup/\(∀ D∈ Ds,w.heap[D]?=A (.deferred (A []))/\D∉ Γ.keep/\Γ.w0.heap.size<=D)/\(Γ.rf=F->Ds=[])
theorem Marks.nil (Γ:br)(w:World)(ht:Γ.tail=[]):Marks Γ [] w:=⟨[],by rw[ht];rfl,List.nodup_nil,(λD h=>by cases h),λ_=>rfl⟩
structure Sat (Γ:br)(E:Nat->Nat)(st:St)(a:Act)(w:World):Prop where
 tm:cT E st.tmps a
 wt:dr st.nx st.tmps=C
 df:Marks Γ a.defers w
 mm:aN Γ E st.m st.nx w
theorem aN.weaken {Δ:br}(hle:Γ.le Δ)(h:aN Δ E m nx w):aN Γ E m nx w :=
 ⟨h.iC,h.iS,h.lt,λk B a hk hn hr=>by have:=h.jl k B a hk hn hr;rw[hle.m,hle.w] at this;exact this,by have:=h.ext;rw[hle.m,hle.w] at this;exact this,
  ⟨S hle.nx h.cx.1,λk hk=>(h.cx.2 k (T hk hle.nx)).trans (hle.e k hk)⟩,λD hD=>h.kp D (hle.keep D hD)⟩
def br.more (Γ:br)(Ds:List Nat):br:={Γ with keep:=Ds++Γ.keep}
theorem br.F2 (Γ:br)(Ds:List Nat):Γ.le (Γ.more Ds):=⟨rfl,rfl,Z _,λ_ _=>rfl,λ_D h=>List.mem_append_right _ h⟩
theorem aN.more (h:aN Γ E m nx w){Ds:List Nat}(hD: ∀ D∈ Ds,w.heap[D]?=A (.deferred (A []))):aN (Γ.more Ds) E m nx w :=⟨h.iC,h.iS,h.lt,h.jl,h.ext,h.cx,λD hm=>by rcases an.1 hm with h1 | h1;exact hD D h1;exact h.kp D h1⟩
theorem Marks.kept {Ds:List Nat}{ds:List Deferred}(he:ds=Ds.map BC++Γ.tail)(hn:Ds.Nodup)(hk: ∀ D∈ Ds,D∉ Γ.keep/\Γ.w0.heap.size<=D)(hrf:Γ.rf=F->Ds=[])(h:aN (Γ.more Ds) E m nx w):Marks Γ ds w :=⟨Ds,he,hn,λD hD=>⟨h.kp D (List.mem_append_left _ hD),hk D hD⟩,hrf⟩
def guardOf (ops:Array Oper)(o:Oper)(tmps:List (Option SV)):Option Bool :=
 match o.guard with
 | none=>A C
 | some (j,want)=>(match ops[j]? with
   | some oj=>(match oj.dst with
     | some d=>(match slot tmps d with
       | some (.bool C b)=>A (b==want)
       | some (.aO [])=>A F
       | _=>G)
     | none=>G)
   | none=>G)
theorem qQ (h:cT E tmps a){b:Bool}(hg:guardOf ops o tmps=A b) :
  Region.wanted o (yielded ops a.tmps)=b:=by
 unfold guardOf at hg;unfold Region.wanted;split at hg
 ·rename_i e;rw[e];injection hg
 ·rename_i j want e;rw[e];split at hg
  ·rename_i oj hj;split at hg
   ·rename_i d hd;split at hg
    ·rename_i c hc;have:=h.val d _ (nj hc);injection hg with hg;subst hg;simp[yielded,hj,hd,this,SV.val]
    ·rename_i hc;have:=h.val d _ (nj hc);injection hg with hg;subst hg;simp[yielded,hj,hd,this,SV.val]
    ·cases hg
   ·cases hg
  ·cases hg
def sr (ops:Array Oper)(j:Nat):Bool:=ops.toList.any λo=>match o.guard with
 | some (i,_)=>ax i j
 | none=>F
def Mb (g:Bool)(v:Option SV)(nx:Nat)(k:Option SV->VC):VC :=
 match g,v with
 | true,A (.bool F b)=>fork b (λc=>k (A (.bool C c)))
 | _,v=>match wfO nx v with
   | true=>k v
   | false=>.fail "a key out of bounds"
def UQ (g:Bool)(dst:Option Nat)(v:Option SV)(tmps:List (Option SV))(m:Mem)(nx:Nat)(K:St->VC):VC :=Mb g v nx (λv=>K ⟨cn tmps dst v,m,nx⟩)
theorem vQ (g:Bool)(v:Option SV)(nx:Nat): ∃(p:Prop) (u:Option SV),(∀ k,(Mb g v nx k).holds↔p/\(k u).holds)/\(p->wfO nx u=C)/\(∀(E:Nat->Nat) (r:Value),(∀ x,v=A x->r=x.val E)->∀ x,u=A x->r=x.val E):=by
 unfold Mb;split
 ·rename_i b;exact⟨True,A (.bool C b),λk=>by rw[cH];exact⟨λh=>⟨trivial,h⟩,λh=>h.2⟩,λ_=>rfl,λE r h x hx=>by injection hx with hx;subst hx;exact h (.bool F b) rfl⟩
 ·cases hw:wfO nx v with
  | true=>exact⟨True,v,λk=>⟨λh=>⟨trivial,h⟩,λh=>h.2⟩,λ_=>hw,λE r h=>h⟩
  | false=>exact⟨False,G,λk=>⟨λh=>h.elim,λh=>h.1.elim⟩,λh=>h.elim,λE r h x hx=>by cases hx⟩
def lop (P:Program)(call:nR->PT)(σ:Operand->Option SV)(m:Mem)(nx:Nat)(o:Op)(K:KL):VC :=
 match o with
 | .alloc t=>(match gC P t with
   | some z=>Gf t z m nx K
   | none=>.fail "alloc")
 | .box t x=>need (σ x) (λv=>Gf t v m nx K)
 | .buildSlice t len parts=>kK P σ t len parts.toList m nx K
 | .makeSlice t x y=>need (σ x) (λa=>need (σ y) (λb=>y6 P t a b m nx K))
 | .store t a x=>nD P t (σ a) (σ x) m nx K
 | .call c=>y5 P call σ c m nx K
 | .makeMap t r=>vC P t (r.map σ) m nx K
 | .mapUpdate t x k v=>gU P t (σ x) (σ k) (σ v) m nx K
 | .insert t x k v=>gU P t (σ x) (σ k) (σ v) m nx K
 | .mapEntry t x k=>sD P t (σ x) (σ k) m nx K
 | .entryStore _ x s v=>m8 (σ x) (σ s) (σ v) m nx K
 | .range t x=>Gg P t (σ x) m nx K
 | .next x b=>NY (σ x) b m nx K
 | .panic x=>xO call (σ x) m nx
 | _=>.fail "no such operation"
theorem aa5 (hcall: ∀ c,qf P Γ KP c (call c))(o:Oper):Wu P Γ KP σ m nx o (lop P call σ m nx o.op):=by
 obtain⟨dst,op,type,pos,after,guard⟩:=o;cases op
 case alloc t=>exact qn.tf PB
 case box t x=>exact qn.tf Xt
 case buildSlice t len parts=>exact qn.tf Bq
 case makeSlice t x y=>exact qn.tf Ui
 case store t a x=>exact qn.tf Ec
 case call c=>exact TQ hcall
 case makeMap t r=>exact qn.tf IF
 case mapUpdate t x k v=>exact qn.tf tE
 case insert t x k v=>exact qn.tf Ly
 case mapEntry t x k=>exact qn.tf Ge
 case entryStore t x s v=>exact qn.tf Bv
 case range t x=>exact qn.tf PY
 case next x b=>exact qn.tf Uj
 case panic x=>exact PX hcall
 all_goals exact qn.tf (qn.fail _)
def dn (P:Program)(call:nR->PT)(ops:Array Oper)(j:Nat)(o:Oper)(K:St->VC)(st:St):VC :=
 match guardOf ops o st.tmps with
 | some C=>(match eE P o.op with
   | true=>qop P (λk=>st.m.get k) (ev st.tmps) o.op (λv=>UQ (sr ops j) o.dst v st.tmps st.m st.nx K)
   | false=>(match Mem.wf st.nx st.m with
     | true=>lop P call (ev st.tmps) st.m st.nx o.op (λv m nx=>UQ (sr ops j) o.dst v st.tmps m nx K)
     | false=>.fail "a key out of bounds"))
 | some F=>K ⟨cn st.tmps o.dst (A (.aO [])),st.m,st.nx⟩
 | none=>.fail "a guard that is not known"
def jL (K:St->VC)(Γ:br)(E:Nat->Nat)(nx:Nat)(a:Act)(w:World):Prop :=∃ E' st',(∀ k,k<nx->E' k=E k)/\nx<=st'.nx/\Sat Γ E' st' a w/\(K st').holds
theorem jL.trans {K K':St->VC}(h:jL K Γ E nx a w)
  (hk: ∀ E' st',nx<=st'.nx->Sat Γ E' st' a w->(K st').holds->jL K' Γ E' st'.nx a w):jL K' Γ E nx a w:=by
 obtain⟨E',st',h1,h2,h3,h4⟩:=h;obtain⟨E'',st'',k1,k2,k3,k4⟩:=hk E' st' h2 h3 h4;exact⟨E'',st'',λk hk=>(k1 k (T hk h2)).trans (h1 k hk),S h2 k2,k3,k4⟩
theorem B4 {K:St->VC}{g:Bool}{sv:Option SV}{r:Value}
  (h:(UQ g dst sv tmps m nx K).holds) (ht:cT E tmps a) (hw:dr nx tmps=C) (hd:Marks Γ a.defers w) (hm:aN Γ E m nx w) (hr: ∀ v,sv=A v->r=v.val E) :
  jL K Γ E nx (a.put dst r) w:=by
 have hdf:Marks Γ (a.put dst r).defers w:=by cases dst<;>exact hd
 obtain⟨p,u,h1,h2,h3⟩:=vQ g sv nx;obtain⟨hp,hk⟩:=(h1 _).1 h;exact⟨E,_,λ_ _=>rfl,Z _,⟨ht.put (h3 E r hr),mO hw (Wb (h2 hp)),hdf,hm⟩,hk⟩
theorem Da (h:eE P o.op=C):pK o=true:=by unfold pK;cases ho:o.op<;>first | rfl | (rw[ho] at h;cases h)
theorem IK (h:(lop P call σ m nx o.op K).holds):pK o=true:=by unfold pK;cases ho:o.op<;>first | rfl | (rw[ho] at h;exact h.elim)
def mR (KP:PK)(Γ:br)(E:Nat->Nat)(nx:Nat)(e:Exit)(a:Act)(w:World):Prop :=∃ ch,e=.panic ch/\Marks Γ a.defers w/\jK KP Γ E nx ch w
theorem wu {ro:Option Nat}(hcall: ∀ c,qf P Γ KP c (call c)){K:St->VC}{st:St}(h:(dn P call ops j o K st).holds)
     (hs:Sat Γ E st a w) (Q:Exit->Act->World->Prop) (hP: ∀ e w,mR KP Γ E st.nx e a w->Q e a w) :
  if Region.wanted o (yielded ops a.tmps)then o.wpIn (Fr ro) 0 P a w (λa' w'=>(∃ r,a'=a.put o.dst r)/\jL K Γ E st.nx a' w') Q else jL K Γ E st.nx (a.put o.dst undef) w:=by
 unfold dn at h;split at h
 ·rename_i hg;rw[qQ hs.tm hg,if_pos rfl];split at h
  ·rename_i hq;obtain⟨obl,sv,h1,h2⟩:=Mi (P:=P) (look:=λk=>st.m.get k) (σ:=ev st.tmps) o;obtain⟨hobl,hk⟩:=(h1 _).1 h;obtain⟨r,hrun,hv⟩:=h2 E w a.eval ⟨hs.mm.nU,hs.mm.Lb,hs.mm.iC⟩ hs.tm.reads hobl;refine Out.wp (Da hq) (R:=λv w'=>w'=w/\v=r) (RP:=λ_ _=>False) ?_ ?_ (λ_ _ h=>h.elim)
   ·rw[hrun];exact⟨rfl,rfl⟩
   ·rintro v w' ⟨rfl,rfl⟩;exact⟨⟨_,rfl⟩,B4 hk hs.tm hs.wt hs.df hs.mm hv⟩
  ·split at h
   ·rename_i hwf;obtain⟨Ds,d1,d2,d3,d4⟩:=hs.df;have hm:=hs.mm.more λD hD=>(d3 D hD).1;have:=aa5 (λc=>(hcall c).mono (Γ.F2 Ds)) o _ E w a.eval h hm hwf (cT.wf hs.wt) hs.tm.reads;refine Out.wp (IK h) this ?_ ?_
    rotate_left
    ·rintro ch w' ⟨E',v,m',nx',g1,g2,g3,gw,g4,g5⟩;exact hP _ _ ⟨ch,rfl,Marks.kept d1 d2 (λD hD=>(d3 D hD).2) d4 g4,E',v,m',nx',g1,g2,g3,gw,g4.weaken (Γ.F2 Ds),g5⟩
    rintro r w' ⟨E',sv,m',nx',g1,g2,g3,g4,g5⟩;have ht:=hs.tm.congr hs.wt g1;obtain⟨E'',st',k1,k2,k3,k4⟩:=B4 g5 ht (je g2 hs.wt) (Marks.kept d1 d2 (λD hD=>(d3 D hD).2) d4 g4) (g4.weaken (Γ.F2 Ds)) g3;exact⟨⟨_,rfl⟩,E'',st',λk hk=>(k1 k (T hk g2)).trans (g1 k hk),S g2 k2,k3,k4⟩
   ·exact h.elim
 ·rename_i hg;rw[qQ hs.tm hg];simp only[Bool.false_eq_true,if_false];exact⟨E,⟨cn st.tmps o.dst (A (.aO [])),st.m,st.nx⟩,λ_ _=>rfl,Z _,⟨hs.tm.put (sv:=A (.aO [])) (r:=undef) (λv hv=>by injection hv with hv;subst hv;rfl),mO hs.wt (λu hu=>by injection hu with hu;subst hu;rfl),by cases o.dst<;>exact hs.df,hs.mm⟩,h⟩
 ·exact h.elim
def mJ (P:Program)(call:nR->PT)(ops:Array Oper):List Nat->(St->VC)->St->VC
 | [],K,st=>K st
 | j::r,K,st=>match ops[j]? with
   | some o=>dn P call ops j o (mJ P call ops r K) st
   | none=>.fail "no operation"
def unsure (ops:Array Oper)(tmps:List (Option SV)):List (Option SV):=ops.toList.foldl (λt o=>cn t o.dst G) tmps
theorem GQ {d:Option Nat}{v:SV}(h:(cn tmps d G)[i]?=A (A v)):tmps[i]?=A (A v)/\d≠A i:=by
 cases d with
 | none=>exact⟨h,λe=>by cases e⟩
 | some d =>
   simp only[cn,a_] at h;split at h
   ·split at h<;>cases h
   ·rename_i e;exact⟨h,λx=>e (by injection x)⟩
theorem CJ {v:SV}(h:(unsure ops tmps)[i]?=A (A v)):tmps[i]?=A (A v)/\∀ o∈ ops.toList,o.dst≠A i:=by
 unfold unsure at h;generalize ops.toList=l at h;induction l generalizing tmps with
 | nil=>exact⟨h,λo ho=>by cases ho⟩
 | cons x r ih =>obtain⟨h1,h2⟩:=ih h;obtain⟨h3,h4⟩:=GQ h1;exact⟨h3,λo ho=>by rcases I.1 ho with rfl | ho;exact h4;exact h2 o ho⟩
theorem MO :(unsure ops tmps).length=tmps.length:=by
 unfold unsure;generalize ops.toList=l;induction l generalizing tmps with
 | nil=>rfl
 | cons x r ih =>rw[List.foldl_cons,ih];cases x.dst<;>simp[cn]
theorem cT.unsure {E:Nat->Nat}{ops:Array Oper}{tmps:List (Option SV)}{a:Act}(h:cT E tmps a):cT E (unsure ops tmps) a :=⟨by rw[MO];exact h.size,λi v hv=>h.val i v (CJ hv).1⟩
theorem cT.CK (h:cT E (Sx.unsure ops tmps) a)(ho:o∈ ops.toList)(r:Value):cT E (Sx.unsure ops tmps) (a.put o.dst r):=by
 cases hd:o.dst with
 | none=>exact h
 | some d =>refine⟨by simp[Act.put,h.size],λi v hv=> ?_⟩;simp only[Act.put];rw[ay,if_neg (λe=>(CJ hv).2 o ho (by rw[hd,e]))];exact h.val i v hv
theorem EW (h:dr nx tmps=C):dr nx (unsure ops tmps)=true:=by
 unfold unsure;generalize ops.toList=l;induction l generalizing tmps with
 | nil=>exact h
 | cons x r ih=>exact ih (mO h λu hu=>by cases hu)
theorem mR.weaken {E':Nat->Nat}{e:Exit}(h:mR KP Γ E' nx' e a w)(hE: ∀ k,k<nx->E' k=E k)(hn:nx<=nx'):mR KP Γ E nx e a w:=by obtain⟨ch,h1,h2,h3⟩:=h;exact⟨ch,h1,h2,h3.weaken hE hn⟩
theorem v8 {P:Program}{Γ:br}{ro:Option Nat}{KP:PK}{call:nR->PT}(hcall: ∀ c,qf P Γ KP c (call c)){ops:Array Oper}{Q:Exit->Act->World->Prop}{K:St->VC}{E0:Nat->Nat}{tg:Nat}{T0:List (Option SV)}(hT0:dr tg T0=C)
  (hP: ∀ e a w,cT E0 (unsure ops T0) a->mR KP Γ E0 tg e a w->Q e a w) :
  ∀(l:List Nat) {st:St} {E:Nat->Nat} {a:Act} {w:World},(mJ P call ops l K st).holds->Sat Γ E st a w->cT E0 (unsure ops T0) a->(∀ k,k<tg->E k=E0 k)->tg<=st.nx ->
   (∀ a w,jL K Γ E st.nx a w->Q .normal a w)->wpOpsIn (Fr ro) 0 P ops Q l a w
 | [],st,E,a,w,h,hs,_,_,_,hQ=>hQ _ _ ⟨E,st,λ_ _=>rfl,Z _,hs,h⟩
 | j::r,st,E,a,w,h,hs,hF,hE0,hn0,hQ=>by
   rw[wpOpsIn_cons];unfold wpOpIn;simp only[mJ] at h;cases ho:ops[j]? with
   | none=>rw[ho] at h;exact h.elim
   | some o =>
     rw[ho] at h;simp only;have hmem:o∈ ops.toList:=by rw[← Array.getElem?_toList] at ho;exact List.mem_of_getElem? ho
     have hstep:=wu (ro:=ro) hcall h hs Q (λe w hb=>hP e a w hF (hb.weaken hE0 hn0));have go: ∀ a' w',((∃ r,a'=a.put o.dst r)/\jL (mJ P call ops r K) Γ E st.nx a' w')->wpOpsIn (Fr ro) 0 P ops Q r a' w':=by rintro a' w' ⟨⟨rr,ha⟩,E',st',g1,g2,g3,g4⟩;refine v8 hcall hT0 hP r g4 g3 (ha▸ cT.CK hF hmem rr) (λk hk=>(g1 k (T hk hn0)).trans (hE0 k hk)) (S hn0 g2) λa'' w'' hb=>hQ a'' w'' ?_;obtain⟨E'',st'',k1,k2,k3,k4⟩:=hb;exact⟨E'',st'',λk hk=>(k1 k (T hk g2)).trans (g1 k hk),S g2 k2,k3,k4⟩
     split
     ·rename_i hw;rw[if_pos hw] at hstep;exact Oper.wpIn_mono go hstep
     ·rename_i hw;rw[if_neg hw] at hstep;exact⟨Ao ro,go _ _ ⟨⟨_,rfl⟩,hstep⟩⟩
theorem rX {σ σ':Operand->Option SV}: ∀ {l:List Operand},(∀ x∈ l,σ x=σ' x)->FF σ l=FF σ' l
 | [],_=>rfl
 | x::r,h=>by simp only[FF];rw[h x (by simp),rX λy hy=>h y (by simp[hy])]
theorem nE {σ σ':Operand->Option SV}: ∀ {l:List (Nat×Operand)},(∀ p∈ l,σ p.2=σ' p.2)->partsOf σ l=partsOf σ' l
 | [],_=>rfl
 | (i,x)::r,h=>by simp only[partsOf];rw[h (i,x) (by simp),nE λp hp=>h p (by simp[hp])]
theorem qB {d:Bool×Int}{x:Option Operand}(h: ∀ y,x=A y->σ y=σ' y):bound σ d x=bound σ' d x:=by
 cases x with
 | none=>rfl
 | some y=>simp only[bound,h y rfl]
def keyOf (σ:Operand->Option SV):Op->Option Nat
 | .load _ a=>(match σ a with
   | some (.ptr key _ _)=>A key
   | some (.k6 key _ _ _)=>A key
   | some (.iI key _ _ _ _)=>A key
   | some (.oP key _ _ _)=>A key
   | some (.fP key _ _)=>A key
   | some (.nv key _ _ _ _)=>A key
   | _=>G)
 | .convert _ _ a=>(match σ a with
   | some (.slc key _ _ _ _)=>A key
   | some (.bx key _ _ _ _ _)=>A key
   | _=>G)
 | .lookup _ x _ _=>(match σ x with
   | some (.map key)=>A key
   | _=>G)
 | .call c=>(match c.args.toList with
   | [x]=>(match σ x with
     | some (.map key)=>A key
     | _=>G)
   | _=>G)
 | _=>G
theorem Qr {look look':lA}{o:Op}{K:Option SV->VC}(h: ∀ x∈ o.operands,σ x=σ' x)(hl: ∀ k,keyOf σ o=A k->look k=look' k) :
  qop P look σ o K=qop P look' σ' o K:=by
 cases o<;>simp only[M] at h<;>simp only[qop]
 case move x=>rw[h x (by simp)]
 case assign x=>rw[h x (by simp)]
 case pick c a b=>rw[h c (by simp),h a (by simp),h b (by simp)]
 case load t a =>
  simp only[keyOf] at hl;rw[h a (by simp)] at hl ⊢;unfold Oh;cases P.underlying t with
  | none=>rfl
  | some d =>
    simp only;split
    ·rename_i key o hx;rw[hx] at hl;rw[hl key rfl]
    ·rename_i key w i k hx;rw[hx] at hl;rw[hl key rfl]
    ·rename_i key w o i k hx;rw[hx] at hl;rw[hl key rfl]
    ·rename_i key base n i hx;rw[hx] at hl;rw[hl key rfl]
    ·rfl
    ·rename_i key b o hx;rw[hx] at hl;rw[hl key rfl]
    ·rename_i key w b i k hx;rw[hx] at hl;rw[hl key rfl]
    ·rfl
 case nilCheck x=>rw[h x (by simp)]
 case binOp op t x y yt=>rw[h x (by simp),h y (by simp)]
 case unOp op t x=>rw[h x (by simp)]
 case convert s d x =>
  simp only[keyOf] at hl;rw[h x (by simp)] at hl ⊢;cases hx:σ' x with
  | none=>rfl
  | some a =>
    simp only[need,GC];split
    ·unfold Me;split
     ·rfl
     ·rename_i key o n cl c;rw[hx] at hl;rw[hl key rfl]
     ·rename_i key i n c;rw[hx] at hl;rw[hl key rfl]
     ·rfl
    ·rfl
 case makeInterface t x=>rw[h x (by simp)]
 case makeFunc fn a b =>rw[rX (l:=a.toList) λx hx=>h x (by simp;exact .inl (by simpa using hx)),rX (l:=b.toList) λx hx=>h x (by simp;exact .inr (by simpa using hx))]
 case slice t x lo hi mx =>
  have hx:=h x (by simp);have hlo: ∀ d,bound σ d lo=bound σ' d lo:=λd=>qB λy hy=>h y (by simp[hy]);have hhi: ∀ d,bound σ d hi=bound σ' d hi:=λd=>qB λy hy=>h y (by simp[hy]);have hmx: ∀ d,bound σ d mx=bound σ' d mx:=λd=>qB λy hy=>h y (by simp[hy]);unfold GG;rw[hx];have e1: ∀ l s,oA σ l s lo hi K=oA σ' l s lo hi K:=λ_ _=>by simp only[oA,hlo,hhi]
  have e2: ∀ m a key o n cl c,jW σ m a key o n cl c lo hi K=jW σ' m a key o n cl c lo hi K:=λ_ _ _ _ _ _ _=>by simp only[jW,hlo,hhi]
  have e3: ∀ key w i n c,jV σ key w i n c lo hi K=jV σ' key w i n c lo hi K:=λ_ _ _ _ _=>by simp only[jV,hlo,hhi]
  have e4: ∀ key o n,oz σ key o n lo hi K=oz σ' key o n lo hi K:=λ_ _ _=>by simp only[oz,hlo,hhi]
  have e5: ∀ n,sC σ n lo hi=sC σ' n lo hi:=λ_=>by simp only[sC,hlo,hhi]
  have e6: ∀ m key o n c z,mx=A z->pT σ m key o n c lo hi z K=pT σ' m key o n c lo hi z K:=λ_ _ _ _ _ z hz=>by subst hz;simp only[pT,hlo,hhi,hmx]
  split
  ·exact e1 _ _
  ·split
   ·rw[e5,e4];split
    ·rfl
    ·exact e2 _ _ _ _ _ _ _
   ·rfl
  ·split
   ·exact e6 _ _ _ _ _ _ rfl
   ·rfl
  ·split
   ·exact e6 _ _ _ _ _ _ rfl
   ·rfl
  ·split
   ·exact e2 _ _ _ _ _ _ _
   ·rfl
  ·split
   ·rw[e3]
   ·rfl
  ·rfl
 case fieldAddr s x f=>rw[h x (by simp)]
 case field t x f=>rw[h x (by simp)]
 case indexAddr t x i=>rw[h x (by simp),h i (by simp)]
 case index t x i=>rw[h x (by simp),h i (by simp)]
 case typeAssert x t at_ ok=>rw[h x (by simp)]
 case extract x i=>rw[h x (by simp)]
 case build t parts =>unfold GB;rw[nE (l:=parts.toList) λp hp=>h p.2 (by simp;exact⟨p.1,by simpa using hp⟩)]
 case lookup t x k ok =>
  simp only[keyOf] at hl;rw[h x (by simp)] at hl ⊢;rw[h k (by simp)];unfold need;cases hx:σ' x with
  | none=>rfl
  | some v =>
    cases σ' k with
    | none=>rfl
    | some u =>
      simp only;unfold Ac;split
      ·split
       ·split
        ·rfl
        ·rename_i key _;rw[hx] at hl;rw[hl key rfl]
        ·rfl
       ·rfl
      ·rfl
 case call c =>
  obtain⟨callee,args,ats⟩:=c;cases callee with
  | value f=>rfl
  | invoke r m=>rfl
  | builtin b =>
    simp only[O] at h;simp only;unfold Od;split
    ·rename_i x hx
     have hxe:=h x (by simp;have:x∈ args.toList:=by rw[hx];simp
                       simpa using this)
     rw[hxe];cases args_ty:ats[0]? with
     | none=>rfl
     | some t =>
       simp only;unfold need;cases hv:σ' x with
       | none=>rfl
       | some v =>
         simp only;unfold Og;split
         ·rename_i key;have:=hl key (by simp only[keyOf,hx,hxe,hv]);rw[this]
         ·rfl
    ·rename_i x hx;rw[h x (by simp;have:x∈ args.toList:=by rw[hx];simp
                              simpa using this)]
    ·rename_i x y hx;have h1:x∈ args.toList:=by rw[hx];simp
     have h2:y∈ args.toList:=by rw[hx];simp
     rw[h x (by simpa using h1),h y (by simpa using h2)]
    ·rename_i x y hx;have h1:x∈ args.toList:=by rw[hx];simp
     have h2:y∈ args.toList:=by rw[hx];simp
     rw[h x (by simpa using h1),h y (by simpa using h2)]
    ·rfl
theorem kI {o:Op}(h: ∀ x∈ o.operands,σ x=σ' x):keyOf σ o=keyOf σ' o:=by
 cases o<;>simp only[keyOf]
 case load t a=>rw[h a (by simp[M])]
 case convert s d a=>rw[h a (by simp[M])]
 case lookup t x k ok=>rw[h x (by simp[M])]
 case call c =>
  split
  ·rename_i x hx;have hm:x∈ c.args.toList:=by rw[hx];simp
   rw[h x (by simp only[M,O];cases c.callee<;>simp<;>first | exact .inr (by simpa using hm) | simpa using hm)]
  ·rfl
theorem PW {o:Op}(h: ∀ x∈ o.operands,σ x=σ' x):lop P call σ m nx o K=lop P call σ' m nx o K:=by
 cases o<;>simp only[M] at h<;>simp only[lop]
 case box t x=>rw[h x (by simp)]
 case buildSlice t len parts =>unfold kK;rw[nE (l:=parts.toList) λp hp=>h p.2 (by simp;exact⟨p.1,by simpa using hp⟩)]
 case makeSlice t x y=>rw[h x (by simp),h y (by simp)]
 case store t a x=>rw[h a (by simp),h x (by simp)]
 case makeMap t r=>cases r with
  | none=>rfl
  | some x=>simp only[Option.map_some];rw[h x (by simp)]
 case mapUpdate t x k v=>rw[h x (by simp),h k (by simp),h v (by simp)]
 case insert t x k v=>rw[h x (by simp),h k (by simp),h v (by simp)]
 case mapEntry t x k=>rw[h x (by simp),h k (by simp)]
 case entryStore t x k v=>rw[h x (by simp),h k (by simp),h v (by simp)]
 case range t x=>rw[h x (by simp)]
 case next x b=>rw[h x (by simp)]
 case panic x=>rw[h x (by simp)]
 case call c =>
  obtain⟨callee,args,ats⟩:=c;have he:FF σ args.toList=FF σ' args.toList:=rX λx hx=>h x (by simp only[O];cases callee<;>simp<;>first | exact .inr (by simpa using hx) | simpa using hx)
  unfold y5;simp only[he];cases FF σ' args.toList with
  | none=>cases callee<;>first | rfl | (rename_i b;cases b<;>rfl)
  | some avs =>
    cases callee with
    | value f=>have:=h f (by simp[O]);dsimp only;rw[this]
    | invoke r m=>have:=h r (by simp[O]);dsimp only;rw[this]
    | builtin b=>cases b<;>first | rfl | (cases avs with | nil=>rfl | cons x r=>cases r with | nil=>rfl | cons y r=>cases r<;>rfl)
def aT (pt:PT):Prop:=∀ args m nx (K K':SV->Mem->Nat->VC),(∀ v m nx,(K v m nx).holds->(K' v m nx).holds)->(pt args m nx K).holds->(pt args m nx K').holds
theorem SK {l:Bool}{c:Prop}[Decidable c]{t t':VC}(h:t.holds->t'.holds):(oM l c t).holds->(oM l c t').holds:=by
 unfold oM;cases l
 ·exact λx=>⟨x.1,h x.2⟩
 ·by_cases hc:c
  ·simp only[if_pos hc];exact h
  ·simp only[if_neg hc];exact id
theorem xT {t t':SV->VC}(h: ∀ v,(t v).holds->(t' v).holds):(need x t).holds->(need x t').holds:=by
 cases x with
 | none=>exact id
 | some v=>exact h v
theorem lI {d:TypeDesc}{k:SV}{t t':Wt->VC}(h: ∀ r,(t r).holds->(t' r).holds): ∀ {es:List (Nat×SV×SV)} {i:Nat},(gQ d k t es i).holds->(gQ d k t' es i).holds
 | [],i,hh=>h _ hh
 | e::r,i,hh=>by
   unfold gQ at hh ⊢;split at hh
   ·split at hh
    ·exact h _ hh
    ·exact lI h hh
   ·rw[cH] at hh ⊢;split at hh
    ·exact h _ hh
    ·exact lI h hh
   ·exact hh
theorem wN {k:Option SV}{f f':TypeDesc->SV->Nat->List (Nat×SV×SV)->Nat->SV->VC}(h: ∀ d kv key es clock z,(f d kv key es clock z).holds->(f' d kv key es clock z).holds) :
  (qa P t x k m f).holds->(qa P t x k m f').holds:=by
 unfold qa;split
 ·split
  ·split
   ·exact h _ _ _ _ _ _
   ·exact id
  ·exact id
 ·exact id
theorem zG {k:Option SV}(h: ∀ v m nx,(K v m nx).holds->(K' v m nx).holds):(jR P t x k v m nx K).holds->(jR P t x k v m nx K').holds:=by
 unfold jR;refine wN λd kv key es clock z=> ?_;split
 ·exact lI λr=>by
   cases r with
   | none=>exact h _ _ _
   | some q=>exact h _ _ _
 ·exact id
theorem Bn {k:Option SV}(h: ∀ v m nx,(K v m nx).holds->(K' v m nx).holds):(lT P t x k m nx K).holds->(lT P t x k m nx K').holds:=by
 unfold lT;exact wN λd kv key es clock z=>lI λr=>by
  cases r with
  | none=>exact h _ _ _
  | some q=>exact h _ _ _
theorem xC {s:Option SV}(h: ∀ v m nx,(K v m nx).holds->(K' v m nx).holds):(i9 x s v m nx K).holds->(i9 x s v m nx K').holds:=by
 unfold i9;split
 ·split
  ·split
   ·exact h _ _ _
   ·exact id
  ·exact id
 ·exact id
theorem F1 {ats:Array TypeId}{x k:SV}(_h: ∀ v m nx,(K v m nx).holds->(K' v m nx).holds):(zX P ats x k m nx K).holds->(zX P ats x k m nx K').holds:=id
theorem IL (_h: ∀ v m nx,(K v m nx).holds->(K' v m nx).holds):(Gg P t x m nx K).holds->(Gg P t x m nx K').holds:=id
theorem LM {s:Bool}(_h: ∀ v m nx,(K v m nx).holds->(K' v m nx).holds):(NY x s m nx K).holds->(NY x s m nx K').holds:=id
theorem IJ (hm: ∀ f,aT (call f)){o:Op}(h: ∀ v m nx,(K v m nx).holds->(K' v m nx).holds) :
  (lop P call σ m nx o K).holds->(lop P call σ m nx o K').holds:=by
 have hnew: ∀ t z,(Gf t z m nx K).holds->(Gf t z m nx K').holds:=by
  intro t z;unfold Gf;split
  ·exact h _ _ _
  ·exact id
 have hupd: ∀ t x k v,(gU P t x k v m nx K).holds->(gU P t x k v m nx K').holds:=λt x k v=>by
  unfold gU;split
  ·have hfu: ∀ key f c (v:Option SV) m,(iR P t key f c k v m nx K).holds->(iR P t key f c k v m nx K').holds:=λkey f c v m=>by
    unfold iR;split
    ·split
     ·exact h _ _ _
     ·exact id
    ·exact id
   split
   ·exact hfu _ _ _ _ _
   ·refine AZ λvs m'=> ?_;split
    ·exact hfu _ _ _ _ _
    ·exact id
  exact zG h
 have hgrown: ∀ e n cs s m nx,(grown e n cs s m nx K).holds->(grown e n cs s m nx K').holds:=λe n cs s m nx x c hc=>h _ _ _ (x c hc);unfold lop;split
 ·split
  ·exact hnew _ _
  ·exact id
 ·exact xT λv=>hnew _ _
 ·unfold kK;split
  ·split
   ·split
    ·split
     ·exact h _ _ _
     ·exact id
    ·exact id
   ·exact id
  ·exact id
 ·refine xT λa=>xT λb=> ?_;unfold y6;split
  ·split
   ·split
    ·exact SK (h _ _ _)
    ·exact id
   ·exact id
  ·split
   ·split
    ·split
     ·exact λhh=>⟨hh.1,h _ _ _ hh.2⟩
     ·exact id
    ·exact id
   ·exact id
  ·exact id
 ·unfold nD;split
  ·split
   ·split
    ·exact h _ _ _
    ·exact id
   ·exact id
  ·split
   ·split
    ·split
     ·exact λx=>⟨x.1,h _ _ _ x.2⟩
     ·exact id
    ·exact id
   ·split
    ·exact λx=>⟨x.1,h _ _ _ x.2⟩
    ·exact id
   ·exact id
  ·split
   ·split
    ·split
     ·exact λx=>⟨x.1,h _ _ _ x.2⟩
     ·exact id
    ·exact id
   ·exact id
  ·split
   ·split
    ·split
     ·split
      ·exact λx=>⟨x.1,h _ _ _ x.2⟩
      ·exact id
     ·exact id
    ·exact id
   ·exact id
  ·split
   ·split
    ·split
     ·exact λx=>⟨x.1,h _ _ _ x.2⟩
     ·exact id
    ·exact id
   ·exact id
  ·exact id
 ·unfold y5;split
  ·split
   ·exact hm _ _ _ _ _ _ λv m nx=>h _ _ _
   ·exact hm _ _ _ _ _ _ λv m nx=>h _ _ _
   ·exact id
  ·split
   ·split
    ·split
     ·exact hm _ _ _ _ _ _ λv m nx=>h _ _ _
     ·exact id
    ·exact id
   ·exact id
  ·unfold vz;split
   ·unfold zW;split
    ·split
     ·split
      ·split
       ·split
        ·unfold xG;split
         ·split
          ·split
           ·split
            ·exact h _ _ _
            ·exact hgrown _ _ _ _ _ _
           ·split
            ·split
             ·split
              ·exact h _ _ _
              ·exact id
             ·exact hgrown _ _ _ _ _ _
            ·exact id
           ·split
            ·split
             ·exact λx=>⟨x.1,λc hc=>h _ _ _ (x.2 c hc)⟩
             ·exact id
            ·exact id
           ·exact id
          ·exact id
         ·exact id
        ·exact id
       ·exact id
      ·exact id
     ·exact id
    ·exact id
   ·split
    ·split
     ·split
      ·split
       ·exact xF λu m nx=>h _ _ _
       ·exact id
      ·exact id
     ·exact id
    ·exact id
  ·unfold NT;split
   ·split
    ·split
     ·split
      ·split
       ·exact h _ _ _
       ·exact id
      ·exact id
     ·unfold vA;split
      ·split
       ·exact λx=>⟨x.1,h _ _ _ x.2⟩
       ·exact id
      ·exact id
     ·exact id
    ·exact id
   ·exact id
  ·exact F1 h
  ·exact id
 ·unfold vC;split
  ·exact h _ _ _
  ·split
   ·exact h _ _ _
   ·exact id
  ·exact id
 ·exact hupd _ _ _ _
 ·exact hupd _ _ _ _
 ·unfold sD;split
  ·unfold sj;split
   ·split
    ·split
     ·split
      ·exact λhh b=>h _ _ _ (hh b)
      ·exact id
     ·exact id
    ·exact id
   ·exact id
  exact Bn h
 ·unfold m8;split
  ·unfold sk;split
   ·split
    ·exact λhh=>And.intro hh.1 (h _ _ _ hh.2)
    ·exact id
   ·exact id
  exact xC h
 ·exact IL h
 ·exact LM h
 ·exact id
 ·exact id
def names (ops:Array Oper)(o:Oper):List Nat:=o.looksAt ops
def UZ (P:Program)(ops:Array Oper)(j:Nat)(o:Oper)(tmps:List (Option SV))(m:Mem)(nx:Nat)(k:Option SV->VC):VC :=
 match guardOf ops o tmps with
 | some C=>qop P (λk=>m.get k) (ev tmps) o.op (λv=>Mb (sr ops j) v nx k)
 | some F=>k (A (.aO []))
 | none=>.fail "a guard that is not known"
theorem iu (hq:eE P o.op=C)(K:St->VC)(st:St) :
  dn P call ops j o K st=UZ P ops j o st.tmps st.m st.nx (λv=>K ⟨cn st.tmps o.dst v,st.m,st.nx⟩):=by
 unfold dn UZ;cases guardOf ops o st.tmps with
 | none=>rfl
 | some b=>cases b<;>simp only[hq]<;>rfl
theorem Ad (P:Program)(ops:Array Oper)(j:Nat)(o:Oper)(tmps:List (Option SV))(m:Mem)(nx:Nat) :
  ∃(p:Prop) (u:Option SV),(∀ k,(UZ P ops j o tmps m nx k).holds↔p/\(k u).holds):=by
 unfold UZ;cases guardOf ops o tmps with
 | none=>exact⟨False,G,λk=>⟨λh=>h.elim,λh=>h.1.elim⟩⟩
 | some b =>
   cases b with
   | false=>exact⟨True,A (.aO []),λk=>⟨λh=>⟨trivial,h⟩,λh=>h.2⟩⟩
   | true =>obtain⟨obl,sv,h1,_⟩:=Mi (P:=P) (look:=λk=>m.get k) (σ:=ev tmps) o;obtain⟨p,u,g1,_,_⟩:=vQ (sr ops j) sv nx;exact⟨obl/\p,u,λk=>by simp only[h1,g1];exact⟨λh=>⟨⟨h.1,h.2.1⟩,h.2.2⟩,λh=>⟨h.1.1,h.1.2,h.2⟩⟩⟩
theorem BF {t:Nat}(h:Operand.tmp t∈ o.op.operands):t∈ o.looksAt ops:=by simp only[Oper.looksAt,an,List.mem_filterMap];exact .inl ⟨.tmp t,by simpa using h,rfl⟩
theorem vF {oj:Oper}{d:Nat}{b:Bool}(hg:o.guard=A (j,b))(hj:ops[j]?=A oj)(hd:oj.dst=A d):d∈ o.looksAt ops:=by simp only[Oper.looksAt,an];right;simp[hg,hj,hd]
def Agree (ops:Array Oper)(o:Oper)(tmps tmps':List (Option SV)):Prop:=∀ t∈ o.looksAt ops,slot tmps t=slot tmps' t
theorem Agree.ev (h:Agree ops o tmps tmps'): ∀ x∈ o.op.operands,Sx.ev tmps x=Sx.ev tmps' x:=by
 intro x hx;cases x with
 | tmp t=>exact h t (BF hx)
 | _=>rfl
theorem Agree.guard (h:Agree ops o tmps tmps'):guardOf ops o tmps=guardOf ops o tmps':=by
 unfold guardOf;split
 ·rfl
 ·rename_i j want hg;split
  ·rename_i oj hj;split
   ·rename_i d hd;rw[h d (vF hg hj hd)]
   ·rfl
  ·rfl
theorem x7 {m':Mem}{k:Option SV->VC}(h:Agree ops o tmps tmps')
  (hl: ∀ key,keyOf (ev tmps) o.op=A key->m.get key=m'.get key):UZ P ops j o tmps m nx k=UZ P ops j o tmps' m' nx k:=by
 unfold UZ;rw[h.guard];cases guardOf ops o tmps' with
 | none=>rfl
 | some b =>
   cases b with
   | false=>rfl
   | true=>exact Qr h.ev hl
theorem zn: ∀ {tmps:List (Option SV)} {d t:Nat} {v:Option SV},d≠t->slot (tmps.set d v) t=slot tmps t
 | [],_,_,_,_=>rfl
 | _::_,0,0,_,h=>absurd rfl h
 | _::_,0,_+1,_,_=>rfl
 | _::_,_+1,0,_,_=>rfl
 | _::r,d+1,t+1,v,h=>zn (tmps:=r) (λe=>h (by rw[e]))
theorem ig (h: ∀ d,dst=A d->d∉ o.looksAt ops):Agree ops o (cn tmps dst v) tmps:=by
 intro t ht;cases dst with
 | none=>rfl
 | some d=>exact zn (λe=>h d rfl (e▸ ht))
theorem wh {x y:Option Nat}{u:Option SV}(h: ∀ d,x=A d->y≠A d):cn (cn tmps x v) y u=cn (cn tmps y u) x v:=by
 cases x with
 | none=>rfl
 | some d =>
   cases y with
   | none=>rfl
   | some e =>have:d≠e:=λhe=>h d rfl (he▸ rfl);simp only[cn];exact List.set_comm _ _ this
def jU (keys:List Nat)(m m':Mem)(t:VC):VC :=
 match keys with
 | []=>t
 | k::r=>.and (.atom (m'.get k=m.get k)) (jU r m m' t)
theorem gI {keys:List Nat}{m':Mem}{t:VC}:(jU keys m m' t).holds↔(∀ k∈ keys,m'.get k=m.get k)/\t.holds:=by
 induction keys with
 | nil=>simp[jU]
 | cons k r ih =>simp only[jU,VC.holds,ih,I,forall_eq_or_imp];exact⟨λh=>⟨⟨h.1,h.2.1⟩,h.2.2⟩,λh=>⟨h.1.1,h.1.2,h.2⟩⟩
def Ia (nx nx':Nat)(t:VC):VC:=match Nat.ble nx nx' with
 | true=>t
 | false=>.fail "keys"
theorem lR {t:VC}:(Ia nx nx' t).holds↔nx<=nx'/\t.holds:=by
 unfold Ia;cases h:Nat.ble nx nx' with
 | true=>exact⟨λx=>⟨Nat.le_of_ble_eq_true h,x⟩,λx=>x.2⟩
 | false=>exact⟨λx=>x.elim,λx=>by have:=Nat.ble_eq_true_of_le x.1;rw[h] at this;cases this⟩
section
variable {P : Program} {call : nR -> PT} {ops : Array Oper}
theorem cA (hm: ∀ f,aT (call f)){K K':St->VC}{st:St}
  (h: ∀ u m nx,(K ⟨cn st.tmps o.dst u,m,nx⟩).holds->(K' ⟨cn st.tmps o.dst u,m,nx⟩).holds) (hh:(dn P call ops j o K st).holds):(dn P call ops j o K' st).holds:=by
 cases hq:eE P o.op with
 | true =>rw[iu hq] at hh ⊢;obtain⟨p,u,hd⟩:=Ad P ops j o st.tmps st.m st.nx;rw[hd] at hh ⊢;exact⟨hh.1,h _ _ _ hh.2⟩
 | false =>
   unfold dn at hh ⊢;cases hg:guardOf ops o st.tmps with
   | none=>rw[hg] at hh;exact hh.elim
   | some b =>
     rw[hg] at hh;cases b with
     | false=>exact h _ _ _ hh
     | true =>
       simp only[hq] at hh ⊢;cases hw:Mem.wf st.nx st.m with
       | false=>rw[hw] at hh;exact hh.elim
       | true =>rw[hw] at hh;simp only at hh ⊢;refine IJ hm (λv m nx hp=> ?_) hh;obtain⟨p,u,g1,_,_⟩:=vQ (sr ops j) v nx;unfold UQ at hp ⊢;rw[g1] at hp ⊢;exact⟨hp.1,h _ _ _ hp.2⟩
def stepG (P:Program)(call:nR->PT)(ops:Array Oper)(i:Nat)(o:Oper)(H:List Nat)(K:St->VC)(st:St):VC :=dn P call ops i o (λst'=>jU H st.m st'.m (Ia st.nx st'.nx (K st'))) st
theorem Qm {g:Bool}(hn:nx<=nx'){k:Option SV->VC}(h:(Mb g v nx k).holds):(Mb g v nx' k).holds:=by
 have hw:wfO nx v=C->wfO nx' v=true:=by cases v with
  | none=>exact id
  | some v=>exact SV.iw hn v
 unfold Mb at *;split at h
 ·exact h
 ·rename_i g' v' hne;cases hv:wfO nx v with
  | false=>rw[hv] at h;exact h.elim
  | true =>rw[hv] at h;rw[hw hv];exact h
theorem U0 (hn:nx<=nx'){k:Option SV->VC}(h:(UZ P ops j o tmps m nx k).holds):(UZ P ops j o tmps m nx' k).holds:=by
 unfold UZ at h ⊢;cases hg:guardOf ops o tmps with
 | none=>rw[hg] at h;exact h.elim
 | some b =>
   rw[hg] at h;cases b with
   | false=>exact h
   | true =>obtain⟨obl,sv,h1,_⟩:=Mi (P:=P) (look:=λk=>m.get k) (σ:=ev tmps) o;simp only at h ⊢;rw[h1] at h ⊢;refine⟨h.1,?_⟩;exact Qm hn h.2
structure yI (ops:Array Oper)(x y:Oper):Prop where
 a: ∀ d,x.dst=A d->d∉ y.looksAt ops
 b: ∀ d,x.dst=A d->y.dst≠A d
 c: ∀ d,y.dst=A d->d∉ x.looksAt ops
theorem QZ (hm: ∀ f,aT (call f)){jp ji:Nat}{op oi:Oper}(hp:eE P op.op=C)(hi:eE P oi.op=F)(ha:yI ops op oi){H H1:List Nat}{K:St->VC}{st:St}
  (hH: ∀ k∈ H,k∈ H1) (hk: ∀ k,keyOf (ev st.tmps) op.op=A k->k∈ H1) (h:(dn P call ops jp op (stepG P call ops ji oi H1 K) st).holds) :
  (stepG P call ops ji oi H (dn P call ops jp op K) st).holds:=by
 obtain⟨tmps,m,nx⟩:=st;rw[iu hp] at h;obtain⟨pp,u,hd⟩:=Ad P ops jp op tmps m nx;obtain⟨hpp,h⟩:=(hd _).1 h;have hag:Agree ops oi (cn tmps op.dst u) tmps:=ig ha.a
 have fin: ∀(u':Option SV) (m':Mem) (nx':Nat),(jU H1 m m' (Ia nx nx' (K ⟨cn (cn tmps op.dst u) oi.dst u',m',nx'⟩))).holds ->
   (jU H m m' (Ia nx nx' (dn P call ops jp op K ⟨cn tmps oi.dst u',m',nx'⟩))).holds:=by
  intro u' m' nx' hh;rw[gI,lR] at hh ⊢;refine⟨λk hk'=>hh.1 k (hH k hk'),hh.2.1,?_⟩;rw[iu hp];have h1:(UZ P ops jp op tmps m nx (λv=>K ⟨cn (cn tmps oi.dst u') op.dst v,m',nx'⟩)).holds:=by rw[hd];refine⟨hpp,?_⟩;rw[wh (λd hd' he=>ha.b d he hd')];exact hh.2.2
  have h2:=U0 hh.2.1 h1;rw[x7 (tmps':=cn tmps oi.dst u') (m':=m') (λt ht=>((ig (tmps:=tmps) (v:=u') ha.c) t ht).symm) (λkey hkey=>(hh.1 key (hk key hkey)).symm)] at h2;exact h2
 unfold stepG dn at h ⊢;rw[hag.guard] at h;cases hg:guardOf ops oi tmps with
 | none=>rw[hg] at h;exact h.elim
 | some b =>
   rw[hg] at h;cases b with
   | false=>exact fin _ _ _ h
   | true =>
     simp only[hi] at h ⊢;cases hw:Mem.wf nx m with
     | false=>rw[hw] at h;exact h.elim
     | true =>rw[hw] at h;simp only at h ⊢;rw[PW hag.ev] at h;refine IJ hm (λv m' nx' hpk=> ?_) h;obtain⟨p',u',g1,_,_⟩:=vQ (sr ops ji) v nx';unfold UQ at hpk ⊢;rw[g1] at hpk ⊢;exact⟨hpk.1,fin _ _ _ hpk.2⟩
theorem CB {jp ji:Nat}{op oi:Oper}(hp:eE P op.op=C)(hi:eE P oi.op=C)(ha:yI ops op oi){K:St->VC}{st:St}
  (h:(dn P call ops jp op (dn P call ops ji oi K) st).holds):(dn P call ops ji oi (dn P call ops jp op K) st).holds:=by
 obtain⟨tmps,m,nx⟩:=st;rw[iu hp] at h;obtain⟨pp,u,hd⟩:=Ad P ops jp op tmps m nx;obtain⟨hpp,h⟩:=(hd _).1 h;rw[iu hi] at h ⊢;rw[x7 (tmps':=tmps) (ig ha.a) (λ_ _=>rfl)] at h;obtain⟨pi,v,hd2⟩:=Ad P ops ji oi tmps m nx;rw[hd2] at h ⊢;refine⟨h.1,?_⟩;rw[iu hp];rw[x7 (tmps':=tmps) (ig ha.c) (λ_ _=>rfl),hd];refine⟨hpp,?_⟩;have h2:=h.2;simp only at h2 ⊢;rw[wh (λd hd' he=>ha.b d he hd')];exact h2
def jo (mask:Nat)(rd:List (Nat×Nat)):List Nat :=
 match rd with
 | []=>[]
 | (p,k)::r=>match mask.testBit p with
   | true=>jo mask r
   | false=>k::jo mask r
theorem kJ {mask:Nat}{k:Nat}: ∀ {rd:List (Nat×Nat)},k∈ jo mask rd↔∃ p,(p,k)∈ rd/\mask.testBit p=F
 | []=>by simp[jo]
 | (p,x)::r=>by
   simp only[jo];cases h:mask.testBit p with
   | true =>
     simp only[kJ (rd:=r),I,Prod.mk.injEq];constructor
     ·rintro⟨q,h1,h2⟩;exact⟨q,.inr h1,h2⟩
     ·rintro⟨q,h1 | h1,h2⟩
      ·obtain⟨rfl,rfl⟩:=h1;rw[h] at h2;cases h2
      ·exact⟨q,h1,h2⟩
   | false =>
     simp only[I,kJ (rd:=r),Prod.mk.injEq];constructor
     ·rintro(rfl | ⟨q,h1,h2⟩)
      ·exact⟨p,.inl ⟨rfl,rfl⟩,h⟩
      ·exact⟨q,.inr h1,h2⟩
     ·rintro⟨q,h1 | h1,h2⟩
      ·obtain⟨rfl,rfl⟩:=h1;exact .inl rfl
      ·exact .inr ⟨q,h1,h2⟩
def addKey (j:Nat)(k:Option Nat)(rd:List (Nat×Nat)):List (Nat×Nat) :=
 match k with
 | some k=>(j,k)::rd
 | none=>rd
def l8 (f:Nat->VC):List Nat->VC
 | []=>.tt
 | j::r=>(match r with
   | []=>f j
   | _::_=>.and (f j) (l8 f r))
theorem oU {f:Nat->VC}: ∀ {l:List Nat},(l8 f l).holds->∀ j∈ l,(f j).holds
 | [],_,_,h=>by cases h
 | [j],h,k,hk=>by simp only[Y] at hk;subst hk;exact h
 | j::x::r,h,k,hk=>by
   rw[I] at hk;rcases hk with rfl | hk
   ·exact h.1
   ·exact oU (l:=x::r) h.2 k hk
theorem j6 {f g:Nat->VC}(hfg: ∀ j,(f j).holds->(g j).holds): ∀ {l:List Nat},(l8 f l).holds->(l8 g l).holds
 | [],h=>h
 | [j],h=>hfg j h
 | j::x::r,h=>⟨hfg j h.1,j6 hfg (l:=x::r) h.2⟩
def jr:List Nat->Nat
 | []=>0
 | q::r=>Nat.lor (Nat.pow 2 q) (jr r)
theorem D9 {k:Nat}: ∀ {l:List Nat},(jr l).testBit k=C->k∈ l
 | [],h=>by simp[jr] at h
 | q::r,h=>by
   have h:(2^ q ||| jr r).testBit k=true:=h;simp only[b7,aP] at h;rcases h with h | h
   ·rw[Nat.testBit_two_pow] at h;simp at h;simp[h]
   ·exact a! _ (D9 h)
theorem Ea {k:Nat}: ∀ {l:List Nat},k∈ l->(jr l).testBit k=C
 | q::r,h=>by
   show(2^ q ||| jr r).testBit k=C;simp only[b7,aP];rw[I] at h;rcases h with rfl | h
   ·left;simp[]
   ·exact .inr (Ea h)
def isReady (masks:List Nat)(lm:Nat)(j:Nat):Bool:=ax (bH (masks.getD j 0) lm) 0
theorem i7 {l:List Nat}:isReady masks (jr l) j=C↔∀ q∈ l,(masks.getD j 0).testBit q=false:=by
 unfold isReady;constructor
 ·intro h q hq;have h0:=Nat.eq_of_beq_eq_true h;have:(masks.getD j 0 &&& jr l).testBit q=false:=by show(bH (masks.getD j 0) (jr l)).testBit q=F;rw[h0];exact b_ q
  rw[bW,Ea hq,N] at this;exact this
 ·intro h;have key: ∀ {a b:Nat},a=b->ax a b=true:=λe=>by subst e;exact Nat.beq_refl _
  apply key;apply Nat.eq_of_testBit_eq;intro k;show(masks.getD j 0 &&& jr l).testBit k=_;rw[bW,b_];cases hk:(jr l).testBit k with
  | false=>simp
  | true=>rw[h k (D9 hk)];rfl
def quietAt (P:Program)(ops:Array Oper)(j:Nat):Bool:=match ops[j]? with
 | some o=>eE P o.op
 | none=>F
def vm (P:Program)(ops:Array Oper)(masks:List Nat)(lm:Nat):List Nat->Option Nat
 | []=>G
 | j::r=>match quietAt P ops j&&isReady masks lm j with
   | true=>A j
   | false=>vm P ops masks lm r
theorem o9 {masks:List Nat}{lm j:Nat}: ∀ {l:List Nat},vm P ops masks lm l=A j->j∈ l/\quietAt P ops j=C/\isReady masks lm j=C
 | [],h=>by cases h
 | k::r,h=>by
   unfold vm at h;split at h
   ·rename_i hk;injection h with h;subst h;rw[J] at hk;exact⟨by simp,hk⟩
   ·have:=o9 h;exact⟨by simp[this.1],this.2⟩
theorem o8 {masks:List Nat}{lm:Nat}: ∀ {l:List Nat},vm P ops masks lm l=G->∀ j∈ l,(quietAt P ops j&&isReady masks lm j)=F
 | [],_,_,hj=>by cases hj
 | k::r,h,j,hj=>by
   unfold vm at h;split at h
   ·cases h
   ·rename_i hk;rw[I] at hj;rcases hj with rfl | hj
    ·exact hk
    ·exact o8 h j hj
def Ca (P:Program)(ops:Array Oper)(masks:List Nat)(l:List Nat):List Nat :=l.filter λj=>!quietAt P ops j&&isReady masks (jr l) j
def cE (P:Program)(call:nR->PT)(ops:Array Oper)(masks:List Nat):Nat->List Nat->List (Nat×Nat)->(St->VC)->St->VC
 | _,[],_,K,st=>K st
 | 0,_::_,_,_,_=>.fail "a region that is too long"
 | n+1,x::r,rd,K,st=>match vm P ops masks (jr (x::r)) (x::r)with
   | some i=>(match ops[i]? with
     | some o=>dn P call ops i o (cE P call ops masks n ((x::r).erase i) (addKey i (keyOf (ev st.tmps) o.op) rd) K) st
     | none=>.fail "no operation")
   | none=>l8 (λj=>match ops[j]? with
      | some oj=>stepG P call ops j oj (jo (masks.getD j 0) rd) (cE P call ops masks n ((x::r).erase j) rd K) st
      | none=>.fail "no operation") (Ca P ops masks (x::r))
theorem mX {n:Nat}{K:St->VC}{st:St}:cE P call ops masks n [] rd K st=K st:=by cases n<;>rfl
theorem Hh {rd':List (Nat×Nat)}(h: ∀ x∈ rd,x∈ rd'): ∀ x∈ addKey i k rd,x∈ addKey i k rd':=by
 intro x hx;cases k with
 | none=>exact h x hx
 | some k=>simp only[addKey,I] at hx ⊢;exact hx.imp id (h x)
theorem Kx : ∀ x∈ rd,x∈ addKey i k rd:=by
 intro x hx;cases k with
 | none=>exact hx
 | some k=>exact a! _ hx
theorem yL {k':Option Nat}: ∀ x∈ addKey i k (addKey j k' rd),x∈ addKey j k' (addKey i k rd):=by intro x hx;cases k<;>cases k'<;>simp only[addKey,I] at hx ⊢ <;> first | exact hx | (rcases hx with h | h | h<;>simp[h])
theorem mb (hm: ∀ f,aT (call f)){masks:List Nat}{K:St->VC}: ∀ {n:Nat} {l:List Nat} {rd rd':List (Nat×Nat)} {st:St},(∀ x∈ rd,x∈ rd')->(cE P call ops masks n l rd' K st).holds->(cE P call ops masks n l rd K st).holds
 | n,[],_,_,_,_,h=>by rw[mX] at h ⊢;exact h
 | 0,_::_,_,_,_,_,h=>h.elim
 | n+1,x::r,rd,rd',st,hr,h=>by
   simp only[cE] at h ⊢;split at h
   ·split at h
    ·exact cA hm (λu m nx hh=>mb hm (Hh hr) hh) h
    ·exact h.elim
   ·refine j6 (λj hj=> ?_) h;cases hoj:ops[j]? with
    | none=>rw[hoj] at hj;exact hj.elim
    | some oj =>rw[hoj] at hj;simp only at hj ⊢;refine cA hm (λu m nx hh=> ?_) hj;rw[gI,lR] at hh ⊢;refine⟨λk hk=>hh.1 k ?_,hh.2.1,mb hm hr hh.2.2⟩;rw[kJ] at hk ⊢;obtain⟨p,h1,h2⟩:=hk;exact⟨p,hr _ h1,h2⟩
theorem yI.symm {x y:Oper}(h:yI ops x y):yI ops y x:=⟨h.c,λd hd he=>h.b d he hd,h.a⟩
def Rel (P:Program)(ops:Array Oper)(masks:List Nat)(p i:Nat):Prop :=∃ op oi,ops[p]?=A op/\ops[i]?=A oi/\((masks.getD i 0).testBit p=C∨(masks.getD p 0).testBit i=C∨(eE P op.op=F/\eE P oi.op=F)∨yI ops op oi)
def Kw (P:Program)(ops:Array Oper)(masks:List Nat)(R:List Nat):Prop:=∀ p∈ R,∀ i∈ R,p≠i->Rel P ops masks p i
theorem Kw.erase {R:List Nat}(h:Kw P ops masks R)(q:Nat):Kw P ops masks (R.erase q):=λp hp i hi=>h p (L hp) i (L hi)
def BT (P:Program)(call:nR->PT)(ops:Array Oper)(masks:List Nat)(n:Nat)(i:Nat)(oi:Oper)(R:List Nat)(rd:List (Nat×Nat))(K:St->VC)(st:St):VC :=
 match eE P oi.op with
 | true=>dn P call ops i oi (cE P call ops masks n R (addKey i (keyOf (ev st.tmps) oi.op) rd) K) st
 | false=>stepG P call ops i oi (jo (masks.getD i 0) rd) (cE P call ops masks n R rd K) st
theorem ZW (hm: ∀ f,aT (call f)){K:St->VC}: ∀(n:Nat),
  (∀ {R:List Nat} {rd:List (Nat×Nat)} {st:St} {i:Nat} {oi:Oper},R.length<=n+1->Kw P ops masks R->i∈ R->ops[i]?=A oi->(∀ q∈ R,(masks.getD i 0).testBit q=F) ->
    (cE P call ops masks (n+1) R rd K st).holds->(BT P call ops masks n i oi (R.erase i) rd K st).holds) /\
  (∀ {X:List Nat} {rd:List (Nat×Nat)} {st:St} {q:Nat} {oq:Oper},X.length<=n+1->Kw P ops masks X->q∈ X->ops[q]?=A oq->eE P oq.op=C->(∀ p∈ X,(masks.getD q 0).testBit p=F) ->
    (dn P call ops q oq (cE P call ops masks n (X.erase q) (addKey q (keyOf (ev st.tmps) oq.op) rd) K) st).holds->(cE P call ops masks (n+1) X rd K st).holds):=by
 have apart: ∀ {R:List Nat} {q i:Nat} {oq oi:Oper},Kw P ops masks R->q∈ R->i∈ R->q≠i->ops[q]?=A oq->ops[i]?=A oi->eE P oq.op=C ->
   (∀ p∈ R,(masks.getD q 0).testBit p=F)->(∀ p∈ R,(masks.getD i 0).testBit p=F)->yI ops oq oi:=by
  intro R q i oq oi hR hq hi hne hoq hoi hqq h1 h2;obtain⟨op,oi',e1,e2,h⟩:=hR q hq i hi hne;rw[hoq] at e1;injection e1 with e1;subst e1;rw[hoi] at e2;injection e2 with e2;subst e2;rcases h with h | h | h | h
  ·rw[h2 q hq] at h;cases h
  ·rw[h1 i hi] at h;cases h
  ·rw[hqq] at h;cases h.1
  ·exact h
 intro n;induction n with
 | zero =>
   refine⟨λ{R rd st i oi} hl hR hi ho hrd h=> ?_,λ{X rd st q oq} hl hX hq ho hqq hrd h=> ?_⟩
   ·have hR1:R=[i]:=by
     match R,hl,hi with
     | [x],_,hi=>simp only[Y] at hi;rw[hi]
    subst hR1;simp only[cE] at h;split at h
    ·rename_i j hj;obtain⟨g1,g2,_⟩:=o9 hj;simp only[Y] at g1;subst g1;simp only[quietAt,ho] at g2;rw[ho] at h;simp only[BT,g2];exact h
    ·rename_i hj;have hnq:=o8 hj i (by simp);have hre:isReady masks (jr [i]) i=true:=i7.2 hrd;simp only[hre,N,quietAt,ho] at hnq;have:=oU h i (by simp only[Ca,bf,quietAt,ho,hnq,hre];simp);rw[ho] at this;simp only[BT,hnq];exact this
   ·have hX1:X=[q]:=by
     match X,hl,hq with
     | [x],_,hi=>simp only[Y] at hi;rw[hi]
    subst hX1;simp only[cE];have hre:isReady masks (jr [q]) q=true:=i7.2 hrd;simp only[vm,quietAt,ho,hqq,hre,N];exact h
 | succ m ih =>
   obtain⟨ih1,ih2⟩:=ih;refine⟨λ{R rd st i oi} hl hR hi ho hrd h=> ?_,λ{X rd st q oq} hl hX hq ho hqq hrd h=> ?_⟩
   ·obtain⟨x,r,hxr⟩: ∃ x r,R=x::r:=by
     match R,hi with
     | x::r,_=>exact⟨x,r,rfl⟩
    have hdr:cE P call ops masks (m+1+1) R rd K st=(match vm P ops masks (jr R) R with
     | some i=>(match ops[i]? with
       | some o=>dn P call ops i o (cE P call ops masks (m+1) (R.erase i) (addKey i (keyOf (ev st.tmps) o.op) rd) K) st
       | none=>.fail "no operation")
     | none=>l8 (λj=>match ops[j]? with
        | some oj=>stepG P call ops j oj (jo (masks.getD j 0) rd) (cE P call ops masks (m+1) (R.erase j) rd K) st
        | none=>.fail "no operation") (Ca P ops masks R)):=by rw[hxr];rfl
    rw[hdr] at h;split at h
    ·rename_i q hq;obtain⟨g1,g2,g3⟩:=o9 hq;rw[i7] at g3;cases hoq:ops[q]? with
     | none=>rw[hoq] at h;exact h.elim
     | some oq =>
       rw[hoq] at h;simp only at h;simp only[quietAt,hoq] at g2;by_cases e:q=i
       ·subst e;rw[hoq] at ho;injection ho with ho;subst ho;simp only[BT,g2];exact h
       ·have hap:=apart hR g1 hi e hoq ho g2 g3 hrd;have hi':i∈ R.erase q:=(W (λx=>e x.symm)).2 hi;have hq':q∈ R.erase i:=(W e).2 g1;have hl1:(R.erase q).length<=m+1:=by rw[V g1];omega
        have hl2:(R.erase i).length<=m+1:=by rw[V hi];omega
        cases hqi:eE P oi.op with
        | true =>
          simp only[BT,hqi];have hk: ∀ u,keyOf (ev (cn st.tmps oq.dst u)) oi.op=keyOf (ev st.tmps) oi.op:=λu=>kI (ig hap.a).ev
          have h1:(dn P call ops q oq (dn P call ops i oi (cE P call ops masks m ((R.erase q).erase i) (addKey i (keyOf (ev st.tmps) oi.op) (addKey q (keyOf (ev st.tmps) oq.op) rd)) K)) st).holds :=
           cA hm (λu m' nx' hh=>by have:=ih1 hl1 (hR.erase q) hi' ho (λp hp=>hrd p (L hp)) hh;simp only[BT,hqi,hk] at this;exact this) h
          have h2:=CB g2 hqi hap h1;refine cA hm (λu m' nx' hh=> ?_) h2;refine ih2 hl2 (hR.erase i) hq' hoq g2 (λp hp=>g3 p (L hp)) ?_;have hk2:keyOf (ev (cn st.tmps oi.dst u)) oq.op=keyOf (ev st.tmps) oq.op:=kI (ig hap.c).ev;simp only[hk2];rw[ag];exact cA hm (λu m' nx' hh=>mb hm yL hh) hh
        | false =>
          simp only[BT,hqi]
          have h1:(dn P call ops q oq (stepG P call ops i oi (jo (masks.getD i 0) (addKey q (keyOf (ev st.tmps) oq.op) rd)) (cE P call ops masks m ((R.erase q).erase i) (addKey q (keyOf (ev st.tmps) oq.op) rd) K)) st).holds :=
           cA hm (λu m' nx' hh=>by have:=ih1 hl1 (hR.erase q) hi' ho (λp hp=>hrd p (L hp)) hh;simp only[BT,hqi] at this;exact this) h
          have h2:=QZ hm g2 hqi hap (H:=jo (masks.getD i 0) rd) (λk hk=>by
            rw[kJ] at hk ⊢;obtain⟨p,y1,y2⟩:=hk;exact⟨p,Kx _ y1,y2⟩) (λk hk=>by
            rw[kJ,hk];exact⟨q,by simp[addKey],hrd q g1⟩) h1
          unfold stepG at h2 ⊢;refine cA hm (λu m' nx' hh=> ?_) h2;rw[gI,lR] at hh ⊢;refine⟨hh.1,hh.2.1,?_⟩;refine ih2 hl2 (hR.erase i) hq' hoq g2 (λp hp=>g3 p (L hp)) ?_;have hk2:keyOf (ev (cn st.tmps oi.dst u)) oq.op=keyOf (ev st.tmps) oq.op:=kI (ig hap.c).ev;simp only[hk2];rw[ag];exact hh.2.2
    ·rename_i hj;have hnq:=o8 hj i hi;have hre:isReady masks (jr R) i=true:=i7.2 hrd;simp only[hre,N,quietAt,ho] at hnq;have:=oU h i (by unfold Ca;rw[bf];refine⟨hi,?_⟩;simp only[quietAt,ho,hnq,hre];rfl);rw[ho] at this;simp only[BT,hnq];exact this
   ·obtain⟨y,r,hxr⟩: ∃ x r,X=x::r:=by
     match X,hq with
     | x::r,_=>exact⟨x,r,rfl⟩
    have hdr:cE P call ops masks (m+1+1) X rd K st=(match vm P ops masks (jr X) X with
     | some i=>(match ops[i]? with
       | some o=>dn P call ops i o (cE P call ops masks (m+1) (X.erase i) (addKey i (keyOf (ev st.tmps) o.op) rd) K) st
       | none=>.fail "no operation")
     | none=>l8 (λj=>match ops[j]? with
        | some oj=>stepG P call ops j oj (jo (masks.getD j 0) rd) (cE P call ops masks (m+1) (X.erase j) rd K) st
        | none=>.fail "no operation") (Ca P ops masks X)):=by rw[hxr];rfl
    rw[hdr];split
    ·rename_i x hx;obtain⟨g1,g2,g3⟩:=o9 hx;rw[i7] at g3;have hox: ∃ ox,ops[x]?=A ox/\eE P ox.op=true:=by
      unfold quietAt at g2;split at g2
      ·rename_i ox hox;exact⟨ox,hox,g2⟩
      ·cases g2
     obtain⟨ox,hox,hqx⟩:=hox;rw[hox];simp only;by_cases e:x=q
     ·subst e;rw[hox] at ho;injection ho with ho;subst ho;exact h
     ·have hap:=apart hX hq g1 (λh=>e h.symm) ho hox hqq hrd g3;have hx':x∈ X.erase q:=(W e).2 g1;have hq':q∈ X.erase x:=(W (λh=>e h.symm)).2 hq;have hl1:(X.erase q).length<=m+1:=by rw[V hq];omega
      have hl2:(X.erase x).length<=m+1:=by rw[V g1];omega
      have hk: ∀ u,keyOf (ev (cn st.tmps oq.dst u)) ox.op=keyOf (ev st.tmps) ox.op:=λu=>kI (ig hap.a).ev
      have h1:(dn P call ops q oq (dn P call ops x ox (cE P call ops masks m ((X.erase q).erase x) (addKey x (keyOf (ev st.tmps) ox.op) (addKey q (keyOf (ev st.tmps) oq.op) rd)) K)) st).holds :=
       cA hm (λu m' nx' hh=>by have:=ih1 hl1 (hX.erase q) hx' hox (λp hp=>g3 p (L hp)) hh;simp only[BT,hqx,hk] at this;exact this) h
      have h2:=CB hqq hqx hap h1;refine cA hm (λu m' nx' hh=> ?_) h2;refine ih2 hl2 (hX.erase x) hq' ho hqq (λp hp=>hrd p (L hp)) ?_;have hk2:keyOf (ev (cn st.tmps ox.dst u)) oq.op=keyOf (ev st.tmps) oq.op:=kI (ig hap.c).ev;simp only[hk2];rw[ag];exact cA hm (λu m' nx' hh=>mb hm yL hh) hh
    ·rename_i hj;have hnq:=o8 hj q hq;have hre:isReady masks (jr X) q=true:=i7.2 hrd;simp only[hre,N,quietAt,ho,hqq] at hnq;cases hnq
end
end
end Sx
end Go.Proofs.YtoibaecagklkaaaGreatDoor
