/- A part of the proof. -/
import Derived.Test.YtoibaecagklkaaaGreatDoorMf
open Array renaming getElem?_setIfInBounds->aC
open Bool renaming and_eq_true->J,and_true->N,false->F,or_eq_true->aO,true->C
open Go.Call renaming operands->O
open Go.Op renaming operands->M
open List renaming erase_comm->ag,getElem?_set->aW,length_erase_of_mem->V,mem_append->an,mem_cons->I,mem_cons_of_mem->a_,mem_erase_of_ne->W,mem_filter->a!,mem_of_mem_erase->L,mem_singleton->Y,set_cons_zero->bf
open Nat renaming beq->az,land->bE,le_refl->Z,le_trans->S,lt_of_lt_of_le->T,testBit_and->b5,testBit_or->b6,zero_testBit->b7
open Option renaming none->G,some->A
namespace Go.Proofs.YtoibaecagklkaaaGreatDoor
open Go Sx
variable {a:Act}{ops:Array Oper}{K K':KL}{rd:List (Nat×Nat)}{tmps tmps':List (Option SV)}{masks:List Nat}{m:Mem}{i j nx nx':Nat}{E:Nat->Nat}{o:Oper}{σ σ':Operand->Option SV}{dst k:Option Nat}{v x:Option SV}{KP:PK}{P:Program}{t:TypeId}{w:World}{Γ:aT}{call:nA->PT}
namespace Sx
open Go
noncomputable section
structure St where
 tmps:List (Option SV)
 m:Mem
 nx:Nat
def slot (tmps:List (Option SV))(i:Nat):Option SV :=
 match tmps,i with
 | [],_=>G
 | v::_,0=>v
 | _::r,i+1=>slot r i
theorem nW: ∀ {tmps:List (Option SV)} {i:Nat} {v:SV},slot tmps i=A v->tmps[i]?=A (A v)
 | [],_,_,h=>by simp[slot] at h
 | x::_,0,v,h=>by simp[slot] at h;simp[h]
 | _::r,i+1,v,h=>by simp[slot] at h;simpa using nW h
def ev (tmps:List (Option SV)):Operand->Option SV
 | .tmp i=>slot tmps i
 | .const v=>SV.ofConst v
 | .global g=>A (.raw (.pointer (A ⟨g,0,G⟩)))
 | .func f=>A (.func (.func f) [] [])
def dz (nx:Nat):List (Option SV)->Bool
 | []=>C
 | none::r=>dz nx r
 | some v::r=>v.wf nx&&dz nx r
theorem kP {nx:Nat}: ∀ {l:List (Option SV)},dz nx l=C->∀ {i:Nat} {v:SV},l[i]?=A (A v)->v.wf nx=C
 | none::r,h,0,v,hv=>by simp at hv
 | some x::r,h,0,v,hv=>by simp at hv;subst hv;simp only[dz,J] at h;exact h.1
 | none::r,h,i+1,v,hv=>kP (l:=r) (by simpa [dz] using h) (i:=i) (by simpa using hv)
 | some x::r,h,i+1,v,hv=>kP (l:=r) (by simp only[dz,J] at h;exact h.2) (i:=i) (by simpa using hv)
structure cP (E:Nat->Nat)(tmps:List (Option SV))(a:Act):Prop where
 size:a.tmps.size=tmps.length
 val: ∀(i:Nat) (v:SV),tmps[i]?=A (A v)->a.tmps[i]?=A (v.val E)
theorem cP.reads (h:cP E tmps a):Reads E (ev tmps) a.eval:=by
 intro x v hx;cases x with
 | tmp i =>have:=h.val i v (nW hx);simp[Act.eval,Array.getD_eq_getD_getElem?,this]
 | const c=>exact(SV.AE hx).symm
 | global g=>simp[ev] at hx;subst hx;rfl
 | func f=>simp[ev] at hx;subst hx;rfl
theorem cP.wf (h:dz nx tmps=C):WfS nx (ev tmps):=by
 intro x v hx;cases x with
 | tmp i=>exact kP h (nW hx)
 | const c=>exact Dd hx
 | global g=>simp[ev] at hx;subst hx;rfl
 | func f=>simp[ev] at hx;subst hx;rfl
theorem cP.congr {E':Nat->Nat}(h:cP E tmps a)(hw:dz nx tmps=C)(hE: ∀ k,k<nx->E' k=E k):cP E' tmps a :=⟨h.size,λi v hv=>by rw[SV.val_congr hE v (kP hw hv)];exact h.val i v hv⟩
def b8 (tmps:List (Option SV))(dst:Option Nat)(v:Option SV):List (Option SV) :=
 match dst with
 | none=>tmps
 | some d=>tmps.set d v
theorem cP.put (h:cP E tmps a){sv:Option SV}{r:Value}(hr: ∀ v,sv=A v->r=v.val E) :
  cP E (b8 tmps dst sv) (a.put dst r):=by
 cases dst with
 | none=>exact h
 | some d =>
   refine⟨by simp[Act.put,b8,h.size],λi v hv=> ?_⟩;simp only[b8] at hv;rw[aW] at hv;simp only[Act.put];rw[aC];split at hv
   ·rename_i e;subst e;split at hv
    ·rename_i hlt;injection hv with hv;rw[r_ rfl,r_ (by rw[h.size];exact hlt),hr v hv]
    ·cases hv
   ·rename_i e;rw[s_ e];exact h.val i v hv
theorem qU {nx:Nat}: ∀ {l:List (Option SV)} {d:Nat} {v:Option SV},dz nx l=C->(∀ u,v=A u->u.wf nx=C)->dz nx (l.set d v)=C
 | [],_,_,h,_=>h
 | none::r,0,G,h,hv=>h
 | none::r,0,A u,h,hv=>by simp only[bf,dz,J];exact⟨hv u rfl,h⟩
 | some x::r,0,G,h,hv=>by simp only[dz,J] at h;exact h.2
 | some x::r,0,A u,h,hv=>by simp only[dz,J,bf] at h ⊢;exact⟨hv u rfl,h.2⟩
 | none::r,d+1,v,h,hv=>qU (l:=r) h hv
 | some x::r,d+1,v,h,hv=>by simp only[dz,J,List.set_cons_succ] at h ⊢;exact⟨h.1,qU h.2 hv⟩
theorem jC {n m:Nat}(h:n<=m): ∀ {l:List (Option SV)},dz n l=C->dz m l=C
 | [],_=>rfl
 | none::r,hl=>jC h (l:=r) hl
 | some x::r,hl=>by simp only[dz,J] at hl ⊢;exact⟨SV.iq h x hl.1,jC h hl.2⟩
theorem j5 {l:List (Option SV)}(h:dz nx l=C)(hv: ∀ u,v=A u->u.wf nx=C):dz nx (b8 l dst v)=true:=by
 cases dst with
 | none=>exact h
 | some d=>exact qU h hv
def wfO (nx:Nat):Option SV->Bool
 | none=>C
 | some v=>v.wf nx
theorem Zd (h:wfO nx v=C): ∀ u,v=A u->u.wf nx=true:=by rintro u rfl;exact h
def y8 (D:Nat):Deferred:={target:=.collected D,args:=#[]}
def Marks (Γ:aT)(ds:List Deferred)(w:World):Prop :=∃ Ds:List Nat,ds=Ds.map y8++Γ.tail/\Ds.Nodup/\(∀ D∈ Ds,w.heap[D]?=A (.deferred (A []))/\D∉ Γ.keep/\Γ.w0.heap.size<=D)/\(Γ.rf=F->Ds=[])
theorem Marks.nil (Γ:aT)(w:World)(ht:Γ.tail=[]):Marks Γ [] w:=⟨[],by rw[ht];rfl,List.nodup_nil,(λD h=>by cases h),λ_=>rfl⟩
structure Sat (Γ:aT)(E:Nat->Nat)(st:St)(a:Act)(w:World):Prop where
 tm:cP E st.tmps a
 wt:dz st.nx st.tmps=C
 df:Marks Γ a.defers w
 mm:aJ Γ E st.m st.nx w
theorem aJ.weaken {Δ:aT}(hle:Γ.le Δ)(h:aJ Δ E m nx w):aJ Γ E m nx w :=
 ⟨h.hJ,h.iw,h.lt,λk B a hk hn hr=>by have:=h.iT k B a hk hn hr;rw[hle.m,hle.w] at this;exact this,by have:=h.ext;rw[hle.m,hle.w] at this;exact this,
  ⟨S hle.nx h.cx.1,λk hk=>(h.cx.2 k (T hk hle.nx)).trans (hle.e k hk)⟩,λD hD=>h.kp D (hle.keep D hD)⟩
def aT.more (Γ:aT)(Ds:List Nat):aT:={Γ with keep:=Ds++Γ.keep}
theorem aT.HV (Γ:aT)(Ds:List Nat):Γ.le (Γ.more Ds):=⟨rfl,rfl,Z _,λ_ _=>rfl,λ_D h=>List.mem_append_right _ h⟩
theorem aJ.more (h:aJ Γ E m nx w){Ds:List Nat}(hD: ∀ D∈ Ds,w.heap[D]?=A (.deferred (A []))):aJ (Γ.more Ds) E m nx w :=⟨h.hJ,h.iw,h.lt,h.iT,h.ext,h.cx,λD hm=>by rcases an.1 hm with h1 | h1;exact hD D h1;exact h.kp D h1⟩
theorem Marks.kept {Ds:List Nat}{ds:List Deferred}(he:ds=Ds.map y8++Γ.tail)(hn:Ds.Nodup)(hk: ∀ D∈ Ds,D∉ Γ.keep/\Γ.w0.heap.size<=D)(hrf:Γ.rf=F->Ds=[])(h:aJ (Γ.more Ds) E m nx w):Marks Γ ds w :=⟨Ds,he,hn,λD hD=>⟨h.kp D (List.mem_append_left _ hD),hk D hD⟩,hrf⟩
def guardOf (ops:Array Oper)(o:Oper)(tmps:List (Option SV)):Option Bool :=
 match o.guard with
 | none=>A C
 | some (j,want)=>(match ops[j]? with
   | some oj=>(match oj.dst with
     | some d=>(match slot tmps d with
       | some (.bool C b)=>A (b==want)
       | some (.aN [])=>A F
       | _=>G)
     | none=>G)
   | none=>G)
theorem rY (h:cP E tmps a){b:Bool}(hg:guardOf ops o tmps=A b) :
  Region.wanted o (yielded ops a.tmps)=b:=by
 unfold guardOf at hg;unfold Region.wanted;split at hg
 ·rename_i e;rw[e];injection hg
 ·rename_i j want e;rw[e];split at hg
  ·rename_i oj hj;split at hg
   ·rename_i d hd;split at hg
    ·rename_i c hc;have:=h.val d _ (nW hc);injection hg with hg;subst hg;simp[yielded,hj,hd,this,SV.val]
    ·rename_i hc;have:=h.val d _ (nW hc);injection hg with hg;subst hg;simp[yielded,hj,hd,this,SV.val]
    ·cases hg
   ·cases hg
  ·cases hg
def qk (ops:Array Oper)(j:Nat):Bool:=ops.toList.any λo=>match o.guard with
 | some (i,_)=>az i j
 | none=>F
def Ol (g:Bool)(v:Option SV)(nx:Nat)(k:Option SV->VC):VC :=
 match g,v with
 | true,A (.bool F b)=>fork b (λc=>k (A (.bool C c)))
 | _,v=>match wfO nx v with
   | true=>k v
   | false=>.fail "a key out of bounds"
def Tg (g:Bool)(dst:Option Nat)(v:Option SV)(tmps:List (Option SV))(m:Mem)(nx:Nat)(K:St->VC):VC :=Ol g v nx (λv=>K ⟨b8 tmps dst v,m,nx⟩)
theorem xB (g:Bool)(v:Option SV)(nx:Nat): ∃(p:Prop) (u:Option SV),(∀ k,(Ol g v nx k).holds↔p/\(k u).holds)/\(p->wfO nx u=C)/\(∀(E:Nat->Nat) (r:Value),(∀ x,v=A x->r=x.val E)->∀ x,u=A x->r=x.val E):=by
 unfold Ol;split
 ·rename_i b;exact⟨True,A (.bool C b),λk=>by rw[bP];exact⟨λh=>⟨trivial,h⟩,λh=>h.2⟩,λ_=>rfl,λE r h x hx=>by injection hx with hx;subst hx;exact h (.bool F b) rfl⟩
 ·cases hw:wfO nx v with
  | true=>exact⟨True,v,λk=>⟨λh=>⟨trivial,h⟩,λh=>h.2⟩,λ_=>hw,λE r h=>h⟩
  | false=>exact⟨False,G,λk=>⟨λh=>h.elim,λh=>h.1.elim⟩,λh=>h.elim,λE r h x hx=>by cases hx⟩
def lop (P:Program)(call:nA->PT)(σ:Operand->Option SV)(m:Mem)(nx:Nat)(o:Op)(K:KL):VC :=
 match o with
 | .alloc t=>(match gO P t with
   | some z=>Ih t z m nx K
   | none=>.fail "alloc")
 | .box t x=>need (σ x) (λv=>Ih t v m nx K)
 | .buildSlice t len parts=>lA P σ t len parts.toList m nx K
 | .makeSlice t x y=>need (σ x) (λa=>need (σ y) (λb=>Az P t a b m nx K))
 | .store t a x=>od P t (σ a) (σ x) m nx K
 | .call c=>Ay P call σ c m nx K
 | .makeMap t r=>xg P t (r.map σ) m nx K
 | .mapUpdate t x k v=>iz P t (σ x) (σ k) (σ v) m nx K
 | .insert t x k v=>iz P t (σ x) (σ k) (σ v) m nx K
 | .mapEntry t x k=>tQ P t (σ x) (σ k) m nx K
 | .entryStore _ x s v=>nP (σ x) (σ s) (σ v) m nx K
 | .range t x=>Ii P t (σ x) m nx K
 | .next x b=>Qz (σ x) b m nx K
 | .panic x=>y7 call (σ x) m nx
 | _=>.fail "no such operation"
theorem aei (hcall: ∀ c,mJ P Γ KP c (call c))(o:Oper):Zz P Γ KP σ m nx o (lop P call σ m nx o.op):=by
 obtain⟨dst,op,type,pos,after,guard⟩:=o;cases op
 case alloc t=>exact ry.uB SF
 case box t x=>exact ry.uB aay
 case buildSlice t len parts=>exact ry.uB CM
 case makeSlice t x y=>exact ry.uB W4
 case store t a x=>exact ry.uB FR
 case call c=>exact Wz hcall
 case makeMap t r=>exact ry.uB KG
 case mapUpdate t x k v=>exact ry.uB uQ
 case insert t x k v=>exact ry.uB NB
 case mapEntry t x k=>exact ry.uB Ig
 case entryStore t x s v=>exact ry.uB CR
 case range t x=>exact ry.uB S2
 case next x b=>exact ry.uB W5
 case panic x=>exact S1 hcall
 all_goals exact ry.uB (ry.fail _)
def dF (P:Program)(call:nA->PT)(ops:Array Oper)(j:Nat)(o:Oper)(K:St->VC)(st:St):VC :=
 match guardOf ops o st.tmps with
 | some C=>(match ey P o.op with
   | true=>qop P (λk=>st.m.get k) (ev st.tmps) o.op (λv=>Tg (qk ops j) o.dst v st.tmps st.m st.nx K)
   | false=>(match Mem.wf st.nx st.m with
     | true=>lop P call (ev st.tmps) st.m st.nx o.op (λv m nx=>Tg (qk ops j) o.dst v st.tmps m nx K)
     | false=>.fail "a key out of bounds"))
 | some F=>K ⟨b8 st.tmps o.dst (A (.aN [])),st.m,st.nx⟩
 | none=>.fail "a guard that is not known"
def jg (K:St->VC)(Γ:aT)(E:Nat->Nat)(nx:Nat)(a:Act)(w:World):Prop :=∃ E' st',(∀ k,k<nx->E' k=E k)/\nx<=st'.nx/\Sat Γ E' st' a w/\(K st').holds
theorem jg.trans {K K':St->VC}(h:jg K Γ E nx a w)
  (hk: ∀ E' st',nx<=st'.nx->Sat Γ E' st' a w->(K st').holds->jg K' Γ E' st'.nx a w):jg K' Γ E nx a w:=by
 obtain⟨E',st',h1,h2,h3,h4⟩:=h;obtain⟨E'',st'',k1,k2,k3,k4⟩:=hk E' st' h2 h3 h4;exact⟨E'',st'',λk hk=>(k1 k (T hk h2)).trans (h1 k hk),S h2 k2,k3,k4⟩
theorem vR {K:St->VC}{g:Bool}{sv:Option SV}{r:Value}
  (h:(Tg g dst sv tmps m nx K).holds) (ht:cP E tmps a) (hw:dz nx tmps=C) (hd:Marks Γ a.defers w) (hm:aJ Γ E m nx w) (hr: ∀ v,sv=A v->r=v.val E) :
  jg K Γ E nx (a.put dst r) w:=by
 have hdf:Marks Γ (a.put dst r).defers w:=by cases dst<;>exact hd
 obtain⟨p,u,h1,h2,h3⟩:=xB g sv nx;obtain⟨hp,hk⟩:=(h1 _).1 h;exact⟨E,_,λ_ _=>rfl,Z _,⟨ht.put (h3 E r hr),j5 hw (Zd (h2 hp)),hdf,hm⟩,hk⟩
theorem EE (h:ey P o.op=C):qu o=true:=by unfold qu;cases ho:o.op<;>first | rfl | (rw[ho] at h;cases h)
theorem KK (h:(lop P call σ m nx o.op K).holds):qu o=true:=by unfold qu;cases ho:o.op<;>first | rfl | (rw[ho] at h;exact h.elim)
def l7 (KP:PK)(Γ:aT)(E:Nat->Nat)(nx:Nat)(e:Exit)(a:Act)(w:World):Prop :=∃ ch,e=.panic ch/\Marks Γ a.defers w/\iS KP Γ E nx ch w
theorem qO {ro:Option Nat}(hcall: ∀ c,mJ P Γ KP c (call c)){K:St->VC}{st:St}(h:(dF P call ops j o K st).holds)
     (hs:Sat Γ E st a w) (Q:Exit->Act->World->Prop) (hP: ∀ e w,l7 KP Γ E st.nx e a w->Q e a w) :
  if Region.wanted o (yielded ops a.tmps)then o.wpIn (Fr ro) 0 P a w (λa' w'=>(∃ r,a'=a.put o.dst r)/\jg K Γ E st.nx a' w') Q else jg K Γ E st.nx (a.put o.dst undef) w:=by
 unfold dF at h;split at h
 ·rename_i hg;rw[rY hs.tm hg,r_ rfl];split at h
  ·rename_i hq;obtain⟨obl,sv,h1,h2⟩:=IM (P:=P) (look:=λk=>st.m.get k) (σ:=ev st.tmps) o;obtain⟨hobl,hk⟩:=(h1 _).1 h;obtain⟨r,hrun,hv⟩:=h2 E w a.eval ⟨hs.mm.oB,hs.mm.Cl,hs.mm.hJ⟩ hs.tm.reads hobl;refine Out.wp (EE hq) (R:=λv w'=>w'=w/\v=r) (RP:=λ_ _=>False) ?_ ?_ (λ_ _ h=>h.elim)
   ·rw[hrun];exact⟨rfl,rfl⟩
   ·rintro v w' ⟨rfl,rfl⟩;exact⟨⟨_,rfl⟩,vR hk hs.tm hs.wt hs.df hs.mm hv⟩
  ·split at h
   ·rename_i hwf;obtain⟨Ds,d1,d2,d3,d4⟩:=hs.df;have hm:=hs.mm.more λD hD=>(d3 D hD).1;have:=aei (λc=>(hcall c).mono (Γ.HV Ds)) o _ E w a.eval h hm hwf (cP.wf hs.wt) hs.tm.reads;refine Out.wp (KK h) this ?_ ?_
    rotate_left
    ·rintro ch w' ⟨E',v,m',nx',g1,g2,g3,gw,g4,g5⟩;exact hP _ _ ⟨ch,rfl,Marks.kept d1 d2 (λD hD=>(d3 D hD).2) d4 g4,E',v,m',nx',g1,g2,g3,gw,g4.weaken (Γ.HV Ds),g5⟩
    rintro r w' ⟨E',sv,m',nx',g1,g2,g3,g4,g5⟩;have ht:=hs.tm.congr hs.wt g1;obtain⟨E'',st',k1,k2,k3,k4⟩:=vR g5 ht (jC g2 hs.wt) (Marks.kept d1 d2 (λD hD=>(d3 D hD).2) d4 g4) (g4.weaken (Γ.HV Ds)) g3;exact⟨⟨_,rfl⟩,E'',st',λk hk=>(k1 k (T hk g2)).trans (g1 k hk),S g2 k2,k3,k4⟩
   ·exact h.elim
 ·rename_i hg;rw[rY hs.tm hg];simp only[Bool.false_eq_true,if_false];exact⟨E,⟨b8 st.tmps o.dst (A (.aN [])),st.m,st.nx⟩,λ_ _=>rfl,Z _,⟨hs.tm.put (sv:=A (.aN [])) (r:=undef) (λv hv=>by injection hv with hv;subst hv;rfl),j5 hs.wt (λu hu=>by injection hu with hu;subst hu;rfl),by cases o.dst<;>exact hs.df,hs.mm⟩,h⟩
 ·exact h.elim
def jn (P:Program)(call:nA->PT)(ops:Array Oper):List Nat->(St->VC)->St->VC
 | [],K,st=>K st
 | j::r,K,st=>match ops[j]? with
   | some o=>dF P call ops j o (jn P call ops r K) st
   | none=>.fail "no operation"
def unsure (ops:Array Oper)(tmps:List (Option SV)):List (Option SV):=ops.toList.foldl (λt o=>b8 t o.dst G) tmps
theorem I2 {d:Option Nat}{v:SV}(h:(b8 tmps d G)[i]?=A (A v)):tmps[i]?=A (A v)/\d≠A i:=by
 cases d with
 | none=>exact⟨h,λe=>by cases e⟩
 | some d =>
   simp only[b8,aW] at h;split at h
   ·split at h<;>cases h
   ·rename_i e;exact⟨h,λx=>e (by injection x)⟩
theorem D6 {v:SV}(h:(unsure ops tmps)[i]?=A (A v)):tmps[i]?=A (A v)/\∀ o∈ ops.toList,o.dst≠A i:=by
 unfold unsure at h;generalize ops.toList=l at h;induction l generalizing tmps with
 | nil=>exact⟨h,λo ho=>by cases ho⟩
 | cons x r ih =>obtain⟨h1,h2⟩:=ih h;obtain⟨h3,h4⟩:=I2 h1;exact⟨h3,λo ho=>by rcases I.1 ho with rfl | ho;exact h4;exact h2 o ho⟩
theorem O6 :(unsure ops tmps).length=tmps.length:=by
 unfold unsure;generalize ops.toList=l;induction l generalizing tmps with
 | nil=>rfl
 | cons x r ih =>rw[List.foldl_cons,ih];cases x.dst<;>simp[b8]
theorem cP.unsure {E:Nat->Nat}{ops:Array Oper}{tmps:List (Option SV)}{a:Act}(h:cP E tmps a):cP E (unsure ops tmps) a :=⟨by rw[O6];exact h.size,λi v hv=>h.val i v (D6 hv).1⟩
theorem cP.wh (h:cP E (Sx.unsure ops tmps) a)(ho:o∈ ops.toList)(r:Value):cP E (Sx.unsure ops tmps) (a.put o.dst r):=by
 cases hd:o.dst with
 | none=>exact h
 | some d =>refine⟨by simp[Act.put,h.size],λi v hv=> ?_⟩;simp only[Act.put];rw[aC,s_ (λe=>(D6 hv).2 o ho (by rw[hd,e]))];exact h.val i v hv
theorem GD (h:dz nx tmps=C):dz nx (unsure ops tmps)=true:=by
 unfold unsure;generalize ops.toList=l;induction l generalizing tmps with
 | nil=>exact h
 | cons x r ih=>exact ih (j5 h λu hu=>by cases hu)
theorem l7.weaken {E':Nat->Nat}{e:Exit}(h:l7 KP Γ E' nx' e a w)(hE: ∀ k,k<nx->E' k=E k)(hn:nx<=nx'):l7 KP Γ E nx e a w:=by obtain⟨ch,h1,h2,h3⟩:=h;exact⟨ch,h1,h2,h3.weaken hE hn⟩
theorem xN {P:Program}{Γ:aT}{ro:Option Nat}{KP:PK}{call:nA->PT}(hcall: ∀ c,mJ P Γ KP c (call c)){ops:Array Oper}{Q:Exit->Act->World->Prop}{K:St->VC}{E0:Nat->Nat}{rj:Nat}{T0:List (Option SV)}(hT0:dz rj T0=C)
  (hP: ∀ e a w,cP E0 (unsure ops T0) a->l7 KP Γ E0 rj e a w->Q e a w) :
  ∀(l:List Nat) {st:St} {E:Nat->Nat} {a:Act} {w:World},(jn P call ops l K st).holds->Sat Γ E st a w->cP E0 (unsure ops T0) a->(∀ k,k<rj->E k=E0 k)->rj<=st.nx ->
   (∀ a w,jg K Γ E st.nx a w->Q .normal a w)->wpOpsIn (Fr ro) 0 P ops Q l a w
 | [],st,E,a,w,h,hs,_,_,_,hQ=>hQ _ _ ⟨E,st,λ_ _=>rfl,Z _,hs,h⟩
 | j::r,st,E,a,w,h,hs,hF,hE0,hn0,hQ=>by
   rw[wpOpsIn_cons];unfold wpOpIn;simp only[jn] at h;cases ho:ops[j]? with
   | none=>rw[ho] at h;exact h.elim
   | some o =>
     rw[ho] at h;simp only;have hmem:o∈ ops.toList:=by rw[← Array.getElem?_toList] at ho;exact List.mem_of_getElem? ho
     have hstep:=qO (ro:=ro) hcall h hs Q (λe w hb=>hP e a w hF (hb.weaken hE0 hn0));have go: ∀ a' w',((∃ r,a'=a.put o.dst r)/\jg (jn P call ops r K) Γ E st.nx a' w')->wpOpsIn (Fr ro) 0 P ops Q r a' w':=by rintro a' w' ⟨⟨rr,ha⟩,E',st',g1,g2,g3,g4⟩;refine xN hcall hT0 hP r g4 g3 (ha▸ cP.wh hF hmem rr) (λk hk=>(g1 k (T hk hn0)).trans (hE0 k hk)) (S hn0 g2) λa'' w'' hb=>hQ a'' w'' ?_;obtain⟨E'',st'',k1,k2,k3,k4⟩:=hb;exact⟨E'',st'',λk hk=>(k1 k (T hk g2)).trans (g1 k hk),S g2 k2,k3,k4⟩
     split
     ·rename_i hw;rw[r_ hw] at hstep;exact Oper.wpIn_mono go hstep
     ·rename_i hw;rw[s_ hw] at hstep;exact⟨rF ro,go _ _ ⟨⟨_,rfl⟩,hstep⟩⟩
theorem tw {σ σ':Operand->Option SV}: ∀ {l:List Operand},(∀ x∈ l,σ x=σ' x)->Hx σ l=Hx σ' l
 | [],_=>rfl
 | x::r,h=>by simp only[Hx];rw[h x (by simp),tw λy hy=>h y (by simp[hy])]
theorem oe {σ σ':Operand->Option SV}: ∀ {l:List (Nat×Operand)},(∀ p∈ l,σ p.2=σ' p.2)->partsOf σ l=partsOf σ' l
 | [],_=>rfl
 | (i,x)::r,h=>by simp only[partsOf];rw[h (i,x) (by simp),oe λp hp=>h p (by simp[hp])]
theorem rM {d:Bool×Int}{x:Option Operand}(h: ∀ y,x=A y->σ y=σ' y):bound σ d x=bound σ' d x:=by
 cases x with
 | none=>rfl
 | some y=>simp only[bound,h y rfl]
def keyOf (σ:Operand->Option SV):Op->Option Nat
 | .load _ a=>(match σ a with
   | some (.ptr key _ _)=>A key
   | some (.lS key _ _ _)=>A key
   | some (.i9 key _ _ _ _)=>A key
   | some (.pT key _ _ _)=>A key
   | some (.ga key _ _)=>A key
   | some (.n7 key _ _ _ _)=>A key
   | _=>G)
 | .convert _ _ a=>(match σ a with
   | some (.slc key _ _ _ _)=>A key
   | some (.aX key _ _ _ _ _)=>A key
   | _=>G)
 | .lookup _ x _ _=>(match σ x with
   | some (.map key)=>A key
   | _=>G)
 | .call c=>(match c.args.toList with
   | [x]=>(match σ x with
     | some (.map key)=>A key
     | _=>G)
   | _=>G)
 | _=>G
theorem Tm {look look':l8}{o:Op}{K:Option SV->VC}(h: ∀ x∈ o.operands,σ x=σ' x)(hl: ∀ k,keyOf σ o=A k->look k=look' k) :
  qop P look σ o K=qop P look' σ' o K:=by
 cases o<;>simp only[M] at h<;>simp only[qop]
 case move x=>rw[h x (by simp)]
 case assign x=>rw[h x (by simp)]
 case pick c a b=>rw[h c (by simp),h a (by simp),h b (by simp)]
 case load t a =>
  simp only[keyOf] at hl;rw[h a (by simp)] at hl ⊢;unfold QY;cases P.underlying t with
  | none=>rfl
  | some d =>
    simp only;split
    ·rename_i key o hx;rw[hx] at hl;rw[hl key rfl]
    ·rename_i key w i k hx;rw[hx] at hl;rw[hl key rfl]
    ·rename_i key w o i k hx;rw[hx] at hl;rw[hl key rfl]
    ·rename_i key base n i hx;rw[hx] at hl;rw[hl key rfl]
    ·rfl
    ·rename_i key b o hx;rw[hx] at hl;rw[hl key rfl]
    ·rename_i key w b i k hx;rw[hx] at hl;rw[hl key rfl]
    ·rfl
 case nilCheck x=>rw[h x (by simp)]
 case binOp op t x y yt=>rw[h x (by simp),h y (by simp)]
 case unOp op t x=>rw[h x (by simp)]
 case convert s d x =>
  simp only[keyOf] at hl;rw[h x (by simp)] at hl ⊢;cases hx:σ' x with
  | none=>rfl
  | some a =>
    simp only[need,IK];split
    ·unfold Oo;split
     ·rfl
     ·rename_i key o n cl c;rw[hx] at hl;rw[hl key rfl]
     ·rename_i key i n c;rw[hx] at hl;rw[hl key rfl]
     ·rfl
    ·rfl
 case makeInterface t x=>rw[h x (by simp)]
 case makeFunc fn a b =>rw[tw (l:=a.toList) λx hx=>h x (by simp;exact .inl (by simpa using hx)),tw (l:=b.toList) λx hx=>h x (by simp;exact .inr (by simpa using hx))]
 case slice t x lo hi mx =>
  have hx:=h x (by simp);have hlo: ∀ d,bound σ d lo=bound σ' d lo:=λd=>rM λy hy=>h y (by simp[hy]);have hhi: ∀ d,bound σ d hi=bound σ' d hi:=λd=>rM λy hy=>h y (by simp[hy]);have hmx: ∀ d,bound σ d mx=bound σ' d mx:=λd=>rM λy hy=>h y (by simp[hy]);unfold IP;rw[hx];have e1: ∀ l s,pz σ l s lo hi K=pz σ' l s lo hi K:=λ_ _=>by simp only[pz,hlo,hhi]
  have e2: ∀ m a key o n cl c,kK σ m a key o n cl c lo hi K=kK σ' m a key o n cl c lo hi K:=λ_ _ _ _ _ _ _=>by simp only[kK,hlo,hhi]
  have e3: ∀ key w i n c,kJ σ key w i n c lo hi K=kJ σ' key w i n c lo hi K:=λ_ _ _ _ _=>by simp only[kJ,hlo,hhi]
  have e4: ∀ key o n,pq σ key o n lo hi K=pq σ' key o n lo hi K:=λ_ _ _=>by simp only[pq,hlo,hhi]
  have e5: ∀ n,tP σ n lo hi=tP σ' n lo hi:=λ_=>by simp only[tP,hlo,hhi]
  have e6: ∀ m key o n c z,mx=A z->qF σ m key o n c lo hi z K=qF σ' m key o n c lo hi z K:=λ_ _ _ _ _ z hz=>by subst hz;simp only[qF,hlo,hhi,hmx]
  split
  ·exact e1 _ _
  ·split
   ·rw[e5,e4];split
    ·rfl
    ·exact e2 _ _ _ _ _ _ _
   ·rfl
  ·split
   ·exact e6 _ _ _ _ _ _ rfl
   ·rfl
  ·split
   ·exact e6 _ _ _ _ _ _ rfl
   ·rfl
  ·split
   ·exact e2 _ _ _ _ _ _ _
   ·rfl
  ·split
   ·rw[e3]
   ·rfl
  ·rfl
 case fieldAddr s x f=>rw[h x (by simp)]
 case field t x f=>rw[h x (by simp)]
 case indexAddr t x i=>rw[h x (by simp),h i (by simp)]
 case index t x i=>rw[h x (by simp),h i (by simp)]
 case typeAssert x t at_ ok=>rw[h x (by simp)]
 case extract x i=>rw[h x (by simp)]
 case build t parts =>unfold IJ;rw[oe (l:=parts.toList) λp hp=>h p.2 (by simp;exact⟨p.1,by simpa using hp⟩)]
 case lookup t x k ok =>
  simp only[keyOf] at hl;rw[h x (by simp)] at hl ⊢;rw[h k (by simp)];unfold need;cases hx:σ' x with
  | none=>rfl
  | some v =>
    cases σ' k with
    | none=>rfl
    | some u =>
      simp only;unfold Bv;split
      ·split
       ·split
        ·rfl
        ·rename_i key _;rw[hx] at hl;rw[hl key rfl]
        ·rfl
       ·rfl
      ·rfl
 case call c =>
  obtain⟨callee,args,ats⟩:=c;cases callee with
  | value f=>rfl
  | invoke r m=>rfl
  | builtin b =>
    simp only[O] at h;simp only;unfold QV;split
    ·rename_i x hx
     have hxe:=h x (by simp;have:x∈ args.toList:=by rw[hx];simp
                       simpa using this)
     rw[hxe];cases args_ty:ats[0]? with
     | none=>rfl
     | some t =>
       simp only;unfold need;cases hv:σ' x with
       | none=>rfl
       | some v =>
         simp only;unfold QX;split
         ·rename_i key;have:=hl key (by simp only[keyOf,hx,hxe,hv]);rw[this]
         ·rfl
    ·rename_i x hx;rw[h x (by simp;have:x∈ args.toList:=by rw[hx];simp
                              simpa using this)]
    ·rename_i x y hx;have h1:x∈ args.toList:=by rw[hx];simp
     have h2:y∈ args.toList:=by rw[hx];simp
     rw[h x (by simpa using h1),h y (by simpa using h2)]
    ·rename_i x y hx;have h1:x∈ args.toList:=by rw[hx];simp
     have h2:y∈ args.toList:=by rw[hx];simp
     rw[h x (by simpa using h1),h y (by simpa using h2)]
    ·rfl
theorem lq {o:Op}(h: ∀ x∈ o.operands,σ x=σ' x):keyOf σ o=keyOf σ' o:=by
 cases o<;>simp only[keyOf]
 case load t a=>rw[h a (by simp[M])]
 case convert s d a=>rw[h a (by simp[M])]
 case lookup t x k ok=>rw[h x (by simp[M])]
 case call c =>
  split
  ·rename_i x hx;have hm:x∈ c.args.toList:=by rw[hx];simp
   rw[h x (by simp only[M,O];cases c.callee<;>simp<;>first | exact .inr (by simpa using hm) | simpa using hm)]
  ·rfl
theorem S0 {o:Op}(h: ∀ x∈ o.operands,σ x=σ' x):lop P call σ m nx o K=lop P call σ' m nx o K:=by
 cases o<;>simp only[M] at h<;>simp only[lop]
 case box t x=>rw[h x (by simp)]
 case buildSlice t len parts =>unfold lA;rw[oe (l:=parts.toList) λp hp=>h p.2 (by simp;exact⟨p.1,by simpa using hp⟩)]
 case makeSlice t x y=>rw[h x (by simp),h y (by simp)]
 case store t a x=>rw[h a (by simp),h x (by simp)]
 case makeMap t r=>cases r with
  | none=>rfl
  | some x=>simp only[Option.map_some];rw[h x (by simp)]
 case mapUpdate t x k v=>rw[h x (by simp),h k (by simp),h v (by simp)]
 case insert t x k v=>rw[h x (by simp),h k (by simp),h v (by simp)]
 case mapEntry t x k=>rw[h x (by simp),h k (by simp)]
 case entryStore t x k v=>rw[h x (by simp),h k (by simp),h v (by simp)]
 case range t x=>rw[h x (by simp)]
 case next x b=>rw[h x (by simp)]
 case panic x=>rw[h x (by simp)]
 case call c =>
  obtain⟨callee,args,ats⟩:=c;have he:Hx σ args.toList=Hx σ' args.toList:=tw λx hx=>h x (by simp only[O];cases callee<;>simp<;>first | exact .inr (by simpa using hx) | simpa using hx)
  unfold Ay;simp only[he];cases Hx σ' args.toList with
  | none=>cases callee<;>first | rfl | (rename_i b;cases b<;>rfl)
  | some avs =>
    cases callee with
    | value f=>have:=h f (by simp[O]);dsimp only;rw[this]
    | invoke r m=>have:=h r (by simp[O]);dsimp only;rw[this]
    | builtin b=>cases b<;>first | rfl | (cases avs with | nil=>rfl | cons x r=>cases r with | nil=>rfl | cons y r=>cases r<;>rfl)
def aQ (pt:PT):Prop:=∀ args m nx (K K':SV->Mem->Nat->VC),(∀ v m nx,(K v m nx).holds->(K' v m nx).holds)->(pt args m nx K).holds->(pt args m nx K').holds
theorem Vm {l:Bool}{c:Prop}[Decidable c]{t t':VC}(h:t.holds->t'.holds):(oC l c t).holds->(oC l c t').holds:=by
 unfold oC;cases l
 ·exact λx=>⟨x.1,h x.2⟩
 ·by_cases hc:c
  ·simp only[r_ hc];exact h
  ·simp only[s_ hc];exact id
theorem zg {t t':SV->VC}(h: ∀ v,(t v).holds->(t' v).holds):(need x t).holds->(need x t').holds:=by
 cases x with
 | none=>exact id
 | some v=>exact h v
theorem me {d:TypeDesc}{k:SV}{t t':Zy->VC}(h: ∀ r,(t r).holds->(t' r).holds): ∀ {es:List (Nat×SV×SV)} {i:Nat},(ij d k t es i).holds->(ij d k t' es i).holds
 | [],i,hh=>h _ hh
 | e::r,i,hh=>by
   unfold ij at hh ⊢;split at hh
   ·split at hh
    ·exact h _ hh
    ·exact me h hh
   ·rw[bP] at hh ⊢;split at hh
    ·exact h _ hh
    ·exact me h hh
   ·exact hh
theorem yd {k:Option SV}{f f':TypeDesc->SV->Nat->List (Nat×SV×SV)->Nat->SV->VC}(h: ∀ d kv key es clock z,(f d kv key es clock z).holds->(f' d kv key es clock z).holds) :
  (qV P t x k m f).holds->(qV P t x k m f').holds:=by
 unfold qV;split
 ·split
  ·split
   ·exact h _ _ _ _ _ _
   ·exact id
  ·exact id
 ·exact id
theorem A3 {k:Option SV}(h: ∀ v m nx,(K v m nx).holds->(K' v m nx).holds):(kG P t x k v m nx K).holds->(kG P t x k v m nx K').holds:=by
 unfold kG;refine yd λd kv key es clock z=> ?_;split
 ·exact me λr=>by
   cases r with
   | none=>exact h _ _ _
   | some q=>exact h _ _ _
 ·exact id
theorem CI {k:Option SV}(h: ∀ v m nx,(K v m nx).holds->(K' v m nx).holds):(mC P t x k m nx K).holds->(mC P t x k m nx K').holds:=by
 unfold mC;exact yd λd kv key es clock z=>me λr=>by
  cases r with
  | none=>exact h _ _ _
  | some q=>exact h _ _ _
theorem yQ {s:Option SV}(h: ∀ v m nx,(K v m nx).holds->(K' v m nx).holds):(jw x s v m nx K).holds->(jw x s v m nx K').holds:=by
 unfold jw;split
 ·split
  ·split
   ·exact h _ _ _
   ·exact id
  ·exact id
 ·exact id
theorem HU {ats:Array TypeId}{x k:SV}(_h: ∀ v m nx,(K v m nx).holds->(K' v m nx).holds):(Bn P ats x k m nx K).holds->(Bn P ats x k m nx K').holds:=id
theorem KM (_h: ∀ v m nx,(K v m nx).holds->(K' v m nx).holds):(Ii P t x m nx K).holds->(Ii P t x m nx K').holds:=id
theorem NP {s:Bool}(_h: ∀ v m nx,(K v m nx).holds->(K' v m nx).holds):(Qz x s m nx K).holds->(Qz x s m nx K').holds:=id
theorem KJ (hm: ∀ f,aQ (call f)){o:Op}(h: ∀ v m nx,(K v m nx).holds->(K' v m nx).holds) :
  (lop P call σ m nx o K).holds->(lop P call σ m nx o K').holds:=by
 have hnew: ∀ t z,(Ih t z m nx K).holds->(Ih t z m nx K').holds:=by
  intro t z;unfold Ih;split
  ·exact h _ _ _
  ·exact id
 have hupd: ∀ t x k v,(iz P t x k v m nx K).holds->(iz P t x k v m nx K').holds:=λt x k v=>by
  unfold iz;split
  ·have hfu: ∀ key f c (v:Option SV) m,(jj P t key f c k v m nx K).holds->(jj P t key f c k v m nx K').holds:=λkey f c v m=>by
    unfold jj;split
    ·split
     ·exact h _ _ _
     ·exact id
    ·exact id
   split
   ·exact hfu _ _ _ _ _
   ·refine Ck λvs m'=> ?_;split
    ·exact hfu _ _ _ _ _
    ·exact id
  exact A3 h
 have hgrown: ∀ e n cs s m nx,(grown e n cs s m nx K).holds->(grown e n cs s m nx K').holds:=λe n cs s m nx x c hc=>h _ _ _ (x c hc);unfold lop;split
 ·split
  ·exact hnew _ _
  ·exact id
 ·exact zg λv=>hnew _ _
 ·unfold lA;split
  ·split
   ·split
    ·split
     ·exact h _ _ _
     ·exact id
    ·exact id
   ·exact id
  ·exact id
 ·refine zg λa=>zg λb=> ?_;unfold Az;split
  ·split
   ·split
    ·exact Vm (h _ _ _)
    ·exact id
   ·exact id
  ·split
   ·split
    ·split
     ·exact λhh=>⟨hh.1,h _ _ _ hh.2⟩
     ·exact id
    ·exact id
   ·exact id
  ·exact id
 ·unfold od;split
  ·split
   ·split
    ·exact h _ _ _
    ·exact id
   ·exact id
  ·split
   ·split
    ·split
     ·exact λx=>⟨x.1,h _ _ _ x.2⟩
     ·exact id
    ·exact id
   ·split
    ·exact λx=>⟨x.1,h _ _ _ x.2⟩
    ·exact id
   ·exact id
  ·split
   ·split
    ·split
     ·exact λx=>⟨x.1,h _ _ _ x.2⟩
     ·exact id
    ·exact id
   ·exact id
  ·split
   ·split
    ·split
     ·split
      ·exact λx=>⟨x.1,h _ _ _ x.2⟩
      ·exact id
     ·exact id
    ·exact id
   ·exact id
  ·split
   ·split
    ·split
     ·exact λx=>⟨x.1,h _ _ _ x.2⟩
     ·exact id
    ·exact id
   ·exact id
  ·exact id
 ·unfold Ay;split
  ·split
   ·exact hm _ _ _ _ _ _ λv m nx=>h _ _ _
   ·exact hm _ _ _ _ _ _ λv m nx=>h _ _ _
   ·exact id
  ·split
   ·split
    ·split
     ·exact hm _ _ _ _ _ _ λv m nx=>h _ _ _
     ·exact id
    ·exact id
   ·exact id
  ·unfold wZ;split
   ·unfold Bm;split
    ·split
     ·split
      ·split
       ·split
        ·unfold yU;split
         ·split
          ·split
           ·split
            ·exact h _ _ _
            ·exact hgrown _ _ _ _ _ _
           ·split
            ·split
             ·split
              ·exact h _ _ _
              ·exact id
             ·exact hgrown _ _ _ _ _ _
            ·exact id
           ·split
            ·split
             ·exact λx=>⟨x.1,λc hc=>h _ _ _ (x.2 c hc)⟩
             ·exact id
            ·exact id
           ·exact id
          ·exact id
         ·exact id
        ·exact id
       ·exact id
      ·exact id
     ·exact id
    ·exact id
   ·split
    ·split
     ·split
      ·split
       ·exact yT λu m nx=>h _ _ _
       ·exact id
      ·exact id
     ·exact id
    ·exact id
  ·unfold Qw;split
   ·split
    ·split
     ·split
      ·split
       ·exact h _ _ _
       ·exact id
      ·exact id
     ·unfold w9;split
      ·split
       ·exact λx=>⟨x.1,h _ _ _ x.2⟩
       ·exact id
      ·exact id
     ·exact id
    ·exact id
   ·exact id
  ·exact HU h
  ·exact id
 ·unfold xg;split
  ·exact h _ _ _
  ·split
   ·exact h _ _ _
   ·exact id
  ·exact id
 ·exact hupd _ _ _ _
 ·exact hupd _ _ _ _
 ·unfold tQ;split
  ·unfold tE;split
   ·split
    ·split
     ·split
      ·exact λhh b=>h _ _ _ (hh b)
      ·exact id
     ·exact id
    ·exact id
   ·exact id
  exact CI h
 ·unfold nP;split
  ·unfold tF;split
   ·split
    ·exact λhh=>And.intro hh.1 (h _ _ _ hh.2)
    ·exact id
   ·exact id
  exact yQ h
 ·exact KM h
 ·exact NP h
 ·exact id
 ·exact id
def names (ops:Array Oper)(o:Oper):List Nat:=o.looksAt ops
def XR (P:Program)(ops:Array Oper)(j:Nat)(o:Oper)(tmps:List (Option SV))(m:Mem)(nx:Nat)(k:Option SV->VC):VC :=
 match guardOf ops o tmps with
 | some C=>qop P (λk=>m.get k) (ev tmps) o.op (λv=>Ol (qk ops j) v nx k)
 | some F=>k (A (.aN []))
 | none=>.fail "a guard that is not known"
theorem iP (hq:ey P o.op=C)(K:St->VC)(st:St) :
  dF P call ops j o K st=XR P ops j o st.tmps st.m st.nx (λv=>K ⟨b8 st.tmps o.dst v,st.m,st.nx⟩):=by
 unfold dF XR;cases guardOf ops o st.tmps with
 | none=>rfl
 | some b=>cases b<;>simp only[hq]<;>rfl
theorem Bw (P:Program)(ops:Array Oper)(j:Nat)(o:Oper)(tmps:List (Option SV))(m:Mem)(nx:Nat) :
  ∃(p:Prop) (u:Option SV),(∀ k,(XR P ops j o tmps m nx k).holds↔p/\(k u).holds):=by
 unfold XR;cases guardOf ops o tmps with
 | none=>exact⟨False,G,λk=>⟨λh=>h.elim,λh=>h.1.elim⟩⟩
 | some b =>
   cases b with
   | false=>exact⟨True,A (.aN []),λk=>⟨λh=>⟨trivial,h⟩,λh=>h.2⟩⟩
   | true =>obtain⟨obl,sv,h1,_⟩:=IM (P:=P) (look:=λk=>m.get k) (σ:=ev tmps) o;obtain⟨p,u,g1,_,_⟩:=xB (qk ops j) sv nx;exact⟨obl/\p,u,λk=>by simp only[h1,g1];exact⟨λh=>⟨⟨h.1,h.2.1⟩,h.2.2⟩,λh=>⟨h.1.1,h.1.2,h.2⟩⟩⟩
theorem C1 {t:Nat}(h:Operand.tmp t∈ o.op.operands):t∈ o.looksAt ops:=by simp only[Oper.looksAt,an,List.mem_filterMap];exact .inl ⟨.tmp t,by simpa using h,rfl⟩
theorem xj {oj:Oper}{d:Nat}{b:Bool}(hg:o.guard=A (j,b))(hj:ops[j]?=A oj)(hd:oj.dst=A d):d∈ o.looksAt ops:=by simp only[Oper.looksAt,an];right;simp[hg,hj,hd]
def Agree (ops:Array Oper)(o:Oper)(tmps tmps':List (Option SV)):Prop:=∀ t∈ o.looksAt ops,slot tmps t=slot tmps' t
theorem Agree.ev (h:Agree ops o tmps tmps'): ∀ x∈ o.op.operands,Sx.ev tmps x=Sx.ev tmps' x:=by
 intro x hx;cases x with
 | tmp t=>exact h t (C1 hx)
 | _=>rfl
theorem Agree.guard (h:Agree ops o tmps tmps'):guardOf ops o tmps=guardOf ops o tmps':=by
 unfold guardOf;split
 ·rfl
 ·rename_i j want hg;split
  ·rename_i oj hj;split
   ·rename_i d hd;rw[h d (xj hg hj hd)]
   ·rfl
  ·rfl
theorem zC {m':Mem}{k:Option SV->VC}(h:Agree ops o tmps tmps')
  (hl: ∀ key,keyOf (ev tmps) o.op=A key->m.get key=m'.get key):XR P ops j o tmps m nx k=XR P ops j o tmps' m' nx k:=by
 unfold XR;rw[h.guard];cases guardOf ops o tmps' with
 | none=>rfl
 | some b =>
   cases b with
   | false=>rfl
   | true=>exact Tm h.ev hl
theorem AM: ∀ {tmps:List (Option SV)} {d t:Nat} {v:Option SV},d≠t->slot (tmps.set d v) t=slot tmps t
 | [],_,_,_,_=>rfl
 | _::_,0,0,_,h=>absurd rfl h
 | _::_,0,_+1,_,_=>rfl
 | _::_,_+1,0,_,_=>rfl
 | _::r,d+1,t+1,v,h=>AM (tmps:=r) (λe=>h (by rw[e]))
theorem iL (h: ∀ d,dst=A d->d∉ o.looksAt ops):Agree ops o (b8 tmps dst v) tmps:=by
 intro t ht;cases dst with
 | none=>rfl
 | some d=>exact AM (λe=>h d rfl (e▸ ht))
theorem xQ {x y:Option Nat}{u:Option SV}(h: ∀ d,x=A d->y≠A d):b8 (b8 tmps x v) y u=b8 (b8 tmps y u) x v:=by
 cases x with
 | none=>rfl
 | some d =>
   cases y with
   | none=>rfl
   | some e =>have:d≠e:=λhe=>h d rfl (he▸ rfl);simp only[b8];exact List.set_comm _ _ this
def kI (keys:List Nat)(m m':Mem)(t:VC):VC :=
 match keys with
 | []=>t
 | k::r=>.and (.atom (m'.get k=m.get k)) (kI r m m' t)
theorem gV {keys:List Nat}{m':Mem}{t:VC}:(kI keys m m' t).holds↔(∀ k∈ keys,m'.get k=m.get k)/\t.holds:=by
 induction keys with
 | nil=>simp[kI]
 | cons k r ih =>simp only[kI,VC.holds,ih,I,forall_eq_or_imp];exact⟨λh=>⟨⟨h.1,h.2.1⟩,h.2.2⟩,λh=>⟨h.1.1,h.1.2,h.2⟩⟩
def Ke (nx nx':Nat)(t:VC):VC:=match Nat.ble nx nx' with
 | true=>t
 | false=>.fail "keys"
theorem mA {t:VC}:(Ke nx nx' t).holds↔nx<=nx'/\t.holds:=by
 unfold Ke;cases h:Nat.ble nx nx' with
 | true=>exact⟨λx=>⟨Nat.le_of_ble_eq_true h,x⟩,λx=>x.2⟩
 | false=>exact⟨λx=>x.elim,λx=>by have:=Nat.ble_eq_true_of_le x.1;rw[h] at this;cases this⟩
section
variable {P : Program} {call : nA -> PT} {ops : Array Oper}
theorem cE (hm: ∀ f,aQ (call f)){K K':St->VC}{st:St}
  (h: ∀ u m nx,(K ⟨b8 st.tmps o.dst u,m,nx⟩).holds->(K' ⟨b8 st.tmps o.dst u,m,nx⟩).holds) (hh:(dF P call ops j o K st).holds):(dF P call ops j o K' st).holds:=by
 cases hq:ey P o.op with
 | true =>rw[iP hq] at hh ⊢;obtain⟨p,u,hd⟩:=Bw P ops j o st.tmps st.m st.nx;rw[hd] at hh ⊢;exact⟨hh.1,h _ _ _ hh.2⟩
 | false =>
   unfold dF at hh ⊢;cases hg:guardOf ops o st.tmps with
   | none=>rw[hg] at hh;exact hh.elim
   | some b =>
     rw[hg] at hh;cases b with
     | false=>exact h _ _ _ hh
     | true =>
       simp only[hq] at hh ⊢;cases hw:Mem.wf st.nx st.m with
       | false=>rw[hw] at hh;exact hh.elim
       | true =>rw[hw] at hh;simp only at hh ⊢;refine KJ hm (λv m nx hp=> ?_) hh;obtain⟨p,u,g1,_,_⟩:=xB (qk ops j) v nx;unfold Tg at hp ⊢;rw[g1] at hp ⊢;exact⟨hp.1,h _ _ _ hp.2⟩
def stepG (P:Program)(call:nA->PT)(ops:Array Oper)(i:Nat)(o:Oper)(H:List Nat)(K:St->VC)(st:St):VC :=dF P call ops i o (λst'=>kI H st.m st'.m (Ke st.nx st'.nx (K st'))) st
theorem Th {g:Bool}(hn:nx<=nx'){k:Option SV->VC}(h:(Ol g v nx k).holds):(Ol g v nx' k).holds:=by
 have hw:wfO nx v=C->wfO nx' v=true:=by cases v with
  | none=>exact id
  | some v=>exact SV.iq hn v
 unfold Ol at *;split at h
 ·exact h
 ·rename_i g' v' hne;cases hv:wfO nx v with
  | false=>rw[hv] at h;exact h.elim
  | true =>rw[hv] at h;rw[hw hv];exact h
theorem XS (hn:nx<=nx'){k:Option SV->VC}(h:(XR P ops j o tmps m nx k).holds):(XR P ops j o tmps m nx' k).holds:=by
 unfold XR at h ⊢;cases hg:guardOf ops o tmps with
 | none=>rw[hg] at h;exact h.elim
 | some b =>
   rw[hg] at h;cases b with
   | false=>exact h
   | true =>obtain⟨obl,sv,h1,_⟩:=IM (P:=P) (look:=λk=>m.get k) (σ:=ev tmps) o;simp only at h ⊢;rw[h1] at h ⊢;refine⟨h.1,?_⟩;exact Th hn h.2
structure Ab (ops:Array Oper)(x y:Oper):Prop where
 a: ∀ d,x.dst=A d->d∉ y.looksAt ops
 b: ∀ d,x.dst=A d->y.dst≠A d
 c: ∀ d,y.dst=A d->d∉ x.looksAt ops
theorem TM (hm: ∀ f,aQ (call f)){jp ji:Nat}{op oi:Oper}(hp:ey P op.op=C)(hi:ey P oi.op=F)(ha:Ab ops op oi){H H1:List Nat}{K:St->VC}{st:St}
  (hH: ∀ k∈ H,k∈ H1) (hk: ∀ k,keyOf (ev st.tmps) op.op=A k->k∈ H1) (h:(dF P call ops jp op (stepG P call ops ji oi H1 K) st).holds) :
  (stepG P call ops ji oi H (dF P call ops jp op K) st).holds:=by
 obtain⟨tmps,m,nx⟩:=st;rw[iP hp] at h;obtain⟨pp,u,hd⟩:=Bw P ops jp op tmps m nx;obtain⟨hpp,h⟩:=(hd _).1 h;have hag:Agree ops oi (b8 tmps op.dst u) tmps:=iL ha.a
 have fin: ∀(u':Option SV) (m':Mem) (nx':Nat),(kI H1 m m' (Ke nx nx' (K ⟨b8 (b8 tmps op.dst u) oi.dst u',m',nx'⟩))).holds ->
   (kI H m m' (Ke nx nx' (dF P call ops jp op K ⟨b8 tmps oi.dst u',m',nx'⟩))).holds:=by
  intro u' m' nx' hh;rw[gV,mA] at hh ⊢;refine⟨λk hk'=>hh.1 k (hH k hk'),hh.2.1,?_⟩;rw[iP hp];have h1:(XR P ops jp op tmps m nx (λv=>K ⟨b8 (b8 tmps oi.dst u') op.dst v,m',nx'⟩)).holds:=by rw[hd];refine⟨hpp,?_⟩;rw[xQ (λd hd' he=>ha.b d he hd')];exact hh.2.2
  have h2:=XS hh.2.1 h1;rw[zC (tmps':=b8 tmps oi.dst u') (m':=m') (λt ht=>((iL (tmps:=tmps) (v:=u') ha.c) t ht).symm) (λkey hkey=>(hh.1 key (hk key hkey)).symm)] at h2;exact h2
 unfold stepG dF at h ⊢;rw[hag.guard] at h;cases hg:guardOf ops oi tmps with
 | none=>rw[hg] at h;exact h.elim
 | some b =>
   rw[hg] at h;cases b with
   | false=>exact fin _ _ _ h
   | true =>
     simp only[hi] at h ⊢;cases hw:Mem.wf nx m with
     | false=>rw[hw] at h;exact h.elim
     | true =>rw[hw] at h;simp only at h ⊢;rw[S0 hag.ev] at h;refine KJ hm (λv m' nx' hpk=> ?_) h;obtain⟨p',u',g1,_,_⟩:=xB (qk ops ji) v nx';unfold Tg at hpk ⊢;rw[g1] at hpk ⊢;exact⟨hpk.1,fin _ _ _ hpk.2⟩
theorem DX {jp ji:Nat}{op oi:Oper}(hp:ey P op.op=C)(hi:ey P oi.op=C)(ha:Ab ops op oi){K:St->VC}{st:St}
  (h:(dF P call ops jp op (dF P call ops ji oi K) st).holds):(dF P call ops ji oi (dF P call ops jp op K) st).holds:=by
 obtain⟨tmps,m,nx⟩:=st;rw[iP hp] at h;obtain⟨pp,u,hd⟩:=Bw P ops jp op tmps m nx;obtain⟨hpp,h⟩:=(hd _).1 h;rw[iP hi] at h ⊢;rw[zC (tmps':=tmps) (iL ha.a) (λ_ _=>rfl)] at h;obtain⟨pi,v,hd2⟩:=Bw P ops ji oi tmps m nx;rw[hd2] at h ⊢;refine⟨h.1,?_⟩;rw[iP hp];rw[zC (tmps':=tmps) (iL ha.c) (λ_ _=>rfl),hd];refine⟨hpp,?_⟩;have h2:=h.2;simp only at h2 ⊢;rw[xQ (λd hd' he=>ha.b d he hd')];exact h2
def jL (mask:Nat)(rd:List (Nat×Nat)):List Nat :=
 match rd with
 | []=>[]
 | (p,k)::r=>match mask.testBit p with
   | true=>jL mask r
   | false=>k::jL mask r
theorem lu {mask:Nat}{k:Nat}: ∀ {rd:List (Nat×Nat)},k∈ jL mask rd↔∃ p,(p,k)∈ rd/\mask.testBit p=F
 | []=>by simp[jL]
 | (p,x)::r=>by
   simp only[jL];cases h:mask.testBit p with
   | true =>
     simp only[lu (rd:=r),I,Prod.mk.injEq];constructor
     ·rintro⟨q,h1,h2⟩;exact⟨q,.inr h1,h2⟩
     ·rintro⟨q,h1 | h1,h2⟩
      ·obtain⟨rfl,rfl⟩:=h1;rw[h] at h2;cases h2
      ·exact⟨q,h1,h2⟩
   | false =>
     simp only[I,lu (rd:=r),Prod.mk.injEq];constructor
     ·rintro(rfl | ⟨q,h1,h2⟩)
      ·exact⟨p,.inl ⟨rfl,rfl⟩,h⟩
      ·exact⟨q,.inr h1,h2⟩
     ·rintro⟨q,h1 | h1,h2⟩
      ·obtain⟨rfl,rfl⟩:=h1;exact .inl rfl
      ·exact .inr ⟨q,h1,h2⟩
def addKey (j:Nat)(k:Option Nat)(rd:List (Nat×Nat)):List (Nat×Nat) :=
 match k with
 | some k=>(j,k)::rd
 | none=>rd
def mM (f:Nat->VC):List Nat->VC
 | []=>.tt
 | j::r=>(match r with
   | []=>f j
   | _::_=>.and (f j) (mM f r))
theorem pY {f:Nat->VC}: ∀ {l:List Nat},(mM f l).holds->∀ j∈ l,(f j).holds
 | [],_,_,h=>by cases h
 | [j],h,k,hk=>by simp only[Y] at hk;subst hk;exact h
 | j::x::r,h,k,hk=>by
   rw[I] at hk;rcases hk with rfl | hk
   ·exact h.1
   ·exact pY (l:=x::r) h.2 k hk
theorem kQ {f g:Nat->VC}(hfg: ∀ j,(f j).holds->(g j).holds): ∀ {l:List Nat},(mM f l).holds->(mM g l).holds
 | [],h=>h
 | [j],h=>hfg j h
 | j::x::r,h=>⟨hfg j h.1,kQ hfg (l:=x::r) h.2⟩
def jM:List Nat->Nat
 | []=>0
 | q::r=>Nat.lor (Nat.pow 2 q) (jM r)
theorem FO {k:Nat}: ∀ {l:List Nat},(jM l).testBit k=C->k∈ l
 | [],h=>by simp[jM] at h
 | q::r,h=>by
   have h:(2^ q ||| jM r).testBit k=true:=h;simp only[b6,aO] at h;rcases h with h | h
   ·rw[Nat.testBit_two_pow] at h;simp at h;simp[h]
   ·exact a_ _ (FO h)
theorem FP {k:Nat}: ∀ {l:List Nat},k∈ l->(jM l).testBit k=C
 | q::r,h=>by
   show(2^ q ||| jM r).testBit k=C;simp only[b6,aO];rw[I] at h;rcases h with rfl | h
   ·left;simp[]
   ·exact .inr (FP h)
def isReady (masks:List Nat)(lm:Nat)(j:Nat):Bool:=az (bE (masks.getD j 0) lm) 0
theorem jv {l:List Nat}:isReady masks (jM l) j=C↔∀ q∈ l,(masks.getD j 0).testBit q=false:=by
 unfold isReady;constructor
 ·intro h q hq;have h0:=Nat.eq_of_beq_eq_true h;have:(masks.getD j 0 &&& jM l).testBit q=false:=by show(bE (masks.getD j 0) (jM l)).testBit q=F;rw[h0];exact b7 q
  rw[b5,FP hq,N] at this;exact this
 ·intro h;have key: ∀ {a b:Nat},a=b->az a b=true:=λe=>by subst e;exact Nat.beq_refl _
  apply key;apply Nat.eq_of_testBit_eq;intro k;show(masks.getD j 0 &&& jM l).testBit k=_;rw[b5,b7];cases hk:(jM l).testBit k with
  | false=>simp
  | true=>rw[h k (FO hk)];rfl
def quietAt (P:Program)(ops:Array Oper)(j:Nat):Bool:=match ops[j]? with
 | some o=>ey P o.op
 | none=>F
def wN (P:Program)(ops:Array Oper)(masks:List Nat)(lm:Nat):List Nat->Option Nat
 | []=>G
 | j::r=>match quietAt P ops j&&isReady masks lm j with
   | true=>A j
   | false=>wN P ops masks lm r
theorem qd {masks:List Nat}{lm j:Nat}: ∀ {l:List Nat},wN P ops masks lm l=A j->j∈ l/\quietAt P ops j=C/\isReady masks lm j=C
 | [],h=>by cases h
 | k::r,h=>by
   unfold wN at h;split at h
   ·rename_i hk;injection h with h;subst h;rw[J] at hk;exact⟨by simp,hk⟩
   ·have:=qd h;exact⟨by simp[this.1],this.2⟩
theorem qc {masks:List Nat}{lm:Nat}: ∀ {l:List Nat},wN P ops masks lm l=G->∀ j∈ l,(quietAt P ops j&&isReady masks lm j)=F
 | [],_,_,hj=>by cases hj
 | k::r,h,j,hj=>by
   unfold wN at h;split at h
   ·cases h
   ·rename_i hk;rw[I] at hj;rcases hj with rfl | hj
    ·exact hk
    ·exact qc h j hj
def Dw (P:Program)(ops:Array Oper)(masks:List Nat)(l:List Nat):List Nat :=l.filter λj=>!quietAt P ops j&&isReady masks (jM l) j
def cG (P:Program)(call:nA->PT)(ops:Array Oper)(masks:List Nat):Nat->List Nat->List (Nat×Nat)->(St->VC)->St->VC
 | _,[],_,K,st=>K st
 | 0,_::_,_,_,_=>.fail "a region that is too long"
 | n+1,x::r,rd,K,st=>match wN P ops masks (jM (x::r)) (x::r)with
   | some i=>(match ops[i]? with
     | some o=>dF P call ops i o (cG P call ops masks n ((x::r).erase i) (addKey i (keyOf (ev st.tmps) o.op) rd) K) st
     | none=>.fail "no operation")
   | none=>mM (λj=>match ops[j]? with
      | some oj=>stepG P call ops j oj (jL (masks.getD j 0) rd) (cG P call ops masks n ((x::r).erase j) rd K) st
      | none=>.fail "no operation") (Dw P ops masks (x::r))
theorem nI {n:Nat}{K:St->VC}{st:St}:cG P call ops masks n [] rd K st=K st:=by cases n<;>rfl
theorem Jt {rd':List (Nat×Nat)}(h: ∀ x∈ rd,x∈ rd'): ∀ x∈ addKey i k rd,x∈ addKey i k rd':=by
 intro x hx;cases k with
 | none=>exact h x hx
 | some k=>simp only[addKey,I] at hx ⊢;exact hx.imp id (h x)
theorem MF : ∀ x∈ rd,x∈ addKey i k rd:=by
 intro x hx;cases k with
 | none=>exact hx
 | some k=>exact a_ _ hx
theorem Af {k':Option Nat}: ∀ x∈ addKey i k (addKey j k' rd),x∈ addKey j k' (addKey i k rd):=by intro x hx;cases k<;>cases k'<;>simp only[addKey,I] at hx ⊢ <;> first | exact hx | (rcases hx with h | h | h<;>simp[h])
theorem mQ (hm: ∀ f,aQ (call f)){masks:List Nat}{K:St->VC}: ∀ {n:Nat} {l:List Nat} {rd rd':List (Nat×Nat)} {st:St},(∀ x∈ rd,x∈ rd')->(cG P call ops masks n l rd' K st).holds->(cG P call ops masks n l rd K st).holds
 | n,[],_,_,_,_,h=>by rw[nI] at h ⊢;exact h
 | 0,_::_,_,_,_,_,h=>h.elim
 | n+1,x::r,rd,rd',st,hr,h=>by
   simp only[cG] at h ⊢;split at h
   ·split at h
    ·exact cE hm (λu m nx hh=>mQ hm (Jt hr) hh) h
    ·exact h.elim
   ·refine kQ (λj hj=> ?_) h;cases hoj:ops[j]? with
    | none=>rw[hoj] at hj;exact hj.elim
    | some oj =>rw[hoj] at hj;simp only at hj ⊢;refine cE hm (λu m nx hh=> ?_) hj;rw[gV,mA] at hh ⊢;refine⟨λk hk=>hh.1 k ?_,hh.2.1,mQ hm hr hh.2.2⟩;rw[lu] at hk ⊢;obtain⟨p,h1,h2⟩:=hk;exact⟨p,hr _ h1,h2⟩
theorem Ab.symm {x y:Oper}(h:Ab ops x y):Ab ops y x:=⟨h.c,λd hd he=>h.b d he hd,h.a⟩
def Rel (P:Program)(ops:Array Oper)(masks:List Nat)(p i:Nat):Prop :=∃ op oi,ops[p]?=A op/\ops[i]?=A oi/\((masks.getD i 0).testBit p=C∨(masks.getD p 0).testBit i=C∨(ey P op.op=F/\ey P oi.op=F)∨Ab ops op oi)
def MD (P:Program)(ops:Array Oper)(masks:List Nat)(R:List Nat):Prop:=∀ p∈ R,∀ i∈ R,p≠i->Rel P ops masks p i
theorem MD.erase {R:List Nat}(h:MD P ops masks R)(q:Nat):MD P ops masks (R.erase q):=λp hp i hi=>h p (L hp) i (L hi)
def Dg (P:Program)(call:nA->PT)(ops:Array Oper)(masks:List Nat)(n:Nat)(i:Nat)(oi:Oper)(R:List Nat)(rd:List (Nat×Nat))(K:St->VC)(st:St):VC :=
 match ey P oi.op with
 | true=>dF P call ops i oi (cG P call ops masks n R (addKey i (keyOf (ev st.tmps) oi.op) rd) K) st
 | false=>stepG P call ops i oi (jL (masks.getD i 0) rd) (cG P call ops masks n R rd K) st
theorem ac2 (hm: ∀ f,aQ (call f)){K:St->VC}: ∀(n:Nat),
  (∀ {R:List Nat} {rd:List (Nat×Nat)} {st:St} {i:Nat} {oi:Oper},R.length<=n+1->MD P ops masks R->i∈ R->ops[i]?=A oi->(∀ q∈ R,(masks.getD i 0).testBit q=F) ->
    (cG P call ops masks (n+1) R rd K st).holds->(Dg P call ops masks n i oi (R.erase i) rd K st).holds) /\
  (∀ {X:List Nat} {rd:List (Nat×Nat)} {st:St} {q:Nat} {oq:Oper},X.length<=n+1->MD P ops masks X->q∈ X->ops[q]?=A oq->ey P oq.op=C->(∀ p∈ X,(masks.getD q 0).testBit p=F) ->
    (dF P call ops q oq (cG P call ops masks n (X.erase q) (addKey q (keyOf (ev st.tmps) oq.op) rd) K) st).holds->(cG P call ops masks (n+1) X rd K st).holds):=by
 have apart: ∀ {R:List Nat} {q i:Nat} {oq oi:Oper},MD P ops masks R->q∈ R->i∈ R->q≠i->ops[q]?=A oq->ops[i]?=A oi->ey P oq.op=C ->
   (∀ p∈ R,(masks.getD q 0).testBit p=F)->(∀ p∈ R,(masks.getD i 0).testBit p=F)->Ab ops oq oi:=by
  intro R q i oq oi hR hq hi hne hoq hoi hqq h1 h2;obtain⟨op,oi',e1,e2,h⟩:=hR q hq i hi hne;rw[hoq] at e1;injection e1 with e1;subst e1;rw[hoi] at e2;injection e2 with e2;subst e2;rcases h with h | h | h | h
  ·rw[h2 q hq] at h;cases h
  ·rw[h1 i hi] at h;cases h
  ·rw[hqq] at h;cases h.1
  ·exact h
 intro n;induction n with
 | zero =>
   refine⟨λ{R rd st i oi} hl hR hi ho hrd h=> ?_,λ{X rd st q oq} hl hX hq ho hqq hrd h=> ?_⟩
   ·have hR1:R=[i]:=by
     match R,hl,hi with
     | [x],_,hi=>simp only[Y] at hi;rw[hi]
    subst hR1;simp only[cG] at h;split at h
    ·rename_i j hj;obtain⟨g1,g2,_⟩:=qd hj;simp only[Y] at g1;subst g1;simp only[quietAt,ho] at g2;rw[ho] at h;simp only[Dg,g2];exact h
    ·rename_i hj;have hnq:=qc hj i (by simp);have hre:isReady masks (jM [i]) i=true:=jv.2 hrd;simp only[hre,N,quietAt,ho] at hnq;have:=pY h i (by simp only[Dw,a!,quietAt,ho,hnq,hre];simp);rw[ho] at this;simp only[Dg,hnq];exact this
   ·have hX1:X=[q]:=by
     match X,hl,hq with
     | [x],_,hi=>simp only[Y] at hi;rw[hi]
    subst hX1;simp only[cG];have hre:isReady masks (jM [q]) q=true:=jv.2 hrd;simp only[wN,quietAt,ho,hqq,hre,N];exact h
 | succ m ih =>
   obtain⟨ih1,ih2⟩:=ih;refine⟨λ{R rd st i oi} hl hR hi ho hrd h=> ?_,λ{X rd st q oq} hl hX hq ho hqq hrd h=> ?_⟩
   ·obtain⟨x,r,hxr⟩: ∃ x r,R=x::r:=by
     match R,hi with
     | x::r,_=>exact⟨x,r,rfl⟩
    have hdr:cG P call ops masks (m+1+1) R rd K st=(match wN P ops masks (jM R) R with
     | some i=>(match ops[i]? with
       | some o=>dF P call ops i o (cG P call ops masks (m+1) (R.erase i) (addKey i (keyOf (ev st.tmps) o.op) rd) K) st
       | none=>.fail "no operation")
     | none=>mM (λj=>match ops[j]? with
        | some oj=>stepG P call ops j oj (jL (masks.getD j 0) rd) (cG P call ops masks (m+1) (R.erase j) rd K) st
        | none=>.fail "no operation") (Dw P ops masks R)):=by rw[hxr];rfl
    rw[hdr] at h;split at h
    ·rename_i q hq;obtain⟨g1,g2,g3⟩:=qd hq;rw[jv] at g3;cases hoq:ops[q]? with
     | none=>rw[hoq] at h;exact h.elim
     | some oq =>
       rw[hoq] at h;simp only at h;simp only[quietAt,hoq] at g2;by_cases e:q=i
       ·subst e;rw[hoq] at ho;injection ho with ho;subst ho;simp only[Dg,g2];exact h
       ·have hap:=apart hR g1 hi e hoq ho g2 g3 hrd;have hi':i∈ R.erase q:=(W (λx=>e x.symm)).2 hi;have hq':q∈ R.erase i:=(W e).2 g1;have hl1:(R.erase q).length<=m+1:=by rw[V g1];omega
        have hl2:(R.erase i).length<=m+1:=by rw[V hi];omega
        cases hqi:ey P oi.op with
        | true =>
          simp only[Dg,hqi];have hk: ∀ u,keyOf (ev (b8 st.tmps oq.dst u)) oi.op=keyOf (ev st.tmps) oi.op:=λu=>lq (iL hap.a).ev
          have h1:(dF P call ops q oq (dF P call ops i oi (cG P call ops masks m ((R.erase q).erase i) (addKey i (keyOf (ev st.tmps) oi.op) (addKey q (keyOf (ev st.tmps) oq.op) rd)) K)) st).holds :=
           cE hm (λu m' nx' hh=>by have:=ih1 hl1 (hR.erase q) hi' ho (λp hp=>hrd p (L hp)) hh;simp only[Dg,hqi,hk] at this;exact this) h
          have h2:=DX g2 hqi hap h1;refine cE hm (λu m' nx' hh=> ?_) h2;refine ih2 hl2 (hR.erase i) hq' hoq g2 (λp hp=>g3 p (L hp)) ?_;have hk2:keyOf (ev (b8 st.tmps oi.dst u)) oq.op=keyOf (ev st.tmps) oq.op:=lq (iL hap.c).ev;simp only[hk2];rw[ag];exact cE hm (λu m' nx' hh=>mQ hm Af hh) hh
        | false =>
          simp only[Dg,hqi]
          have h1:(dF P call ops q oq (stepG P call ops i oi (jL (masks.getD i 0) (addKey q (keyOf (ev st.tmps) oq.op) rd)) (cG P call ops masks m ((R.erase q).erase i) (addKey q (keyOf (ev st.tmps) oq.op) rd) K)) st).holds :=
           cE hm (λu m' nx' hh=>by have:=ih1 hl1 (hR.erase q) hi' ho (λp hp=>hrd p (L hp)) hh;simp only[Dg,hqi] at this;exact this) h
          have h2:=TM hm g2 hqi hap (H:=jL (masks.getD i 0) rd) (λk hk=>by
            rw[lu] at hk ⊢;obtain⟨p,y1,y2⟩:=hk;exact⟨p,MF _ y1,y2⟩) (λk hk=>by
            rw[lu,hk];exact⟨q,by simp[addKey],hrd q g1⟩) h1
          unfold stepG at h2 ⊢;refine cE hm (λu m' nx' hh=> ?_) h2;rw[gV,mA] at hh ⊢;refine⟨hh.1,hh.2.1,?_⟩;refine ih2 hl2 (hR.erase i) hq' hoq g2 (λp hp=>g3 p (L hp)) ?_;have hk2:keyOf (ev (b8 st.tmps oi.dst u)) oq.op=keyOf (ev st.tmps) oq.op:=lq (iL hap.c).ev;simp only[hk2];rw[ag];exact hh.2.2
    ·rename_i hj;have hnq:=qc hj i hi;have hre:isReady masks (jM R) i=true:=jv.2 hrd;simp only[hre,N,quietAt,ho] at hnq;have:=pY h i (by unfold Dw;rw[a!];refine⟨hi,?_⟩;simp only[quietAt,ho,hnq,hre];rfl);rw[ho] at this;simp only[Dg,hnq];exact this
   ·obtain⟨y,r,hxr⟩: ∃ x r,X=x::r:=by
     match X,hq with
     | x::r,_=>exact⟨x,r,rfl⟩
    have hdr:cG P call ops masks (m+1+1) X rd K st=(match wN P ops masks (jM X) X with
     | some i=>(match ops[i]? with
       | some o=>dF P call ops i o (cG P call ops masks (m+1) (X.erase i) (addKey i (keyOf (ev st.tmps) o.op) rd) K) st
       | none=>.fail "no operation")
     | none=>mM (λj=>match ops[j]? with
        | some oj=>stepG P call ops j oj (jL (masks.getD j 0) rd) (cG P call ops masks (m+1) (X.erase j) rd K) st
        | none=>.fail "no operation") (Dw P ops masks X)):=by rw[hxr];rfl
    rw[hdr];split
    ·rename_i x hx;obtain⟨g1,g2,g3⟩:=qd hx;rw[jv] at g3;have hox: ∃ ox,ops[x]?=A ox/\ey P ox.op=true:=by
      unfold quietAt at g2;split at g2
      ·rename_i ox hox;exact⟨ox,hox,g2⟩
      ·cases g2
     obtain⟨ox,hox,hqx⟩:=hox;rw[hox];simp only;by_cases e:x=q
     ·subst e;rw[hox] at ho;injection ho with ho;subst ho;exact h
     ·have hap:=apart hX hq g1 (λh=>e h.symm) ho hox hqq hrd g3;have hx':x∈ X.erase q:=(W e).2 g1;have hq':q∈ X.erase x:=(W (λh=>e h.symm)).2 hq;have hl1:(X.erase q).length<=m+1:=by rw[V hq];omega
      have hl2:(X.erase x).length<=m+1:=by rw[V g1];omega
      have hk: ∀ u,keyOf (ev (b8 st.tmps oq.dst u)) ox.op=keyOf (ev st.tmps) ox.op:=λu=>lq (iL hap.a).ev
      have h1:(dF P call ops q oq (dF P call ops x ox (cG P call ops masks m ((X.erase q).erase x) (addKey x (keyOf (ev st.tmps) ox.op) (addKey q (keyOf (ev st.tmps) oq.op) rd)) K)) st).holds :=
       cE hm (λu m' nx' hh=>by have:=ih1 hl1 (hX.erase q) hx' hox (λp hp=>g3 p (L hp)) hh;simp only[Dg,hqx,hk] at this;exact this) h
      have h2:=DX hqq hqx hap h1;refine cE hm (λu m' nx' hh=> ?_) h2;refine ih2 hl2 (hX.erase x) hq' ho hqq (λp hp=>hrd p (L hp)) ?_;have hk2:keyOf (ev (b8 st.tmps ox.dst u)) oq.op=keyOf (ev st.tmps) oq.op:=lq (iL hap.c).ev;simp only[hk2];rw[ag];exact cE hm (λu m' nx' hh=>mQ hm Af hh) hh
    ·rename_i hj;have hnq:=qc hj q hq;have hre:isReady masks (jM X) q=true:=jv.2 hrd;simp only[hre,N,quietAt,ho,hqq] at hnq;cases hnq
end
end
end Sx
end Go.Proofs.YtoibaecagklkaaaGreatDoor
