/-
  The framework's twelfth part: one operation of a region; a region in the text's order.
-/
import Derived.Test.YtoibaecagklkaaaGreatDoorMf
open Array renaming getElem?_setIfInBounds->aA
open Bool renaming and_eq_true->J,and_true->N,false->F,or_eq_true->aK,true->C
open Go.Call renaming operands->O
open Go.Op renaming operands->M
open List renaming erase_comm->ag,getElem?_set->aS,length_erase_of_mem->V,mem_append->an,mem_cons->I,mem_cons_of_mem->a_,mem_erase_of_ne->W,mem_filter->a!,mem_of_mem_erase->L,mem_singleton->Y,set_cons_zero->bh
open Nat renaming beq->az,land->bl,le_refl->Z,le_trans->S,lt_of_lt_of_le->T,testBit_and->bn,testBit_or->b5,zero_testBit->b6
open Option renaming none->G,some->A
namespace Go.Proofs.YtoibaecagklkaaaGreatDoor
open Go Sx
variable {a:Act}{ops:Array Oper}{K K':KL}{rd:List (Nat×Nat)}{tmps tmps':List (Option SV)}{masks:List Nat}{m:Mem}{i j nx nx':Nat}{E:Nat->Nat}{o:Oper}{σ σ':Operand->Option SV}{dst k:Option Nat}{v x:Option SV}{KP:PK}{P:Program}{t:TypeId}{w:World}{Γ:bg}{call:mF->PT}
namespace Sx
open Go
noncomputable section
structure St where
 tmps:List (Option SV)
 m:Mem
 nx:Nat
def slot (tmps:List (Option SV))(i:Nat):Option SV :=
 match tmps,i with
 | [],_=>G
 | v::_,0=>v
 | _::r,i+1=>slot r i
theorem m5: ∀ {tmps:List (Option SV)} {i:Nat} {v:SV},slot tmps i=A v->tmps[i]?=A (A v)
 | [],_,_,h=>by simp[slot] at h
 | x::_,0,v,h=>by simp[slot] at h;simp[h]
 | _::r,i+1,v,h=>by simp[slot] at h;simpa using m5 h
def ev (tmps:List (Option SV)):Operand->Option SV
 | .tmp i=>slot tmps i
 | .const v=>SV.ofConst v
 | .global g=>A (.raw (.pointer (A ⟨g,0,G⟩)))
 | .func f=>A (.func (.func f) [] [])
def dw (nx:Nat):List (Option SV)->Bool
 | []=>C
 | none::r=>dw nx r
 | some v::r=>v.wf nx&&dw nx r
theorem jS {nx:Nat}: ∀ {l:List (Option SV)},dw nx l=C->∀ {i:Nat} {v:SV},l[i]?=A (A v)->v.wf nx=C
 | none::r,h,0,v,hv=>by simp at hv
 | some x::r,h,0,v,hv=>by simp at hv;subst hv;simp only[dw,J] at h;exact h.1
 | none::r,h,i+1,v,hv=>jS (l:=r) (by simpa [dw] using h) (i:=i) (by simpa using hv)
 | some x::r,h,i+1,v,hv=>jS (l:=r) (by simp only[dw,J] at h;exact h.2) (i:=i) (by simpa using hv)
structure cP (E:Nat->Nat)(tmps:List (Option SV))(a:Act):Prop where
 size:a.tmps.size=tmps.length
 val: ∀(i:Nat) (v:SV),tmps[i]?=A (A v)->a.tmps[i]?=A (v.val E)
theorem cP.reads (h:cP E tmps a):Reads E (ev tmps) a.eval:=by
 intro x v hx;cases x with
 | tmp i =>have:=h.val i v (m5 hx);simp[Act.eval,Array.getD_eq_getD_getElem?,this]
 | const c=>exact(SV.yQ hx).symm
 | global g=>simp[ev] at hx;subst hx;rfl
 | func f=>simp[ev] at hx;subst hx;rfl
theorem cP.wf (h:dw nx tmps=C):WfS nx (ev tmps):=by
 intro x v hx;cases x with
 | tmp i=>exact jS h (m5 hx)
 | const c=>exact Bq hx
 | global g=>simp[ev] at hx;subst hx;rfl
 | func f=>simp[ev] at hx;subst hx;rfl
theorem cP.congr {E':Nat->Nat}(h:cP E tmps a)(hw:dw nx tmps=C)(hE: ∀ k,k<nx->E' k=E k):cP E' tmps a :=⟨h.size,λi v hv=>by rw[SV.val_congr hE v (jS hw hv)];exact h.val i v hv⟩
def ct (tmps:List (Option SV))(dst:Option Nat)(v:Option SV):List (Option SV) :=
 match dst with
 | none=>tmps
 | some d=>tmps.set d v
theorem cP.put (h:cP E tmps a){sv:Option SV}{r:Value}(hr: ∀ v,sv=A v->r=v.val E) :
  cP E (ct tmps dst sv) (a.put dst r):=by
 cases dst with
 | none=>exact h
 | some d =>
   refine⟨by simp[Act.put,ct,h.size],λi v hv=> ?_⟩;simp only[ct] at hv;rw[aS] at hv;simp only[Act.put];rw[aA];split at hv
   ·rename_i e;subst e;split at hv
    ·rename_i hlt;injection hv with hv;rw[if_pos rfl,if_pos (by rw[h.size];exact hlt),hr v hv]
    ·cases hv
   ·rename_i e;rw[if_neg e];exact h.val i v hv
theorem pN {nx:Nat}: ∀ {l:List (Option SV)} {d:Nat} {v:Option SV},dw nx l=C->(∀ u,v=A u->u.wf nx=C)->dw nx (l.set d v)=C
 | [],_,_,h,_=>h
 | none::r,0,G,h,hv=>h
 | none::r,0,A u,h,hv=>by simp only[bh,dw,J];exact⟨hv u rfl,h⟩
 | some x::r,0,G,h,hv=>by simp only[dw,J] at h;exact h.2
 | some x::r,0,A u,h,hv=>by simp only[dw,J,bh] at h ⊢;exact⟨hv u rfl,h.2⟩
 | none::r,d+1,v,h,hv=>pN (l:=r) h hv
 | some x::r,d+1,v,h,hv=>by simp only[dw,J,List.set_cons_succ] at h ⊢;exact⟨h.1,pN h.2 hv⟩
theorem i9 {n m:Nat}(h:n<=m): ∀ {l:List (Option SV)},dw n l=C->dw m l=C
 | [],_=>rfl
 | none::r,hl=>i9 h (l:=r) hl
 | some x::r,hl=>by simp only[dw,J] at hl ⊢;exact⟨SV.fE h x hl.1,i9 h hl.2⟩
theorem jw {l:List (Option SV)}(h:dw nx l=C)(hv: ∀ u,v=A u->u.wf nx=C):dw nx (ct l dst v)=true:=by
 cases dst with
 | none=>exact h
 | some d=>exact pN h hv
def wfO (nx:Nat):Option SV->Bool
 | none=>C
 | some v=>v.wf nx
theorem WO (h:wfO nx v=C): ∀ u,v=A u->u.wf nx=true:=by rintro u rfl;exact h
def xE (D:Nat):Deferred:={target:=.collected D,args:=#[]}
def Marks (Γ:bg)(ds:List Deferred)(w:World):Prop :=∃ Ds:List Nat,ds=Ds.map xE++Γ.tail/\Ds.Nodup/\(∀ D∈ Ds,w.heap[D]?=A (.deferred (A []))/\D∉ Γ.keep/\Γ.w0.heap.size<=D)/\(Γ.rf=F->Ds=[])
theorem Marks.nil (Γ:bg)(w:World)(ht:Γ.tail=[]):Marks Γ [] w:=⟨[],by rw[ht];rfl,List.nodup_nil,(λD h=>by cases h),λ_=>rfl⟩
structure Sat (Γ:bg)(E:Nat->Nat)(st:St)(a:Act)(w:World):Prop where
 tm:cP E st.tmps a
 wt:dw st.nx st.tmps=C
 df:Marks Γ a.defers w
 mm:aO Γ E st.m st.nx w
theorem aO.weaken {Δ:bg}(hle:Γ.le Δ)(h:aO Δ E m nx w):aO Γ E m nx w :=
 ⟨h.gD,h.iq,h.lt,λk B a hk hn hr=>by have:=h.iM k B a hk hn hr;rw[hle.m,hle.w] at this;exact this,by have:=h.ext;rw[hle.m,hle.w] at this;exact this,
  ⟨S hle.nx h.cx.1,λk hk=>(h.cx.2 k (T hk hle.nx)).trans (hle.e k hk)⟩,λD hD=>h.kp D (hle.keep D hD)⟩
def bg.more (Γ:bg)(Ds:List Nat):bg:={Γ with keep:=Ds++Γ.keep}
theorem bg.FE (Γ:bg)(Ds:List Nat):Γ.le (Γ.more Ds):=⟨rfl,rfl,Z _,λ_ _=>rfl,λ_D h=>List.mem_append_right _ h⟩
theorem aO.more (h:aO Γ E m nx w){Ds:List Nat}(hD: ∀ D∈ Ds,w.heap[D]?=A (.deferred (A []))):aO (Γ.more Ds) E m nx w :=⟨h.gD,h.iq,h.lt,h.iM,h.ext,h.cx,λD hm=>by rcases an.1 hm with h1 | h1;exact hD D h1;exact h.kp D h1⟩
theorem Marks.kept {Ds:List Nat}{ds:List Deferred}(he:ds=Ds.map xE++Γ.tail)(hn:Ds.Nodup)(hk: ∀ D∈ Ds,D∉ Γ.keep/\Γ.w0.heap.size<=D)(hrf:Γ.rf=F->Ds=[])(h:aO (Γ.more Ds) E m nx w):Marks Γ ds w :=⟨Ds,he,hn,λD hD=>⟨h.kp D (List.mem_append_left _ hD),hk D hD⟩,hrf⟩
def guardOf (ops:Array Oper)(o:Oper)(tmps:List (Option SV)):Option Bool :=
 match o.guard with
 | none=>A C
 | some (j,want)=>(match ops[j]? with
   | some oj=>(match oj.dst with
     | some d=>(match slot tmps d with
       | some (.bool C b)=>A (b==want)
       | some (.aD [])=>A F
       | _=>G)
     | none=>G)
   | none=>G)
theorem qt (h:cP E tmps a){b:Bool}(hg:guardOf ops o tmps=A b) :
  Region.wanted o (yielded ops a.tmps)=b:=by
 unfold guardOf at hg;unfold Region.wanted;split at hg
 ·rename_i e;rw[e];injection hg
 ·rename_i j want e;rw[e];split at hg
  ·rename_i oj hj;split at hg
   ·rename_i d hd;split at hg
    ·rename_i c hc;have:=h.val d _ (m5 hc);injection hg with hg;subst hg;simp[yielded,hj,hd,this,SV.val]
    ·rename_i hc;have:=h.val d _ (m5 hc);injection hg with hg;subst hg;simp[yielded,hj,hd,this,SV.val]
    ·cases hg
   ·cases hg
  ·cases hg
def oR (ops:Array Oper)(j:Nat):Bool:=ops.toList.any λo=>match o.guard with
 | some (i,_)=>az i j
 | none=>F
def Mn (g:Bool)(v:Option SV)(nx:Nat)(k:Option SV->VC):VC :=
 match g,v with
 | true,A (.bool F b)=>fork b (λc=>k (A (.bool C c)))
 | _,v=>match wfO nx v with
   | true=>k v
   | false=>.fail "a key out of bounds"
def Qq (g:Bool)(dst:Option Nat)(v:Option SV)(tmps:List (Option SV))(m:Mem)(nx:Nat)(K:St->VC):VC :=Mn g v nx (λv=>K ⟨ct tmps dst v,m,nx⟩)
theorem vE (g:Bool)(v:Option SV)(nx:Nat): ∃(p:Prop) (u:Option SV),(∀ k,(Mn g v nx k).holds↔p/\(k u).holds)/\(p->wfO nx u=C)/\(∀(E:Nat->Nat) (r:Value),(∀ x,v=A x->r=x.val E)->∀ x,u=A x->r=x.val E):=by
 unfold Mn;split
 ·rename_i b;exact⟨True,A (.bool C b),λk=>by rw[c9];exact⟨λh=>⟨trivial,h⟩,λh=>h.2⟩,λ_=>rfl,λE r h x hx=>by injection hx with hx;subst hx;exact h (.bool F b) rfl⟩
 ·cases hw:wfO nx v with
  | true=>exact⟨True,v,λk=>⟨λh=>⟨trivial,h⟩,λh=>h.2⟩,λ_=>hw,λE r h=>h⟩
  | false=>exact⟨False,G,λk=>⟨λh=>h.elim,λh=>h.1.elim⟩,λh=>h.elim,λE r h x hx=>by cases hx⟩
def lop (P:Program)(call:mF->PT)(σ:Operand->Option SV)(m:Mem)(nx:Nat)(o:Op)(K:KL):VC :=
 match o with
 | .alloc t=>(match fX P t with
   | some z=>FU t z m nx K
   | none=>.fail "alloc")
 | .box t x=>need (σ x) (λv=>FU t v m nx K)
 | .buildSlice t len parts=>ku P σ t len parts.toList m nx K
 | .makeSlice t x y=>need (σ x) (λa=>need (σ y) (λb=>yN P t a b m nx K))
 | .store t a x=>nh P t (σ a) (σ x) m nx K
 | .call c=>yM P call σ c m nx K
 | .makeMap t r=>vp P t (r.map σ) m nx K
 | .mapUpdate t x k v=>gI P t (σ x) (σ k) (σ v) m nx K
 | .insert t x k v=>gI P t (σ x) (σ k) (σ v) m nx K
 | .mapEntry t x k=>rZ P t (σ x) (σ k) m nx K
 | .entryStore _ x s v=>mQ (σ x) (σ s) (σ v) m nx K
 | .range t x=>FV P t (σ x) m nx K
 | .next x b=>NY (σ x) b m nx K
 | .panic x=>xD call (σ x) m nx
 | _=>.fail "no such operation"
theorem abv (hcall: ∀ c,pW P Γ KP c (call c))(o:Oper):Xb P Γ KP σ m nx o (lop P call σ m nx o.op):=by
 obtain⟨dst,op,type,pos,after,guard⟩:=o;cases op
 case alloc t=>exact pX.sH Pw
 case box t x=>exact pX.sH XX
 case buildSlice t len parts=>exact pX.sH AU
 case makeSlice t x y=>exact pX.sH UC
 case store t a x=>exact pX.sH DK
 case call c=>exact Ua hcall
 case makeMap t r=>exact pX.sH Ih
 case mapUpdate t x k v=>exact pX.sH sX
 case insert t x k v=>exact pX.sH Ln
 case mapEntry t x k=>exact pX.sH FT
 case entryStore t x s v=>exact pX.sH AZ
 case range t x=>exact pX.sH PY
 case next x b=>exact pX.sH UD
 case panic x=>exact PX hcall
 all_goals exact pX.sH (pX.fail _)
def dz (P:Program)(call:mF->PT)(ops:Array Oper)(j:Nat)(o:Oper)(K:St->VC)(st:St):VC :=
 match guardOf ops o st.tmps with
 | some C=>(match dQ P o.op with
   | true=>qop P (λk=>st.m.get k) (ev st.tmps) o.op (λv=>Qq (oR ops j) o.dst v st.tmps st.m st.nx K)
   | false=>(match Mem.wf st.nx st.m with
     | true=>lop P call (ev st.tmps) st.m st.nx o.op (λv m nx=>Qq (oR ops j) o.dst v st.tmps m nx K)
     | false=>.fail "a key out of bounds"))
 | some F=>K ⟨ct st.tmps o.dst (A (.aD [])),st.m,st.nx⟩
 | none=>.fail "a guard that is not known"
def iK (K:St->VC)(Γ:bg)(E:Nat->Nat)(nx:Nat)(a:Act)(w:World):Prop :=∃ E' st',(∀ k,k<nx->E' k=E k)/\nx<=st'.nx/\Sat Γ E' st' a w/\(K st').holds
theorem iK.trans {K K':St->VC}(h:iK K Γ E nx a w)
  (hk: ∀ E' st',nx<=st'.nx->Sat Γ E' st' a w->(K st').holds->iK K' Γ E' st'.nx a w):iK K' Γ E nx a w:=by
 obtain⟨E',st',h1,h2,h3,h4⟩:=h;obtain⟨E'',st'',k1,k2,k3,k4⟩:=hk E' st' h2 h3 h4;exact⟨E'',st'',λk hk=>(k1 k (T hk h2)).trans (h1 k hk),S h2 k2,k3,k4⟩
theorem tZ {K:St->VC}{g:Bool}{sv:Option SV}{r:Value}
  (h:(Qq g dst sv tmps m nx K).holds) (ht:cP E tmps a) (hw:dw nx tmps=C) (hd:Marks Γ a.defers w) (hm:aO Γ E m nx w) (hr: ∀ v,sv=A v->r=v.val E) :
  iK K Γ E nx (a.put dst r) w:=by
 have hdf:Marks Γ (a.put dst r).defers w:=by cases dst<;>exact hd
 obtain⟨p,u,h1,h2,h3⟩:=vE g sv nx;obtain⟨hp,hk⟩:=(h1 _).1 h;exact⟨E,_,λ_ _=>rfl,Z _,⟨ht.put (h3 E r hr),jw hw (WO (h2 hp)),hdf,hm⟩,hk⟩
theorem Cu (h:dQ P o.op=C):oV o=true:=by unfold oV;cases ho:o.op<;>first | rfl | (rw[ho] at h;cases h)
theorem Im (h:(lop P call σ m nx o.op K).holds):oV o=true:=by unfold oV;cases ho:o.op<;>first | rfl | (rw[ho] at h;exact h.elim)
def kZ (KP:PK)(Γ:bg)(E:Nat->Nat)(nx:Nat)(e:Exit)(a:Act)(w:World):Prop :=∃ ch,e=.panic ch/\Marks Γ a.defers w/\ij KP Γ E nx ch w
theorem pG {ro:Option Nat}(hcall: ∀ c,pW P Γ KP c (call c)){K:St->VC}{st:St}(h:(dz P call ops j o K st).holds)
     (hs:Sat Γ E st a w) (Q:Exit->Act->World->Prop) (hP: ∀ e w,kZ KP Γ E st.nx e a w->Q e a w) :
  if Region.wanted o (yielded ops a.tmps)then o.wpIn (Fr ro) 0 P a w (λa' w'=>(∃ r,a'=a.put o.dst r)/\iK K Γ E st.nx a' w') Q else iK K Γ E st.nx (a.put o.dst undef) w:=by
 unfold dz at h;split at h
 ·rename_i hg;rw[qt hs.tm hg,if_pos rfl];split at h
  ·rename_i hq;obtain⟨obl,sv,h1,h2⟩:=Gg (P:=P) (look:=λk=>st.m.get k) (σ:=ev st.tmps) o;obtain⟨hobl,hk⟩:=(h1 _).1 h;obtain⟨r,hrun,hv⟩:=h2 E w a.eval ⟨hs.mm.ny,hs.mm.Az,hs.mm.gD⟩ hs.tm.reads hobl;refine Out.wp (Cu hq) (R:=λv w'=>w'=w/\v=r) (RP:=λ_ _=>False) ?_ ?_ (λ_ _ h=>h.elim)
   ·rw[hrun];exact⟨rfl,rfl⟩
   ·rintro v w' ⟨rfl,rfl⟩;exact⟨⟨_,rfl⟩,tZ hk hs.tm hs.wt hs.df hs.mm hv⟩
  ·split at h
   ·rename_i hwf;obtain⟨Ds,d1,d2,d3,d4⟩:=hs.df;have hm:=hs.mm.more λD hD=>(d3 D hD).1;have:=abv (λc=>(hcall c).mono (Γ.FE Ds)) o _ E w a.eval h hm hwf (cP.wf hs.wt) hs.tm.reads;refine Out.wp (Im h) this ?_ ?_
    rotate_left
    ·rintro ch w' ⟨E',v,m',nx',g1,g2,g3,gw,g4,g5⟩;exact hP _ _ ⟨ch,rfl,Marks.kept d1 d2 (λD hD=>(d3 D hD).2) d4 g4,E',v,m',nx',g1,g2,g3,gw,g4.weaken (Γ.FE Ds),g5⟩
    rintro r w' ⟨E',sv,m',nx',g1,g2,g3,g4,g5⟩;have ht:=hs.tm.congr hs.wt g1;obtain⟨E'',st',k1,k2,k3,k4⟩:=tZ g5 ht (i9 g2 hs.wt) (Marks.kept d1 d2 (λD hD=>(d3 D hD).2) d4 g4) (g4.weaken (Γ.FE Ds)) g3;exact⟨⟨_,rfl⟩,E'',st',λk hk=>(k1 k (T hk g2)).trans (g1 k hk),S g2 k2,k3,k4⟩
   ·exact h.elim
 ·rename_i hg;rw[qt hs.tm hg];simp only[Bool.false_eq_true,if_false];exact⟨E,⟨ct st.tmps o.dst (A (.aD [])),st.m,st.nx⟩,λ_ _=>rfl,Z _,⟨hs.tm.put (sv:=A (.aD [])) (r:=undef) (λv hv=>by injection hv with hv;subst hv;rfl),jw hs.wt (λu hu=>by injection hu with hu;subst hu;rfl),by cases o.dst<;>exact hs.df,hs.mm⟩,h⟩
 ·exact h.elim
def iQ (P:Program)(call:mF->PT)(ops:Array Oper):List Nat->(St->VC)->St->VC
 | [],K,st=>K st
 | j::r,K,st=>match ops[j]? with
   | some o=>dz P call ops j o (iQ P call ops r K) st
   | none=>.fail "no operation"
def unsure (ops:Array Oper)(tmps:List (Option SV)):List (Option SV):=ops.toList.foldl (λt o=>ct t o.dst G) tmps
theorem GB {d:Option Nat}{v:SV}(h:(ct tmps d G)[i]?=A (A v)):tmps[i]?=A (A v)/\d≠A i:=by
 cases d with
 | none=>exact⟨h,λe=>by cases e⟩
 | some d =>
   simp only[ct,aS] at h;split at h
   ·split at h<;>cases h
   ·rename_i e;exact⟨h,λx=>e (by injection x)⟩
theorem B7 {v:SV}(h:(unsure ops tmps)[i]?=A (A v)):tmps[i]?=A (A v)/\∀ o∈ ops.toList,o.dst≠A i:=by
 unfold unsure at h;generalize ops.toList=l at h;induction l generalizing tmps with
 | nil=>exact⟨h,λo ho=>by cases ho⟩
 | cons x r ih =>obtain⟨h1,h2⟩:=ih h;obtain⟨h3,h4⟩:=GB h1;exact⟨h3,λo ho=>by rcases I.1 ho with rfl | ho;exact h4;exact h2 o ho⟩
theorem MY :(unsure ops tmps).length=tmps.length:=by
 unfold unsure;generalize ops.toList=l;induction l generalizing tmps with
 | nil=>rfl
 | cons x r ih =>rw[List.foldl_cons,ih];cases x.dst<;>simp[ct]
theorem cP.unsure {E:Nat->Nat}{ops:Array Oper}{tmps:List (Option SV)}{a:Act}(h:cP E tmps a):cP E (unsure ops tmps) a :=⟨by rw[MY];exact h.size,λi v hv=>h.val i v (B7 hv).1⟩
theorem cP.uB (h:cP E (Sx.unsure ops tmps) a)(ho:o∈ ops.toList)(r:Value):cP E (Sx.unsure ops tmps) (a.put o.dst r):=by
 cases hd:o.dst with
 | none=>exact h
 | some d =>refine⟨by simp[Act.put,h.size],λi v hv=> ?_⟩;simp only[Act.put];rw[aA,if_neg (λe=>(B7 hv).2 o ho (by rw[hd,e]))];exact h.val i v hv
theorem Ej (h:dw nx tmps=C):dw nx (unsure ops tmps)=true:=by
 unfold unsure;generalize ops.toList=l;induction l generalizing tmps with
 | nil=>exact h
 | cons x r ih=>exact ih (jw h λu hu=>by cases hu)
theorem kZ.weaken {E':Nat->Nat}{e:Exit}(h:kZ KP Γ E' nx' e a w)(hE: ∀ k,k<nx->E' k=E k)(hn:nx<=nx'):kZ KP Γ E nx e a w:=by obtain⟨ch,h1,h2,h3⟩:=h;exact⟨ch,h1,h2,h3.weaken hE hn⟩
theorem vT {P:Program}{Γ:bg}{ro:Option Nat}{KP:PK}{call:mF->PT}(hcall: ∀ c,pW P Γ KP c (call c)){ops:Array Oper}{Q:Exit->Act->World->Prop}{K:St->VC}{E0:Nat->Nat}{uF:Nat}{T0:List (Option SV)}(hT0:dw uF T0=C)
  (hP: ∀ e a w,cP E0 (unsure ops T0) a->kZ KP Γ E0 uF e a w->Q e a w) :
  ∀(l:List Nat) {st:St} {E:Nat->Nat} {a:Act} {w:World},(iQ P call ops l K st).holds->Sat Γ E st a w->cP E0 (unsure ops T0) a->(∀ k,k<uF->E k=E0 k)->uF<=st.nx ->
   (∀ a w,iK K Γ E st.nx a w->Q .normal a w)->wpOpsIn (Fr ro) 0 P ops Q l a w
 | [],st,E,a,w,h,hs,_,_,_,hQ=>hQ _ _ ⟨E,st,λ_ _=>rfl,Z _,hs,h⟩
 | j::r,st,E,a,w,h,hs,hF,hE0,hn0,hQ=>by
   rw[wpOpsIn_cons];unfold wpOpIn;simp only[iQ] at h;cases ho:ops[j]? with
   | none=>rw[ho] at h;exact h.elim
   | some o =>
     rw[ho] at h;simp only;have hmem:o∈ ops.toList:=by rw[← Array.getElem?_toList] at ho;exact List.mem_of_getElem? ho
     have hstep:=pG (ro:=ro) hcall h hs Q (λe w hb=>hP e a w hF (hb.weaken hE0 hn0));have go: ∀ a' w',((∃ r,a'=a.put o.dst r)/\iK (iQ P call ops r K) Γ E st.nx a' w')->wpOpsIn (Fr ro) 0 P ops Q r a' w':=by rintro a' w' ⟨⟨rr,ha⟩,E',st',g1,g2,g3,g4⟩;refine vT hcall hT0 hP r g4 g3 (ha▸ cP.uB hF hmem rr) (λk hk=>(g1 k (T hk hn0)).trans (hE0 k hk)) (S hn0 g2) λa'' w'' hb=>hQ a'' w'' ?_;obtain⟨E'',st'',k1,k2,k3,k4⟩:=hb;exact⟨E'',st'',λk hk=>(k1 k (T hk g2)).trans (g1 k hk),S g2 k2,k3,k4⟩
     split
     ·rename_i hw;rw[if_pos hw] at hstep;exact Oper.wpIn_mono go hstep
     ·rename_i hw;rw[if_neg hw] at hstep;exact⟨p7 ro,go _ _ ⟨⟨_,rfl⟩,hstep⟩⟩
theorem rG {σ σ':Operand->Option SV}: ∀ {l:List Operand},(∀ x∈ l,σ x=σ' x)->E5 σ l=E5 σ' l
 | [],_=>rfl
 | x::r,h=>by simp only[E5];rw[h x (by simp),rG λy hy=>h y (by simp[hy])]
theorem ni {σ σ':Operand->Option SV}: ∀ {l:List (Nat×Operand)},(∀ p∈ l,σ p.2=σ' p.2)->partsOf σ l=partsOf σ' l
 | [],_=>rfl
 | (i,x)::r,h=>by simp only[partsOf];rw[h (i,x) (by simp),ni λp hp=>h p (by simp[hp])]
theorem qd {d:Bool×Int}{x:Option Operand}(h: ∀ y,x=A y->σ y=σ' y):bound σ d x=bound σ' d x:=by
 cases x with
 | none=>rfl
 | some y=>simp only[bound,h y rfl]
def keyOf (σ:Operand->Option SV):Op->Option Nat
 | .load _ a=>(match σ a with
   | some (.ptr key _ _)=>A key
   | some (.kN key _ _ _)=>A key
   | some (.iD key _ _ _ _)=>A key
   | some (.oB key _ _ _)=>A key
   | some (.fY key _ _)=>A key
   | some (.m8 key _ _ _ _)=>A key
   | _=>G)
 | .convert _ _ a=>(match σ a with
   | some (.slc key _ _ _ _)=>A key
   | some (.bx key _ _ _ _ _)=>A key
   | _=>G)
 | .lookup _ x _ _=>(match σ x with
   | some (.map key)=>A key
   | _=>G)
 | .call c=>(match c.args.toList with
   | [x]=>(match σ x with
     | some (.map key)=>A key
     | _=>G)
   | _=>G)
 | _=>G
theorem Qx {look look':k5}{o:Op}{K:Option SV->VC}(h: ∀ x∈ o.operands,σ x=σ' x)(hl: ∀ k,keyOf σ o=A k->look k=look' k) :
  qop P look σ o K=qop P look' σ' o K:=by
 cases o<;>simp only[M] at h<;>simp only[qop]
 case move x=>rw[h x (by simp)]
 case assign x=>rw[h x (by simp)]
 case pick c a b=>rw[h c (by simp),h a (by simp),h b (by simp)]
 case load t a =>
  simp only[keyOf] at hl;rw[h a (by simp)] at hl ⊢;unfold Og;cases P.underlying t with
  | none=>rfl
  | some d =>
    simp only;split
    ·rename_i key o hx;rw[hx] at hl;rw[hl key rfl]
    ·rename_i key w i k hx;rw[hx] at hl;rw[hl key rfl]
    ·rename_i key w o i k hx;rw[hx] at hl;rw[hl key rfl]
    ·rename_i key base n i hx;rw[hx] at hl;rw[hl key rfl]
    ·rfl
    ·rename_i key b o hx;rw[hx] at hl;rw[hl key rfl]
    ·rename_i key w b i k hx;rw[hx] at hl;rw[hl key rfl]
    ·rfl
 case nilCheck x=>rw[h x (by simp)]
 case binOp op t x y yt=>rw[h x (by simp),h y (by simp)]
 case unOp op t x=>rw[h x (by simp)]
 case convert s d x =>
  simp only[keyOf] at hl;rw[h x (by simp)] at hl ⊢;cases hx:σ' x with
  | none=>rfl
  | some a =>
    simp only[need,Ge];split
    ·unfold Mq;split
     ·rfl
     ·rename_i key o n cl c;rw[hx] at hl;rw[hl key rfl]
     ·rename_i key i n c;rw[hx] at hl;rw[hl key rfl]
     ·rfl
    ·rfl
 case makeInterface t x=>rw[h x (by simp)]
 case makeFunc fn a b =>rw[rG (l:=a.toList) λx hx=>h x (by simp;exact .inl (by simpa using hx)),rG (l:=b.toList) λx hx=>h x (by simp;exact .inr (by simpa using hx))]
 case slice t x lo hi mx =>
  have hx:=h x (by simp);have hlo: ∀ d,bound σ d lo=bound σ' d lo:=λd=>qd λy hy=>h y (by simp[hy]);have hhi: ∀ d,bound σ d hi=bound σ' d hi:=λd=>qd λy hy=>h y (by simp[hy]);have hmx: ∀ d,bound σ d mx=bound σ' d mx:=λd=>qd λy hy=>h y (by simp[hy]);unfold Gj;rw[hx];have e1: ∀ l s,n6 σ l s lo hi K=n6 σ' l s lo hi K:=λ_ _=>by simp only[n6,hlo,hhi]
  have e2: ∀ m a key o n cl c,jM σ m a key o n cl c lo hi K=jM σ' m a key o n cl c lo hi K:=λ_ _ _ _ _ _ _=>by simp only[jM,hlo,hhi]
  have e3: ∀ key w i n c,jK σ key w i n c lo hi K=jK σ' key w i n c lo hi K:=λ_ _ _ _ _=>by simp only[jK,hlo,hhi]
  have e7: ∀ key w o i n c,me σ key w o i n c lo hi K=me σ' key w o i n c lo hi K:=λ_ _ _ _ _ _=>by simp only[me,hlo,hhi]
  have e4: ∀ key o n,nZ σ key o n lo hi K=nZ σ' key o n lo hi K:=λ_ _ _=>by simp only[nZ,hlo,hhi]
  have e5: ∀ n,rY σ n lo hi=rY σ' n lo hi:=λ_=>by simp only[rY,hlo,hhi]
  have e6: ∀ m key o n c z,mx=A z->o7 σ m key o n c lo hi z K=o7 σ' m key o n c lo hi z K:=λ_ _ _ _ _ z hz=>by subst hz;simp only[o7,hlo,hhi,hmx]
  split
  ·exact e1 _ _
  ·split
   ·rw[e5,e4];split
    ·rfl
    ·exact e2 _ _ _ _ _ _ _
   ·rfl
  ·split
   ·exact e6 _ _ _ _ _ _ rfl
   ·rfl
  ·split
   ·exact e6 _ _ _ _ _ _ rfl
   ·rfl
  ·split
   ·exact e2 _ _ _ _ _ _ _
   ·rfl
  ·split
   ·rw[e3]
   ·rfl
  ·split
   ·rw[e7]
   ·rfl
  ·rfl
 case fieldAddr s x f=>rw[h x (by simp)]
 case field t x f=>rw[h x (by simp)]
 case indexAddr t x i=>rw[h x (by simp),h i (by simp)]
 case index t x i=>rw[h x (by simp),h i (by simp)]
 case typeAssert x t at_ ok=>rw[h x (by simp)]
 case extract x i=>rw[h x (by simp)]
 case build t parts =>unfold Gd;rw[ni (l:=parts.toList) λp hp=>h p.2 (by simp;exact⟨p.1,by simpa using hp⟩)]
 case lookup t x k ok =>
  simp only[keyOf] at hl;rw[h x (by simp)] at hl ⊢;rw[h k (by simp)];unfold need;cases hx:σ' x with
  | none=>rfl
  | some v =>
    cases σ' k with
    | none=>rfl
    | some u =>
      simp only;unfold zP;split
      ·split
       ·split
        ·rfl
        ·rename_i key _;rw[hx] at hl;rw[hl key rfl]
        ·rfl
       ·rfl
      ·rfl
 case call c =>
  obtain⟨callee,args,ats⟩:=c;cases callee with
  | value f=>rfl
  | invoke r m=>rfl
  | builtin b =>
    simp only[O] at h;simp only;unfold Oc;split
    ·rename_i x hx
     have hxe:=h x (by simp;have:x∈ args.toList:=by rw[hx];simp
                       simpa using this)
     rw[hxe];cases args_ty:ats[0]? with
     | none=>rfl
     | some t =>
       simp only;unfold need;cases hv:σ' x with
       | none=>rfl
       | some v =>
         simp only;unfold Oe;split
         ·rename_i key;have:=hl key (by simp only[keyOf,hx,hxe,hv]);rw[this]
         ·rfl
    ·rename_i x hx;rw[h x (by simp;have:x∈ args.toList:=by rw[hx];simp
                              simpa using this)]
    ·rename_i x y hx;have h1:x∈ args.toList:=by rw[hx];simp
     have h2:y∈ args.toList:=by rw[hx];simp
     rw[h x (by simpa using h1),h y (by simpa using h2)]
    ·rename_i x y hx;have h1:x∈ args.toList:=by rw[hx];simp
     have h2:y∈ args.toList:=by rw[hx];simp
     rw[h x (by simpa using h1),h y (by simpa using h2)]
    ·rfl
theorem ko {o:Op}(h: ∀ x∈ o.operands,σ x=σ' x):keyOf σ o=keyOf σ' o:=by
 cases o<;>simp only[keyOf]
 case load t a=>rw[h a (by simp[M])]
 case convert s d a=>rw[h a (by simp[M])]
 case lookup t x k ok=>rw[h x (by simp[M])]
 case call c =>
  split
  ·rename_i x hx;have hm:x∈ c.args.toList:=by rw[hx];simp
   rw[h x (by simp only[M,O];cases c.callee<;>simp<;>first | exact .inr (by simpa using hm) | simpa using hm)]
  ·rfl
theorem PW {o:Op}(h: ∀ x∈ o.operands,σ x=σ' x):lop P call σ m nx o K=lop P call σ' m nx o K:=by
 cases o<;>simp only[M] at h<;>simp only[lop]
 case box t x=>rw[h x (by simp)]
 case buildSlice t len parts =>unfold ku;rw[ni (l:=parts.toList) λp hp=>h p.2 (by simp;exact⟨p.1,by simpa using hp⟩)]
 case makeSlice t x y=>rw[h x (by simp),h y (by simp)]
 case store t a x=>rw[h a (by simp),h x (by simp)]
 case makeMap t r=>cases r with
  | none=>rfl
  | some x=>simp only[Option.map_some];rw[h x (by simp)]
 case mapUpdate t x k v=>rw[h x (by simp),h k (by simp),h v (by simp)]
 case insert t x k v=>rw[h x (by simp),h k (by simp),h v (by simp)]
 case mapEntry t x k=>rw[h x (by simp),h k (by simp)]
 case entryStore t x k v=>rw[h x (by simp),h k (by simp),h v (by simp)]
 case range t x=>rw[h x (by simp)]
 case next x b=>rw[h x (by simp)]
 case panic x=>rw[h x (by simp)]
 case call c =>
  obtain⟨callee,args,ats⟩:=c;have he:E5 σ args.toList=E5 σ' args.toList:=rG λx hx=>h x (by simp only[O];cases callee<;>simp<;>first | exact .inr (by simpa using hx) | simpa using hx)
  unfold yM;simp only[he];cases E5 σ' args.toList with
  | none=>cases callee<;>first | rfl | (rename_i b;cases b<;>rfl)
  | some avs =>
    cases callee with
    | value f=>have:=h f (by simp[O]);dsimp only;rw[this]
    | invoke r m=>have:=h r (by simp[O]);dsimp only;rw[this]
    | builtin b=>cases b<;>first | rfl | (cases avs with | nil=>rfl | cons x r=>cases r with | nil=>rfl | cons y r=>cases r<;>rfl)
def bq (pt:PT):Prop:=∀ args m nx (K K':SV->Mem->Nat->VC),(∀ v m nx,(K v m nx).holds->(K' v m nx).holds)->(pt args m nx K).holds->(pt args m nx K').holds
theorem Tc {l:Bool}{c:Prop}[Decidable c]{t t':VC}(h:t.holds->t'.holds):(CP l c t).holds->(CP l c t').holds:=by
 unfold CP;cases l
 ·exact λx=>⟨x.1,h x.2⟩
 ·by_cases hc:c
  ·simp only[if_pos hc];exact h
  ·simp only[if_neg hc];exact id
theorem xH {t t':SV->VC}(h: ∀ v,(t v).holds->(t' v).holds):(need x t).holds->(need x t').holds:=by
 cases x with
 | none=>exact id
 | some v=>exact h v
theorem k7 {d:TypeDesc}{k:SV}{t t':Xa->VC}(h: ∀ r,(t r).holds->(t' r).holds): ∀ {es:List (Nat×SV×SV)} {i:Nat},(gA d k t es i).holds->(gA d k t' es i).holds
 | [],i,hh=>h _ hh
 | e::r,i,hh=>by
   unfold gA at hh ⊢;split at hh
   ·split at hh
    ·exact h _ hh
    ·exact k7 h hh
   ·rw[c9] at hh ⊢;split at hh
    ·exact h _ hh
    ·exact k7 h hh
   ·exact hh
theorem wz {k:Option SV}{f f':TypeDesc->SV->Nat->List (Nat×SV×SV)->Nat->SV->VC}(h: ∀ d kv key es clock z,(f d kv key es clock z).holds->(f' d kv key es clock z).holds) :
  (pO P t x k m f).holds->(pO P t x k m f').holds:=by
 unfold pO;split
 ·split
  ·split
   ·exact h _ _ _ _ _ _
   ·exact id
  ·exact id
 ·exact id
theorem zn {k:Option SV}(h: ∀ v m nx,(K v m nx).holds->(K' v m nx).holds):(jH P t x k v m nx K).holds->(jH P t x k v m nx K').holds:=by
 unfold jH;refine wz λd kv key es clock z=> ?_;split
 ·exact k7 λr=>by
   cases r with
   | none=>exact h _ _ _
   | some q=>exact h _ _ _
 ·exact id
theorem AQ {k:Option SV}(h: ∀ v m nx,(K v m nx).holds->(K' v m nx).holds):(lG P t x k m nx K).holds->(lG P t x k m nx K').holds:=by
 unfold lG;exact wz λd kv key es clock z=>k7 λr=>by
  cases r with
  | none=>exact h _ _ _
  | some q=>exact h _ _ _
theorem xk {s:Option SV}(h: ∀ v m nx,(K v m nx).holds->(K' v m nx).holds):(iV x s v m nx K).holds->(iV x s v m nx K').holds:=by
 unfold iV;split
 ·split
  ·split
   ·exact h _ _ _
   ·exact id
  ·exact id
 ·exact id
theorem FD {ats:Array TypeId}{x k:SV}(_h: ∀ v m nx,(K v m nx).holds->(K' v m nx).holds):(zI P ats x k m nx K).holds->(zI P ats x k m nx K').holds:=id
theorem Io (_h: ∀ v m nx,(K v m nx).holds->(K' v m nx).holds):(FV P t x m nx K).holds->(FV P t x m nx K').holds:=id
theorem LP {s:Bool}(_h: ∀ v m nx,(K v m nx).holds->(K' v m nx).holds):(NY x s m nx K).holds->(NY x s m nx K').holds:=id
theorem Il (hm: ∀ f,bq (call f)){o:Op}(h: ∀ v m nx,(K v m nx).holds->(K' v m nx).holds) :
  (lop P call σ m nx o K).holds->(lop P call σ m nx o K').holds:=by
 have hnew: ∀ t z,(FU t z m nx K).holds->(FU t z m nx K').holds:=by
  intro t z;unfold FU;split
  ·exact h _ _ _
  ·exact id
 have hupd: ∀ t x k v,(gI P t x k v m nx K).holds->(gI P t x k v m nx K').holds:=λt x k v=>by
  unfold gI;split
  ·have hfu: ∀ key f c (v:Option SV) m,(iL P t key f c k v m nx K).holds->(iL P t key f c k v m nx K').holds:=λkey f c v m=>by
    unfold iL;split
    ·split
     ·exact h _ _ _
     ·exact id
    ·exact id
   split
   ·exact hfu _ _ _ _ _
   ·refine Ay λvs m'=> ?_;split
    ·exact hfu _ _ _ _ _
    ·exact id
  exact zn h
 have hgrown: ∀ e n cs s m nx,(grown e n cs s m nx K).holds->(grown e n cs s m nx K').holds:=λe n cs s m nx x c hc=>h _ _ _ (x c hc);unfold lop;split
 ·split
  ·exact hnew _ _
  ·exact id
 ·exact xH λv=>hnew _ _
 ·unfold ku;split
  ·split
   ·split
    ·split
     ·exact h _ _ _
     ·exact id
    ·exact id
   ·exact id
  ·exact id
 ·refine xH λa=>xH λb=> ?_;unfold yN;split
  ·split
   ·split
    ·exact Tc (h _ _ _)
    ·exact id
   ·exact id
  ·split
   ·split
    ·split
     ·exact λhh=>⟨hh.1,h _ _ _ hh.2⟩
     ·exact id
    ·exact id
   ·exact id
  ·exact id
 ·unfold nh;split
  ·split
   ·split
    ·exact h _ _ _
    ·exact id
   ·exact id
  ·split
   ·split
    ·split
     ·exact λx=>⟨x.1,h _ _ _ x.2⟩
     ·exact id
    ·exact id
   ·split
    ·exact λx=>⟨x.1,h _ _ _ x.2⟩
    ·exact id
   ·exact id
  ·split
   ·split
    ·split
     ·exact λx=>⟨x.1,h _ _ _ x.2⟩
     ·exact id
    ·exact id
   ·exact id
  ·split
   ·split
    ·split
     ·split
      ·exact λx=>⟨x.1,h _ _ _ x.2⟩
      ·exact id
     ·exact id
    ·exact id
   ·exact id
  ·split
   ·split
    ·split
     ·exact λx=>⟨x.1,h _ _ _ x.2⟩
     ·exact id
    ·exact id
   ·exact id
  ·exact id
 ·unfold yM;split
  ·split
   ·exact hm _ _ _ _ _ _ λv m nx=>h _ _ _
   ·exact hm _ _ _ _ _ _ λv m nx=>h _ _ _
   ·exact id
  ·split
   ·split
    ·split
     ·exact hm _ _ _ _ _ _ λv m nx=>h _ _ _
     ·exact id
    ·exact id
   ·exact id
  ·unfold vj;split
   ·unfold zH;split
    ·split
     ·split
      ·split
       ·split
        ·unfold xo;split
         ·split
          ·split
           ·split
            ·exact h _ _ _
            ·exact hgrown _ _ _ _ _ _
           ·split
            ·split
             ·split
              ·exact h _ _ _
              ·exact id
             ·exact hgrown _ _ _ _ _ _
            ·exact id
           ·split
            ·split
             ·exact λx=>⟨x.1,λc hc=>h _ _ _ (x.2 c hc)⟩
             ·exact id
            ·exact id
           ·exact id
          ·exact id
         ·exact id
        ·exact id
       ·exact id
      ·exact id
     ·exact id
    ·exact id
   ·split
    ·split
     ·split
      ·split
       ·exact xm λu m nx=>h _ _ _
       ·exact id
      ·exact id
     ·exact id
    ·exact id
  ·unfold NT;split
   ·split
    ·split
     ·split
      ·split
       ·exact h _ _ _
       ·exact id
      ·exact id
     ·unfold vk;split
      ·split
       ·exact λx=>⟨x.1,h _ _ _ x.2⟩
       ·exact id
      ·exact id
     ·exact id
    ·exact id
   ·exact id
  ·exact FD h
  ·exact id
 ·unfold vp;split
  ·exact h _ _ _
  ·split
   ·exact h _ _ _
   ·exact id
  ·exact id
 ·exact hupd _ _ _ _
 ·exact hupd _ _ _ _
 ·unfold rZ;split
  ·unfold rJ;split
   ·split
    ·split
     ·split
      ·exact λhh b=>h _ _ _ (hh b)
      ·exact id
     ·exact id
    ·exact id
   ·exact id
  exact AQ h
 ·unfold mQ;split
  ·unfold rK;split
   ·split
    ·exact λhh=>And.intro hh.1 (h _ _ _ hh.2)
    ·exact id
   ·exact id
  exact xk h
 ·exact Io h
 ·exact LP h
 ·exact id
 ·exact id
def names (ops:Array Oper)(o:Oper):List Nat:=o.looksAt ops
def Vi (P:Program)(ops:Array Oper)(j:Nat)(o:Oper)(tmps:List (Option SV))(m:Mem)(nx:Nat)(k:Option SV->VC):VC :=
 match guardOf ops o tmps with
 | some C=>qop P (λk=>m.get k) (ev tmps) o.op (λv=>Mn (oR ops j) v nx k)
 | some F=>k (A (.aD []))
 | none=>.fail "a guard that is not known"
theorem ic (hq:dQ P o.op=C)(K:St->VC)(st:St) :
  dz P call ops j o K st=Vi P ops j o st.tmps st.m st.nx (λv=>K ⟨ct st.tmps o.dst v,st.m,st.nx⟩):=by
 unfold dz Vi;cases guardOf ops o st.tmps with
 | none=>rfl
 | some b=>cases b<;>simp only[hq]<;>rfl
theorem zQ (P:Program)(ops:Array Oper)(j:Nat)(o:Oper)(tmps:List (Option SV))(m:Mem)(nx:Nat) :
  ∃(p:Prop) (u:Option SV),(∀ k,(Vi P ops j o tmps m nx k).holds↔p/\(k u).holds):=by
 unfold Vi;cases guardOf ops o tmps with
 | none=>exact⟨False,G,λk=>⟨λh=>h.elim,λh=>h.1.elim⟩⟩
 | some b =>
   cases b with
   | false=>exact⟨True,A (.aD []),λk=>⟨λh=>⟨trivial,h⟩,λh=>h.2⟩⟩
   | true =>obtain⟨obl,sv,h1,_⟩:=Gg (P:=P) (look:=λk=>m.get k) (σ:=ev tmps) o;obtain⟨p,u,g1,_,_⟩:=vE (oR ops j) sv nx;exact⟨obl/\p,u,λk=>by simp only[h1,g1];exact⟨λh=>⟨⟨h.1,h.2.1⟩,h.2.2⟩,λh=>⟨h.1.1,h.1.2,h.2⟩⟩⟩
theorem Be {t:Nat}(h:Operand.tmp t∈ o.op.operands):t∈ o.looksAt ops:=by simp only[Oper.looksAt,an,List.mem_filterMap];exact .inl ⟨.tmp t,by simpa using h,rfl⟩
theorem vr {oj:Oper}{d:Nat}{b:Bool}(hg:o.guard=A (j,b))(hj:ops[j]?=A oj)(hd:oj.dst=A d):d∈ o.looksAt ops:=by simp only[Oper.looksAt,an];right;simp[hg,hj,hd]
def Agree (ops:Array Oper)(o:Oper)(tmps tmps':List (Option SV)):Prop:=∀ t∈ o.looksAt ops,slot tmps t=slot tmps' t
theorem Agree.ev (h:Agree ops o tmps tmps'): ∀ x∈ o.op.operands,Sx.ev tmps x=Sx.ev tmps' x:=by
 intro x hx;cases x with
 | tmp t=>exact h t (Be hx)
 | _=>rfl
theorem Agree.guard (h:Agree ops o tmps tmps'):guardOf ops o tmps=guardOf ops o tmps':=by
 unfold guardOf;split
 ·rfl
 ·rename_i j want hg;split
  ·rename_i oj hj;split
   ·rename_i d hd;rw[h d (vr hg hj hd)]
   ·rfl
  ·rfl
theorem xV {m':Mem}{k:Option SV->VC}(h:Agree ops o tmps tmps')
  (hl: ∀ key,keyOf (ev tmps) o.op=A key->m.get key=m'.get key):Vi P ops j o tmps m nx k=Vi P ops j o tmps' m' nx k:=by
 unfold Vi;rw[h.guard];cases guardOf ops o tmps' with
 | none=>rfl
 | some b =>
   cases b with
   | false=>rfl
   | true=>exact Qx h.ev hl
theorem yX: ∀ {tmps:List (Option SV)} {d t:Nat} {v:Option SV},d≠t->slot (tmps.set d v) t=slot tmps t
 | [],_,_,_,_=>rfl
 | _::_,0,0,_,h=>absurd rfl h
 | _::_,0,_+1,_,_=>rfl
 | _::_,_+1,0,_,_=>rfl
 | _::r,d+1,t+1,v,h=>yX (tmps:=r) (λe=>h (by rw[e]))
theorem gW (h: ∀ d,dst=A d->d∉ o.looksAt ops):Agree ops o (ct tmps dst v) tmps:=by
 intro t ht;cases dst with
 | none=>rfl
 | some d=>exact yX (λe=>h d rfl (e▸ ht))
theorem vV {x y:Option Nat}{u:Option SV}(h: ∀ d,x=A d->y≠A d):ct (ct tmps x v) y u=ct (ct tmps y u) x v:=by
 cases x with
 | none=>rfl
 | some d =>
   cases y with
   | none=>rfl
   | some e =>have:d≠e:=λhe=>h d rfl (he▸ rfl);simp only[ct];exact List.set_comm _ _ this
def jJ (keys:List Nat)(m m':Mem)(t:VC):VC :=
 match keys with
 | []=>t
 | k::r=>.and (.atom (m'.get k=m.get k)) (jJ r m m' t)
theorem gi {keys:List Nat}{m':Mem}{t:VC}:(jJ keys m m' t).holds↔(∀ k∈ keys,m'.get k=m.get k)/\t.holds:=by
 induction keys with
 | nil=>simp[jJ]
 | cons k r ih =>simp only[jJ,VC.holds,ih,I,forall_eq_or_imp];exact⟨λh=>⟨⟨h.1,h.2.1⟩,h.2.2⟩,λh=>⟨h.1.1,h.1.2,h.2⟩⟩
def HK (nx nx':Nat)(t:VC):VC:=match Nat.ble nx nx' with
 | true=>t
 | false=>.fail "keys"
theorem lE {t:VC}:(HK nx nx' t).holds↔nx<=nx'/\t.holds:=by
 unfold HK;cases h:Nat.ble nx nx' with
 | true=>exact⟨λx=>⟨Nat.le_of_ble_eq_true h,x⟩,λx=>x.2⟩
 | false=>exact⟨λx=>x.elim,λx=>by have:=Nat.ble_eq_true_of_le x.1;rw[h] at this;cases this⟩
section
variable {P : Program} {call : mF -> PT} {ops : Array Oper}
theorem cG (hm: ∀ f,bq (call f)){K K':St->VC}{st:St}
  (h: ∀ u m nx,(K ⟨ct st.tmps o.dst u,m,nx⟩).holds->(K' ⟨ct st.tmps o.dst u,m,nx⟩).holds) (hh:(dz P call ops j o K st).holds):(dz P call ops j o K' st).holds:=by
 cases hq:dQ P o.op with
 | true =>rw[ic hq] at hh ⊢;obtain⟨p,u,hd⟩:=zQ P ops j o st.tmps st.m st.nx;rw[hd] at hh ⊢;exact⟨hh.1,h _ _ _ hh.2⟩
 | false =>
   unfold dz at hh ⊢;cases hg:guardOf ops o st.tmps with
   | none=>rw[hg] at hh;exact hh.elim
   | some b =>
     rw[hg] at hh;cases b with
     | false=>exact h _ _ _ hh
     | true =>
       simp only[hq] at hh ⊢;cases hw:Mem.wf st.nx st.m with
       | false=>rw[hw] at hh;exact hh.elim
       | true =>rw[hw] at hh;simp only at hh ⊢;refine Il hm (λv m nx hp=> ?_) hh;obtain⟨p,u,g1,_,_⟩:=vE (oR ops j) v nx;unfold Qq at hp ⊢;rw[g1] at hp ⊢;exact⟨hp.1,h _ _ _ hp.2⟩
def stepG (P:Program)(call:mF->PT)(ops:Array Oper)(i:Nat)(o:Oper)(H:List Nat)(K:St->VC)(st:St):VC :=dz P call ops i o (λst'=>jJ H st.m st'.m (HK st.nx st'.nx (K st'))) st
theorem Qr {g:Bool}(hn:nx<=nx'){k:Option SV->VC}(h:(Mn g v nx k).holds):(Mn g v nx' k).holds:=by
 have hw:wfO nx v=C->wfO nx' v=true:=by cases v with
  | none=>exact id
  | some v=>exact SV.fE hn v
 unfold Mn at *;split at h
 ·exact h
 ·rename_i g' v' hne;cases hv:wfO nx v with
  | false=>rw[hv] at h;exact h.elim
  | true =>rw[hv] at h;rw[hw hv];exact h
theorem Vj (hn:nx<=nx'){k:Option SV->VC}(h:(Vi P ops j o tmps m nx k).holds):(Vi P ops j o tmps m nx' k).holds:=by
 unfold Vi at h ⊢;cases hg:guardOf ops o tmps with
 | none=>rw[hg] at h;exact h.elim
 | some b =>
   rw[hg] at h;cases b with
   | false=>exact h
   | true =>obtain⟨obl,sv,h1,_⟩:=Gg (P:=P) (look:=λk=>m.get k) (σ:=ev tmps) o;simp only at h ⊢;rw[h1] at h ⊢;refine⟨h.1,?_⟩;exact Qr hn h.2
structure yp (ops:Array Oper)(x y:Oper):Prop where
 a: ∀ d,x.dst=A d->d∉ y.looksAt ops
 b: ∀ d,x.dst=A d->y.dst≠A d
 c: ∀ d,y.dst=A d->d∉ x.looksAt ops
theorem Rd (hm: ∀ f,bq (call f)){jp ji:Nat}{op oi:Oper}(hp:dQ P op.op=C)(hi:dQ P oi.op=F)(ha:yp ops op oi){H H1:List Nat}{K:St->VC}{st:St}
  (hH: ∀ k∈ H,k∈ H1) (hk: ∀ k,keyOf (ev st.tmps) op.op=A k->k∈ H1) (h:(dz P call ops jp op (stepG P call ops ji oi H1 K) st).holds) :
  (stepG P call ops ji oi H (dz P call ops jp op K) st).holds:=by
 obtain⟨tmps,m,nx⟩:=st;rw[ic hp] at h;obtain⟨pp,u,hd⟩:=zQ P ops jp op tmps m nx;obtain⟨hpp,h⟩:=(hd _).1 h;have hag:Agree ops oi (ct tmps op.dst u) tmps:=gW ha.a
 have fin: ∀(u':Option SV) (m':Mem) (nx':Nat),(jJ H1 m m' (HK nx nx' (K ⟨ct (ct tmps op.dst u) oi.dst u',m',nx'⟩))).holds ->
   (jJ H m m' (HK nx nx' (dz P call ops jp op K ⟨ct tmps oi.dst u',m',nx'⟩))).holds:=by
  intro u' m' nx' hh;rw[gi,lE] at hh ⊢;refine⟨λk hk'=>hh.1 k (hH k hk'),hh.2.1,?_⟩;rw[ic hp];have h1:(Vi P ops jp op tmps m nx (λv=>K ⟨ct (ct tmps oi.dst u') op.dst v,m',nx'⟩)).holds:=by rw[hd];refine⟨hpp,?_⟩;rw[vV (λd hd' he=>ha.b d he hd')];exact hh.2.2
  have h2:=Vj hh.2.1 h1;rw[xV (tmps':=ct tmps oi.dst u') (m':=m') (λt ht=>((gW (tmps:=tmps) (v:=u') ha.c) t ht).symm) (λkey hkey=>(hh.1 key (hk key hkey)).symm)] at h2;exact h2
 unfold stepG dz at h ⊢;rw[hag.guard] at h;cases hg:guardOf ops oi tmps with
 | none=>rw[hg] at h;exact h.elim
 | some b =>
   rw[hg] at h;cases b with
   | false=>exact fin _ _ _ h
   | true =>
     simp only[hi] at h ⊢;cases hw:Mem.wf nx m with
     | false=>rw[hw] at h;exact h.elim
     | true =>rw[hw] at h;simp only at h ⊢;rw[PW hag.ev] at h;refine Il hm (λv m' nx' hpk=> ?_) h;obtain⟨p',u',g1,_,_⟩:=vE (oR ops ji) v nx';unfold Qq at hpk ⊢;rw[g1] at hpk ⊢;exact⟨hpk.1,fin _ _ _ hpk.2⟩
theorem BZ {jp ji:Nat}{op oi:Oper}(hp:dQ P op.op=C)(hi:dQ P oi.op=C)(ha:yp ops op oi){K:St->VC}{st:St}
  (h:(dz P call ops jp op (dz P call ops ji oi K) st).holds):(dz P call ops ji oi (dz P call ops jp op K) st).holds:=by
 obtain⟨tmps,m,nx⟩:=st;rw[ic hp] at h;obtain⟨pp,u,hd⟩:=zQ P ops jp op tmps m nx;obtain⟨hpp,h⟩:=(hd _).1 h;rw[ic hi] at h ⊢;rw[xV (tmps':=tmps) (gW ha.a) (λ_ _=>rfl)] at h;obtain⟨pi,v,hd2⟩:=zQ P ops ji oi tmps m nx;rw[hd2] at h ⊢;refine⟨h.1,?_⟩;rw[ic hp];rw[xV (tmps':=tmps) (gW ha.c) (λ_ _=>rfl),hd];refine⟨hpp,?_⟩;have h2:=h.2;simp only at h2 ⊢;rw[vV (λd hd' he=>ha.b d he hd')];exact h2
def jh (mask:Nat)(rd:List (Nat×Nat)):List Nat :=
 match rd with
 | []=>[]
 | (p,k)::r=>match mask.testBit p with
   | true=>jh mask r
   | false=>k::jh mask r
theorem kq {mask:Nat}{k:Nat}: ∀ {rd:List (Nat×Nat)},k∈ jh mask rd↔∃ p,(p,k)∈ rd/\mask.testBit p=F
 | []=>by simp[jh]
 | (p,x)::r=>by
   simp only[jh];cases h:mask.testBit p with
   | true =>
     simp only[kq (rd:=r),I,Prod.mk.injEq];constructor
     ·rintro⟨q,h1,h2⟩;exact⟨q,.inr h1,h2⟩
     ·rintro⟨q,h1 | h1,h2⟩
      ·obtain⟨rfl,rfl⟩:=h1;rw[h] at h2;cases h2
      ·exact⟨q,h1,h2⟩
   | false =>
     simp only[I,kq (rd:=r),Prod.mk.injEq];constructor
     ·rintro(rfl | ⟨q,h1,h2⟩)
      ·exact⟨p,.inl ⟨rfl,rfl⟩,h⟩
      ·exact⟨q,.inr h1,h2⟩
     ·rintro⟨q,h1 | h1,h2⟩
      ·obtain⟨rfl,rfl⟩:=h1;exact .inl rfl
      ·exact .inr ⟨q,h1,h2⟩
def addKey (j:Nat)(k:Option Nat)(rd:List (Nat×Nat)):List (Nat×Nat) :=
 match k with
 | some k=>(j,k)::rd
 | none=>rd
def lO (f:Nat->VC):List Nat->VC
 | []=>.tt
 | j::r=>(match r with
   | []=>f j
   | _::_=>.and (f j) (lO f r))
theorem oF {f:Nat->VC}: ∀ {l:List Nat},(lO f l).holds->∀ j∈ l,(f j).holds
 | [],_,_,h=>by cases h
 | [j],h,k,hk=>by simp only[Y] at hk;subst hk;exact h
 | j::x::r,h,k,hk=>by
   rw[I] at hk;rcases hk with rfl | hk
   ·exact h.1
   ·exact oF (l:=x::r) h.2 k hk
theorem jU {f g:Nat->VC}(hfg: ∀ j,(f j).holds->(g j).holds): ∀ {l:List Nat},(lO f l).holds->(lO g l).holds
 | [],h=>h
 | [j],h=>hfg j h
 | j::x::r,h=>⟨hfg j h.1,jU hfg (l:=x::r) h.2⟩
def jj:List Nat->Nat
 | []=>0
 | q::r=>Nat.lor (Nat.pow 2 q) (jj r)
theorem DH {k:Nat}: ∀ {l:List Nat},(jj l).testBit k=C->k∈ l
 | [],h=>by simp[jj] at h
 | q::r,h=>by
   have h:(2^ q ||| jj r).testBit k=true:=h;simp only[b5,aK] at h;rcases h with h | h
   ·rw[Nat.testBit_two_pow] at h;simp at h;simp[h]
   ·exact a_ _ (DH h)
theorem DI {k:Nat}: ∀ {l:List Nat},k∈ l->(jj l).testBit k=C
 | q::r,h=>by
   show(2^ q ||| jj r).testBit k=C;simp only[b5,aK];rw[I] at h;rcases h with rfl | h
   ·left;simp[]
   ·exact .inr (DI h)
def isReady (masks:List Nat)(lm:Nat)(j:Nat):Bool:=az (bl (masks.getD j 0) lm) 0
theorem iU {l:List Nat}:isReady masks (jj l) j=C↔∀ q∈ l,(masks.getD j 0).testBit q=false:=by
 unfold isReady;constructor
 ·intro h q hq;have h0:=Nat.eq_of_beq_eq_true h;have:(masks.getD j 0 &&& jj l).testBit q=false:=by show(bl (masks.getD j 0) (jj l)).testBit q=F;rw[h0];exact b6 q
  rw[bn,DI hq,N] at this;exact this
 ·intro h;have key: ∀ {a b:Nat},a=b->az a b=true:=λe=>by subst e;exact Nat.beq_refl _
  apply key;apply Nat.eq_of_testBit_eq;intro k;show(masks.getD j 0 &&& jj l).testBit k=_;rw[bn,b6];cases hk:(jj l).testBit k with
  | false=>simp
  | true=>rw[h k (DH hk)];rfl
def quietAt (P:Program)(ops:Array Oper)(j:Nat):Bool:=match ops[j]? with
 | some o=>dQ P o.op
 | none=>F
def va (P:Program)(ops:Array Oper)(masks:List Nat)(lm:Nat):List Nat->Option Nat
 | []=>G
 | j::r=>match quietAt P ops j&&isReady masks lm j with
   | true=>A j
   | false=>va P ops masks lm r
theorem oM {masks:List Nat}{lm j:Nat}: ∀ {l:List Nat},va P ops masks lm l=A j->j∈ l/\quietAt P ops j=C/\isReady masks lm j=C
 | [],h=>by cases h
 | k::r,h=>by
   unfold va at h;split at h
   ·rename_i hk;injection h with h;subst h;rw[J] at hk;exact⟨by simp,hk⟩
   ·have:=oM h;exact⟨by simp[this.1],this.2⟩
theorem oL {masks:List Nat}{lm:Nat}: ∀ {l:List Nat},va P ops masks lm l=G->∀ j∈ l,(quietAt P ops j&&isReady masks lm j)=F
 | [],_,_,hj=>by cases hj
 | k::r,h,j,hj=>by
   unfold va at h;split at h
   ·cases h
   ·rename_i hk;rw[I] at hj;rcases hj with rfl | hj
    ·exact hk
    ·exact oL h j hj
def BE (P:Program)(ops:Array Oper)(masks:List Nat)(l:List Nat):List Nat :=l.filter λj=>!quietAt P ops j&&isReady masks (jj l) j
def cI (P:Program)(call:mF->PT)(ops:Array Oper)(masks:List Nat):Nat->List Nat->List (Nat×Nat)->(St->VC)->St->VC
 | _,[],_,K,st=>K st
 | 0,_::_,_,_,_=>.fail "a region that is too long"
 | n+1,x::r,rd,K,st=>match va P ops masks (jj (x::r)) (x::r)with
   | some i=>(match ops[i]? with
     | some o=>dz P call ops i o (cI P call ops masks n ((x::r).erase i) (addKey i (keyOf (ev st.tmps) o.op) rd) K) st
     | none=>.fail "no operation")
   | none=>lO (λj=>match ops[j]? with
      | some oj=>stepG P call ops j oj (jh (masks.getD j 0) rd) (cI P call ops masks n ((x::r).erase j) rd K) st
      | none=>.fail "no operation") (BE P ops masks (x::r))
theorem mL {n:Nat}{K:St->VC}{st:St}:cI P call ops masks n [] rd K st=K st:=by cases n<;>rfl
theorem G0 {rd':List (Nat×Nat)}(h: ∀ x∈ rd,x∈ rd'): ∀ x∈ addKey i k rd,x∈ addKey i k rd':=by
 intro x hx;cases k with
 | none=>exact h x hx
 | some k=>simp only[addKey,I] at hx ⊢;exact hx.imp id (h x)
theorem Kf : ∀ x∈ rd,x∈ addKey i k rd:=by
 intro x hx;cases k with
 | none=>exact hx
 | some k=>exact a_ _ hx
theorem yw {k':Option Nat}: ∀ x∈ addKey i k (addKey j k' rd),x∈ addKey j k' (addKey i k rd):=by intro x hx;cases k<;>cases k'<;>simp only[addKey,I] at hx ⊢ <;> first | exact hx | (rcases hx with h | h | h<;>simp[h])
theorem lT (hm: ∀ f,bq (call f)){masks:List Nat}{K:St->VC}: ∀ {n:Nat} {l:List Nat} {rd rd':List (Nat×Nat)} {st:St},(∀ x∈ rd,x∈ rd')->(cI P call ops masks n l rd' K st).holds->(cI P call ops masks n l rd K st).holds
 | n,[],_,_,_,_,h=>by rw[mL] at h ⊢;exact h
 | 0,_::_,_,_,_,_,h=>h.elim
 | n+1,x::r,rd,rd',st,hr,h=>by
   simp only[cI] at h ⊢;split at h
   ·split at h
    ·exact cG hm (λu m nx hh=>lT hm (G0 hr) hh) h
    ·exact h.elim
   ·refine jU (λj hj=> ?_) h;cases hoj:ops[j]? with
    | none=>rw[hoj] at hj;exact hj.elim
    | some oj =>rw[hoj] at hj;simp only at hj ⊢;refine cG hm (λu m nx hh=> ?_) hj;rw[gi,lE] at hh ⊢;refine⟨λk hk=>hh.1 k ?_,hh.2.1,lT hm hr hh.2.2⟩;rw[kq] at hk ⊢;obtain⟨p,h1,h2⟩:=hk;exact⟨p,hr _ h1,h2⟩
theorem yp.symm {x y:Oper}(h:yp ops x y):yp ops y x:=⟨h.c,λd hd he=>h.b d he hd,h.a⟩
def Rel (P:Program)(ops:Array Oper)(masks:List Nat)(p i:Nat):Prop :=∃ op oi,ops[p]?=A op/\ops[i]?=A oi/\((masks.getD i 0).testBit p=C∨(masks.getD p 0).testBit i=C∨(dQ P op.op=F/\dQ P oi.op=F)∨yp ops op oi)
def Ke (P:Program)(ops:Array Oper)(masks:List Nat)(R:List Nat):Prop:=∀ p∈ R,∀ i∈ R,p≠i->Rel P ops masks p i
theorem Ke.erase {R:List Nat}(h:Ke P ops masks R)(q:Nat):Ke P ops masks (R.erase q):=λp hp i hi=>h p (L hp) i (L hi)
def Bs (P:Program)(call:mF->PT)(ops:Array Oper)(masks:List Nat)(n:Nat)(i:Nat)(oi:Oper)(R:List Nat)(rd:List (Nat×Nat))(K:St->VC)(st:St):VC :=
 match dQ P oi.op with
 | true=>dz P call ops i oi (cI P call ops masks n R (addKey i (keyOf (ev st.tmps) oi.op) rd) K) st
 | false=>stepG P call ops i oi (jh (masks.getD i 0) rd) (cI P call ops masks n R rd K) st
theorem aai (hm: ∀ f,bq (call f)){K:St->VC}: ∀(n:Nat),
  (∀ {R:List Nat} {rd:List (Nat×Nat)} {st:St} {i:Nat} {oi:Oper},R.length<=n+1->Ke P ops masks R->i∈ R->ops[i]?=A oi->(∀ q∈ R,(masks.getD i 0).testBit q=F) ->
    (cI P call ops masks (n+1) R rd K st).holds->(Bs P call ops masks n i oi (R.erase i) rd K st).holds) /\
  (∀ {X:List Nat} {rd:List (Nat×Nat)} {st:St} {q:Nat} {oq:Oper},X.length<=n+1->Ke P ops masks X->q∈ X->ops[q]?=A oq->dQ P oq.op=C->(∀ p∈ X,(masks.getD q 0).testBit p=F) ->
    (dz P call ops q oq (cI P call ops masks n (X.erase q) (addKey q (keyOf (ev st.tmps) oq.op) rd) K) st).holds->(cI P call ops masks (n+1) X rd K st).holds):=by
 have apart: ∀ {R:List Nat} {q i:Nat} {oq oi:Oper},Ke P ops masks R->q∈ R->i∈ R->q≠i->ops[q]?=A oq->ops[i]?=A oi->dQ P oq.op=C ->
   (∀ p∈ R,(masks.getD q 0).testBit p=F)->(∀ p∈ R,(masks.getD i 0).testBit p=F)->yp ops oq oi:=by
  intro R q i oq oi hR hq hi hne hoq hoi hqq h1 h2;obtain⟨op,oi',e1,e2,h⟩:=hR q hq i hi hne;rw[hoq] at e1;injection e1 with e1;subst e1;rw[hoi] at e2;injection e2 with e2;subst e2;rcases h with h | h | h | h
  ·rw[h2 q hq] at h;cases h
  ·rw[h1 i hi] at h;cases h
  ·rw[hqq] at h;cases h.1
  ·exact h
 intro n;induction n with
 | zero =>
   refine⟨λ{R rd st i oi} hl hR hi ho hrd h=> ?_,λ{X rd st q oq} hl hX hq ho hqq hrd h=> ?_⟩
   ·have hR1:R=[i]:=by
     match R,hl,hi with
     | [x],_,hi=>simp only[Y] at hi;rw[hi]
    subst hR1;simp only[cI] at h;split at h
    ·rename_i j hj;obtain⟨g1,g2,_⟩:=oM hj;simp only[Y] at g1;subst g1;simp only[quietAt,ho] at g2;rw[ho] at h;simp only[Bs,g2];exact h
    ·rename_i hj;have hnq:=oL hj i (by simp);have hre:isReady masks (jj [i]) i=true:=iU.2 hrd;simp only[hre,N,quietAt,ho] at hnq;have:=oF h i (by simp only[BE,a!,quietAt,ho,hnq,hre];simp);rw[ho] at this;simp only[Bs,hnq];exact this
   ·have hX1:X=[q]:=by
     match X,hl,hq with
     | [x],_,hi=>simp only[Y] at hi;rw[hi]
    subst hX1;simp only[cI];have hre:isReady masks (jj [q]) q=true:=iU.2 hrd;simp only[va,quietAt,ho,hqq,hre,N];exact h
 | succ m ih =>
   obtain⟨ih1,ih2⟩:=ih;refine⟨λ{R rd st i oi} hl hR hi ho hrd h=> ?_,λ{X rd st q oq} hl hX hq ho hqq hrd h=> ?_⟩
   ·obtain⟨x,r,hxr⟩: ∃ x r,R=x::r:=by
     match R,hi with
     | x::r,_=>exact⟨x,r,rfl⟩
    have hdr:cI P call ops masks (m+1+1) R rd K st=(match va P ops masks (jj R) R with
     | some i=>(match ops[i]? with
       | some o=>dz P call ops i o (cI P call ops masks (m+1) (R.erase i) (addKey i (keyOf (ev st.tmps) o.op) rd) K) st
       | none=>.fail "no operation")
     | none=>lO (λj=>match ops[j]? with
        | some oj=>stepG P call ops j oj (jh (masks.getD j 0) rd) (cI P call ops masks (m+1) (R.erase j) rd K) st
        | none=>.fail "no operation") (BE P ops masks R)):=by rw[hxr];rfl
    rw[hdr] at h;split at h
    ·rename_i q hq;obtain⟨g1,g2,g3⟩:=oM hq;rw[iU] at g3;cases hoq:ops[q]? with
     | none=>rw[hoq] at h;exact h.elim
     | some oq =>
       rw[hoq] at h;simp only at h;simp only[quietAt,hoq] at g2;by_cases e:q=i
       ·subst e;rw[hoq] at ho;injection ho with ho;subst ho;simp only[Bs,g2];exact h
       ·have hap:=apart hR g1 hi e hoq ho g2 g3 hrd;have hi':i∈ R.erase q:=(W (λx=>e x.symm)).2 hi;have hq':q∈ R.erase i:=(W e).2 g1;have hl1:(R.erase q).length<=m+1:=by rw[V g1];omega
        have hl2:(R.erase i).length<=m+1:=by rw[V hi];omega
        cases hqi:dQ P oi.op with
        | true =>
          simp only[Bs,hqi];have hk: ∀ u,keyOf (ev (ct st.tmps oq.dst u)) oi.op=keyOf (ev st.tmps) oi.op:=λu=>ko (gW hap.a).ev
          have h1:(dz P call ops q oq (dz P call ops i oi (cI P call ops masks m ((R.erase q).erase i) (addKey i (keyOf (ev st.tmps) oi.op) (addKey q (keyOf (ev st.tmps) oq.op) rd)) K)) st).holds :=
           cG hm (λu m' nx' hh=>by have:=ih1 hl1 (hR.erase q) hi' ho (λp hp=>hrd p (L hp)) hh;simp only[Bs,hqi,hk] at this;exact this) h
          have h2:=BZ g2 hqi hap h1;refine cG hm (λu m' nx' hh=> ?_) h2;refine ih2 hl2 (hR.erase i) hq' hoq g2 (λp hp=>g3 p (L hp)) ?_;have hk2:keyOf (ev (ct st.tmps oi.dst u)) oq.op=keyOf (ev st.tmps) oq.op:=ko (gW hap.c).ev;simp only[hk2];rw[ag];exact cG hm (λu m' nx' hh=>lT hm yw hh) hh
        | false =>
          simp only[Bs,hqi]
          have h1:(dz P call ops q oq (stepG P call ops i oi (jh (masks.getD i 0) (addKey q (keyOf (ev st.tmps) oq.op) rd)) (cI P call ops masks m ((R.erase q).erase i) (addKey q (keyOf (ev st.tmps) oq.op) rd) K)) st).holds :=
           cG hm (λu m' nx' hh=>by have:=ih1 hl1 (hR.erase q) hi' ho (λp hp=>hrd p (L hp)) hh;simp only[Bs,hqi] at this;exact this) h
          have h2:=Rd hm g2 hqi hap (H:=jh (masks.getD i 0) rd) (λk hk=>by
            rw[kq] at hk ⊢;obtain⟨p,y1,y2⟩:=hk;exact⟨p,Kf _ y1,y2⟩) (λk hk=>by
            rw[kq,hk];exact⟨q,by simp[addKey],hrd q g1⟩) h1
          unfold stepG at h2 ⊢;refine cG hm (λu m' nx' hh=> ?_) h2;rw[gi,lE] at hh ⊢;refine⟨hh.1,hh.2.1,?_⟩;refine ih2 hl2 (hR.erase i) hq' hoq g2 (λp hp=>g3 p (L hp)) ?_;have hk2:keyOf (ev (ct st.tmps oi.dst u)) oq.op=keyOf (ev st.tmps) oq.op:=ko (gW hap.c).ev;simp only[hk2];rw[ag];exact hh.2.2
    ·rename_i hj;have hnq:=oL hj i hi;have hre:isReady masks (jj R) i=true:=iU.2 hrd;simp only[hre,N,quietAt,ho] at hnq;have:=oF h i (by unfold BE;rw[a!];refine⟨hi,?_⟩;simp only[quietAt,ho,hnq,hre];rfl);rw[ho] at this;simp only[Bs,hnq];exact this
   ·obtain⟨y,r,hxr⟩: ∃ x r,X=x::r:=by
     match X,hq with
     | x::r,_=>exact⟨x,r,rfl⟩
    have hdr:cI P call ops masks (m+1+1) X rd K st=(match va P ops masks (jj X) X with
     | some i=>(match ops[i]? with
       | some o=>dz P call ops i o (cI P call ops masks (m+1) (X.erase i) (addKey i (keyOf (ev st.tmps) o.op) rd) K) st
       | none=>.fail "no operation")
     | none=>lO (λj=>match ops[j]? with
        | some oj=>stepG P call ops j oj (jh (masks.getD j 0) rd) (cI P call ops masks (m+1) (X.erase j) rd K) st
        | none=>.fail "no operation") (BE P ops masks X)):=by rw[hxr];rfl
    rw[hdr];split
    ·rename_i x hx;obtain⟨g1,g2,g3⟩:=oM hx;rw[iU] at g3;have hox: ∃ ox,ops[x]?=A ox/\dQ P ox.op=true:=by
      unfold quietAt at g2;split at g2
      ·rename_i ox hox;exact⟨ox,hox,g2⟩
      ·cases g2
     obtain⟨ox,hox,hqx⟩:=hox;rw[hox];simp only;by_cases e:x=q
     ·subst e;rw[hox] at ho;injection ho with ho;subst ho;exact h
     ·have hap:=apart hX hq g1 (λh=>e h.symm) ho hox hqq hrd g3;have hx':x∈ X.erase q:=(W e).2 g1;have hq':q∈ X.erase x:=(W (λh=>e h.symm)).2 hq;have hl1:(X.erase q).length<=m+1:=by rw[V hq];omega
      have hl2:(X.erase x).length<=m+1:=by rw[V g1];omega
      have hk: ∀ u,keyOf (ev (ct st.tmps oq.dst u)) ox.op=keyOf (ev st.tmps) ox.op:=λu=>ko (gW hap.a).ev
      have h1:(dz P call ops q oq (dz P call ops x ox (cI P call ops masks m ((X.erase q).erase x) (addKey x (keyOf (ev st.tmps) ox.op) (addKey q (keyOf (ev st.tmps) oq.op) rd)) K)) st).holds :=
       cG hm (λu m' nx' hh=>by have:=ih1 hl1 (hX.erase q) hx' hox (λp hp=>g3 p (L hp)) hh;simp only[Bs,hqx,hk] at this;exact this) h
      have h2:=BZ hqq hqx hap h1;refine cG hm (λu m' nx' hh=> ?_) h2;refine ih2 hl2 (hX.erase x) hq' ho hqq (λp hp=>hrd p (L hp)) ?_;have hk2:keyOf (ev (ct st.tmps ox.dst u)) oq.op=keyOf (ev st.tmps) oq.op:=ko (gW hap.c).ev;simp only[hk2];rw[ag];exact cG hm (λu m' nx' hh=>lT hm yw hh) hh
    ·rename_i hj;have hnq:=oL hj q hq;have hre:isReady masks (jj X) q=true:=iU.2 hrd;simp only[hre,N,quietAt,ho,hqq] at hnq;cases hnq
end
end
end Sx
end Go.Proofs.YtoibaecagklkaaaGreatDoor
