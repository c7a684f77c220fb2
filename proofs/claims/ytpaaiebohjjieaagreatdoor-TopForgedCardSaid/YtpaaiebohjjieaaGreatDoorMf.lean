/-
  The framework's twelfth part: one operation of a region; a region in the text's order.
-/
import Derived.Test.YtpaaiebohjjieaaGreatDoorMe
namespace Go.Proofs.YtpaaiebohjjieaaGreatDoor.Sx
open Go
noncomputable section
structure St where
 tmps:List (Option SV)
 m:Mem
 nx:Nat
def slot (tmps:List (Option SV))(i:Nat):Option SV :=
 match tmps,i with
 | [],_=>none
 | v::_,0=>v
 | _::r,i+1=>slot r i
theorem s6: ∀ {tmps:List (Option SV)} {i:Nat} {v:SV},slot tmps i=some v->tmps[i]?=some (some v)
 | [],_,_,h=>by simp[slot] at h
 | x::_,0,v,h=>by simp[slot] at h;simp[h]
 | _::r,i+1,v,h=>by simp[slot] at h;simpa using s6 h
def ev (tmps:List (Option SV)):Operand->Option SV
 | .tmp i=>slot tmps i
 | .const v=>SV.ofConst v
 | .global g=>some (.raw (.pointer (some ⟨g,0,none⟩)))
 | .func f=>some (.func (.func f) [] [])
def dO (nx:Nat):List (Option SV)->Bool
 | []=>true
 | none::r=>dO nx r
 | some v::r=>v.wf nx&&dO nx r
theorem oO {nx:Nat}: ∀ {l:List (Option SV)},dO nx l=true->∀ {i:Nat} {v:SV},l[i]?=some (some v)->v.wf nx=true
 | none::r,h,0,v,hv=>by simp at hv
 | some x::r,h,0,v,hv=>by simp at hv;subst hv;simp only[dO,Bool.and_eq_true] at h;exact h.1
 | none::r,h,i+1,v,hv=>oO (l:=r) (by simpa [dO] using h) (i:=i) (by simpa using hv)
 | some x::r,h,i+1,v,hv=>oO (l:=r) (by simp only[dO,Bool.and_eq_true] at h;exact h.2) (i:=i) (by simpa using hv)
structure cK (E:Nat->Nat)(tmps:List (Option SV))(a:Act):Prop where
 size:a.tmps.size=tmps.length
 val: ∀(i:Nat) (v:SV),tmps[i]?=some (some v)->a.tmps[i]?=some (v.val E)
theorem cK.reads {E:Nat->Nat}{tmps:List (Option SV)}{a:Act}(h:cK E tmps a):Reads E (ev tmps) a.eval:=by
 intro x v hx;cases x with
 | tmp i =>have:=h.val i v (s6 hx);simp[Act.eval,Array.getD_eq_getD_getElem?,this]
 | const c=>exact(SV.FW hx).symm
 | global g=>simp[ev] at hx;subst hx;rfl
 | func f=>simp[ev] at hx;subst hx;rfl
theorem cK.wf {nx:Nat}{tmps:List (Option SV)}(h:dO nx tmps=true):WfS nx (ev tmps):=by
 intro x v hx;cases x with
 | tmp i=>exact oO h (s6 hx)
 | const c=>exact JC hx
 | global g=>simp[ev] at hx;subst hx;rfl
 | func f=>simp[ev] at hx;subst hx;rfl
theorem cK.congr {E E':Nat->Nat}{nx:Nat}{tmps:List (Option SV)}{a:Act}(h:cK E tmps a)(hw:dO nx tmps=true)(hE: ∀ k,k<nx->E' k=E k):cK E' tmps a :=⟨h.size,fun i v hv=>by rw[SV.val_congr hE v (oO hw hv)];exact h.val i v hv⟩
def bV (tmps:List (Option SV))(dst:Option Nat)(v:Option SV):List (Option SV) :=
 match dst with
 | none=>tmps
 | some d=>tmps.set d v
theorem cK.put {E:Nat->Nat}{tmps:List (Option SV)}{a:Act}(h:cK E tmps a){dst:Option Nat}{sv:Option SV}{r:Value}(hr: ∀ v,sv=some v->r=v.val E) :
  cK E (bV tmps dst sv) (a.put dst r):=by
 cases dst with
 | none=>exact h
 | some d =>
   refine⟨by simp[Act.put,bV,h.size],fun i v hv=> ?_⟩;simp only[bV] at hv;rw[List.getElem?_set] at hv;simp only[Act.put];rw[Array.getElem?_setIfInBounds];split at hv
   ·rename_i e;subst e;split at hv
    ·rename_i hlt;injection hv with hv;rw[if_pos rfl,if_pos (by rw[h.size];exact hlt),hr v hv]
    ·cases hv
   ·rename_i e;rw[if_neg e];exact h.val i v hv
theorem wh {nx:Nat}: ∀ {l:List (Option SV)} {d:Nat} {v:Option SV},dO nx l=true->(∀ u,v=some u->u.wf nx=true)->dO nx (l.set d v)=true
 | [],_,_,h,_=>h
 | none::r,0,none,h,hv=>h
 | none::r,0,some u,h,hv=>by simp only[List.set_cons_zero,dO,Bool.and_eq_true];exact⟨hv u rfl,h⟩
 | some x::r,0,none,h,hv=>by simp only[dO,Bool.and_eq_true] at h;exact h.2
 | some x::r,0,some u,h,hv=>by simp only[dO,Bool.and_eq_true,List.set_cons_zero] at h ⊢;exact⟨hv u rfl,h.2⟩
 | none::r,d+1,v,h,hv=>wh (l:=r) h hv
 | some x::r,d+1,v,h,hv=>by simp only[dO,Bool.and_eq_true,List.set_cons_succ] at h ⊢;exact⟨h.1,wh h.2 hv⟩
theorem m4 {n m:Nat}(h:n<=m): ∀ {l:List (Option SV)},dO n l=true->dO m l=true
 | [],_=>rfl
 | none::r,hl=>m4 h (l:=r) hl
 | some x::r,hl=>by simp only[dO,Bool.and_eq_true] at hl ⊢;exact⟨SV.j0 h x hl.1,m4 h hl.2⟩
theorem nZ {nx:Nat}{l:List (Option SV)}{dst:Option Nat}{v:Option SV}(h:dO nx l=true)(hv: ∀ u,v=some u->u.wf nx=true):dO nx (bV l dst v)=true:=by
 cases dst with
 | none=>exact h
 | some d=>exact wh h hv
def wfO (nx:Nat):Option SV->Bool
 | none=>true
 | some v=>v.wf nx
theorem ajk {nx:Nat}{v:Option SV}(h:wfO nx v=true): ∀ u,v=some u->u.wf nx=true:=by rintro u rfl;exact h
def ED (D:Nat):Deferred:={target:=.collected D,args:=#[]}
def Marks (Γ:aQ)(ds:List Deferred)(w:World):Prop :=∃ Ds:List Nat,ds=Ds.map ED++Γ.tail/\Ds.Nodup/\(∀ D∈ Ds,w.heap[D]?=some (.deferred (some []))/\D∉ Γ.keep/\Γ.w0.heap.size<=D)/\(Γ.rf=false->Ds=[])
theorem Marks.nil (Γ:aQ)(w:World)(ht:Γ.tail=[]):Marks Γ [] w:=(by simp_all [Sx.Marks])
structure Sat (Γ:aQ)(E:Nat->Nat)(st:St)(a:Act)(w:World):Prop where
 tm:cK E st.tmps a
 wt:dO st.nx st.tmps=true
 df:Marks Γ a.defers w
 mm:aG Γ E st.m st.nx w
theorem aG.weaken {Γ Δ:aQ}(hle:Γ.le Δ){E:Nat->Nat}{m:Mem}{nx:Nat}{w:World}(h:aG Δ E m nx w):aG Γ E m nx w :=
 ⟨h.jK,h.j9,h.lt,fun k B a hk hn hr=>by have:=h.lE k B a hk hn hr;rw[hle.m,hle.w] at this;exact this,by have:=h.ext;rw[hle.m,hle.w] at this;exact this,
  ⟨Nat.le_trans hle.nx h.cx.1,fun k hk=>(h.cx.2 k (Nat.lt_of_lt_of_le hk hle.nx)).trans (hle.e k hk)⟩,fun D hD=>h.kp D (hle.keep D hD)⟩
def aQ.more (Γ:aQ)(Ds:List Nat):aQ:={Γ with keep:=Ds++Γ.keep}
theorem aQ.P5 (Γ:aQ)(Ds:List Nat):Γ.le (Γ.more Ds):=⟨rfl,rfl,Nat.le_refl _,fun _ _=>rfl,fun _D h=>List.mem_append_right _ h⟩
theorem aG.more {Γ:aQ}{E:Nat->Nat}{m:Mem}{nx:Nat}{w:World}(h:aG Γ E m nx w){Ds:List Nat}(hD: ∀ D∈ Ds,w.heap[D]?=some (.deferred (some []))):aG (Γ.more Ds) E m nx w :=⟨h.jK,h.j9,h.lt,h.lE,h.ext,h.cx,fun D hm=>by rcases List.mem_append.1 hm with h1 | h1;exact hD D h1;exact h.kp D h1⟩
theorem Marks.kept {Γ:aQ}{Ds:List Nat}{ds:List Deferred}(he:ds=Ds.map ED++Γ.tail)(hn:Ds.Nodup)(hk: ∀ D∈ Ds,D∉ Γ.keep/\Γ.w0.heap.size<=D)(hrf:Γ.rf=false->Ds=[]){E:Nat->Nat}{m:Mem}{nx:Nat}{w:World}(h:aG (Γ.more Ds) E m nx w):Marks Γ ds w :=⟨Ds,he,hn,fun D hD=>⟨h.kp D (List.mem_append_left _ hD),hk D hD⟩,hrf⟩
def guardOf (ops:Array Oper)(o:Oper)(tmps:List (Option SV)):Option Bool :=
 match o.guard with
 | none=>some true
 | some (j,want)=>(match ops[j]? with
   | some oj=>(match oj.dst with
     | some d=>(match slot tmps d with
       | some (.bool true b)=>some (b==want)
       | some (.bL [])=>some false
       | _=>none)
     | none=>none)
   | none=>none)
theorem xB {E:Nat->Nat}{ops:Array Oper}{o:Oper}{tmps:List (Option SV)}{a:Act}(h:cK E tmps a){b:Bool}(hg:guardOf ops o tmps=some b) :
  Region.wanted o (yielded ops a.tmps)=b:=by
 unfold guardOf at hg;unfold Region.wanted;split at hg
 ·grind
 ·rename_i j want e;rw[e];split at hg
  ·rename_i oj hj;split at hg
   ·rename_i d hd;split at hg
    ·rename_i c hc;have:=h.val d _ (s6 hc);injection hg with hg;subst hg
     grind [yielded,SV.val]
    ·rename_i hc;have:=h.val d _ (s6 hc)
     grind [yielded,SV.val]
    ·cases hg
   ·cases hg
  ·cases hg
def sJ (ops:Array Oper)(j:Nat):Bool:=ops.toList.any fun o=>match o.guard with
 | some (i,_)=>Nat.beq i j
 | none=>false
def Xi (g:Bool)(v:Option SV)(nx:Nat)(k:Option SV->VC):VC :=
 match g,v with
 | true,some (.bool false b)=>fork b (fun c=>k (some (.bool true c)))
 | _,v=>match wfO nx v with
   | true=>k v
   | false=>.fail "a key out of bounds"
def Xh (g:Bool)(dst:Option Nat)(v:Option SV)(tmps:List (Option SV))(m:Mem)(nx:Nat)(K:St->VC):VC :=Xi g v nx (fun v=>K ⟨bV tmps dst v,m,nx⟩)
theorem CP (g:Bool)(v:Option SV)(nx:Nat): ∃(p:Prop) (u:Option SV),(∀ k,(Xi g v nx k).holds↔p/\(k u).holds)/\(p->wfO nx u=true)/\(∀(E:Nat->Nat) (r:Value),(∀ x,v=some x->r=x.val E)->∀ x,u=some x->r=x.val E):=by
 unfold Xi;split
 ·rename_i b;exact⟨True,some (.bool true b),fun k=>by rw[dx];grind,fun _=>rfl,fun E r h x hx=>by injection hx with hx;subst hx;exact h (.bool false b) rfl⟩
 ·cases hw:wfO nx v with
  | true=>exact⟨True,v,(by grind),fun _=>hw,fun E r h=>h⟩
  | false=>exact⟨False,none,fun k=>⟨fun h=>h.elim,fun h=>h.1.elim⟩,fun h=>h.elim,(by grind)⟩
def lop (P:Program)(call:sr->PT)(σ:Operand->Option SV)(m:Mem)(nx:Nat)(o:Op)(K:KL):VC :=
 match o with
 | .alloc t=>(match i6 P t with
   | some z=>Qi t z m nx K
   | none=>.fail "alloc")
 | .box t x=>need (σ x) (fun v=>Qi t v m nx K)
 | .buildSlice t len parts=>pg P σ t len parts.toList m nx K
 | .makeSlice t x y=>need (σ x) (fun a=>need (σ y) (fun b=>FQ P t a b m nx K))
 | .store t a x=>tr P t (σ a) (σ x) m nx K
 | .call c=>FP P call σ c m nx K
 | .makeMap t r=>CA P t (r.map σ) m nx K
 | .mapUpdate t x k v=>ki P t (σ x) (σ k) (σ v) m nx K
 | .insert t x k v=>ki P t (σ x) (σ k) (σ v) m nx K
 | .mapEntry t x k=>zq P t (σ x) (σ k) m nx K
 | .entryStore _ x s v=>sL (σ x) (σ s) (σ v) m nx K
 | .range t x=>EC P t (σ x) m nx K
 | .next x b=>M7 (σ x) b m nx K
 | .entry x=>Et (σ x) m nx K
 | .panic x=>EB call (σ x) m nx
 | _=>.fail "no such operation"
theorem aom {P:Program}{Γ:aQ}{KP:PK}{call:sr->PT}(hcall: ∀ c,qO P Γ KP c (call c)){σ:Operand->Option SV}{m:Mem}{nx:Nat}(o:Oper):ajI P Γ KP σ m nx o (lop P call σ m nx o.op):=by
 obtain⟨dst,op,type,pos,after,guard⟩:=o;cases op
 case alloc t=>exact ve.xp abA
 case box t x=>exact ve.xp aky
 case buildSlice t len parts=>exact ve.xp I4
 case makeSlice t x y=>exact ve.xp afW
 case store t a x=>exact ve.xp M9
 case call c=>exact afw hcall
 case makeMap t r=>exact ve.xp SR
 case mapUpdate t x k v=>exact ve.xp Aj
 case insert t x k v=>exact ve.xp Wx
 case mapEntry t x k=>exact ve.xp Qh
 case entryStore t x s v=>exact ve.xp Ja
 case range t x=>exact ve.xp abU
 case next x b=>exact ve.xp afX
 case entry x=>exact ve.xp abD
 case panic x=>exact abT hcall
 all_goals exact ve.xp (ve.fail _)
def dF (P:Program)(call:sr->PT)(ops:Array Oper)(j:Nat)(o:Oper)(K:St->VC)(st:St):VC :=
 match guardOf ops o st.tmps with
 | some true=>(match ff P o.op with
   | true=>qop P (fun k=>st.m.get k) (ev st.tmps) o.op (fun v=>Xh (sJ ops j) o.dst v st.tmps st.m st.nx K)
   | false=>(match Mem.wf st.nx st.m with
     | true=>lop P call (ev st.tmps) st.m st.nx o.op (fun v m nx=>Xh (sJ ops j) o.dst v st.tmps m nx K)
     | false=>.fail "a key out of bounds"))
 | some false=>K ⟨bV st.tmps o.dst (some (.bL [])),st.m,st.nx⟩
 | none=>.fail "a guard that is not known"
def j8 (K:St->VC)(Γ:aQ)(E:Nat->Nat)(nx:Nat)(a:Act)(w:World):Prop :=∃ E' st',(∀ k,k<nx->E' k=E k)/\nx<=st'.nx/\Sat Γ E' st' a w/\(K st').holds
theorem j8.trans {K K':St->VC}{Γ:aQ}{E:Nat->Nat}{nx:Nat}{a:Act}{w:World}(h:j8 K Γ E nx a w)
  (hk: ∀ E' st',nx<=st'.nx->Sat Γ E' st' a w->(K st').holds->j8 K' Γ E' st'.nx a w):j8 K' Γ E nx a w:=by
 obtain⟨E',st',h1,h2,h3,h4⟩:=h;obtain⟨E'',st'',k1,k2,k3,k4⟩:=hk E' st' h2 h3 h4;exact⟨E'',st'',fun k hk=>(k1 k (Nat.lt_of_lt_of_le hk h2)).trans (h1 k hk),Nat.le_trans h2 k2,k3,k4⟩
theorem BC {K:St->VC}{Γ:aQ}{E:Nat->Nat}{nx:Nat}{g:Bool}{dst:Option Nat}{sv:Option SV}{tmps:List (Option SV)}{m:Mem}{a:Act}{w:World}{r:Value}
  (h:(Xh g dst sv tmps m nx K).holds) (ht:cK E tmps a) (hw:dO nx tmps=true) (hd:Marks Γ a.defers w) (hm:aG Γ E m nx w) (hr: ∀ v,sv=some v->r=v.val E) :
  j8 K Γ E nx (a.put dst r) w:=by
 have hdf:Marks Γ (a.put dst r).defers w:=by cases dst<;>exact hd
 obtain⟨p,u,h1,h2,h3⟩:=CP g sv nx;obtain⟨hp,hk⟩:=(h1 _).1 h;exact⟨E,_,fun _ _=>rfl,Nat.le_refl _,⟨ht.put (h3 E r hr),(by grind [nZ,ajk]),hdf,hm⟩,hk⟩
theorem LK {P:Program}{o:Oper}(h:ff P o.op=true):vI o=true:=by unfold vI;cases ho:o.op<;>first | rfl | (rw[ho] at h;cases h)
theorem SX {P:Program}{call:sr->PT}{σ:Operand->Option SV}{m:Mem}{nx:Nat}{o:Oper}{K:KL}(h:(lop P call σ m nx o.op K).holds):vI o=true:=by unfold vI;cases ho:o.op<;>first | rfl | (rw[ho] at h;exact h.elim)
def qz (KP:PK)(Γ:aQ)(E:Nat->Nat)(nx:Nat)(e:Exit)(a:Act)(w:World):Prop :=∃ ch,e=.panic ch/\Marks Γ a.defers w/\lB KP Γ E nx ch w
theorem vY {P:Program}{Γ:aQ}{ro:Option Nat}{KP:PK}{call:sr->PT}(hcall: ∀ c,qO P Γ KP c (call c)){ops:Array Oper}{j:Nat}{o:Oper}{K:St->VC}{st:St}(h:(dF P call ops j o K st).holds)
  {E:Nat->Nat} {a:Act} {w:World} (hs:Sat Γ E st a w) (Q:Exit->Act->World->Prop) (hP: ∀ e w,qz KP Γ E st.nx e a w->Q e a w) :
  if Region.wanted o (yielded ops a.tmps)then o.wpIn (Fr ro) 0 P a w (fun a' w'=>(∃ r,a'=a.put o.dst r)/\j8 K Γ E st.nx a' w') Q else j8 K Γ E st.nx (a.put o.dst undef) w:=by
 unfold dF at h;split at h
 ·rename_i hg;rw[xB hs.tm hg,if_pos rfl];split at h
  ·rename_i hq;obtain⟨obl,sv,h1,h2⟩:=QG (P:=P) (look:=fun k=>st.m.get k) (σ:=ev st.tmps) o;obtain⟨hobl,hk⟩:=(h1 _).1 h;obtain⟨r,hrun,hv⟩:=h2 E w a.eval ⟨hs.mm.qD,hs.mm.G2,hs.mm.jK⟩ hs.tm.reads hobl;refine Out.wp (LK hq) (R:=fun v w'=>w'=w/\v=r) (RP:=fun _ _=>False) ?_ ?_ (fun _ _ h=>h.elim)
   ·rw[hrun];exact⟨rfl,rfl⟩
   ·rintro v w' ⟨rfl,rfl⟩;exact⟨⟨_,rfl⟩,BC hk hs.tm hs.wt hs.df hs.mm hv⟩
  ·split at h
   ·rename_i hwf;obtain⟨Ds,d1,d2,d3,d4⟩:=hs.df;have hm:=hs.mm.more fun D hD=>(d3 D hD).1;have:=aom (fun c=>(hcall c).mono (Γ.P5 Ds)) o _ E w a.eval h hm hwf (cK.wf hs.wt) hs.tm.reads;refine Out.wp (SX h) this ?_ ?_
    rotate_left
    ·rintro ch w' ⟨E',v,m',nx',g1,g2,g3,gw,g4,g5⟩;exact hP _ _ ⟨ch,rfl,Marks.kept d1 d2 (fun D hD=>(d3 D hD).2) d4 g4,E',v,m',nx',g1,g2,g3,gw,g4.weaken (Γ.P5 Ds),g5⟩
    rintro r w' ⟨E',sv,m',nx',g1,g2,g3,g4,g5⟩;have ht:=hs.tm.congr hs.wt g1;obtain⟨E'',st',k1,k2,k3,k4⟩:=BC g5 ht (m4 g2 hs.wt) (Marks.kept d1 d2 (fun D hD=>(d3 D hD).2) d4 g4) (g4.weaken (Γ.P5 Ds)) g3;exact⟨⟨_,rfl⟩,E'',st',fun k hk=>(k1 k (Nat.lt_of_lt_of_le hk g2)).trans (g1 k hk),Nat.le_trans g2 k2,k3,k4⟩
   ·exact h.elim
 ·rename_i hg;rw[xB hs.tm hg];simp only[Bool.false_eq_true,if_false];exact⟨E,⟨bV st.tmps o.dst (some (.bL [])),st.m,st.nx⟩,fun _ _=>rfl,Nat.le_refl _,⟨hs.tm.put (sv:=some (.bL [])) (r:=undef) (fun v hv=>by injection hv with hv;subst hv;rfl),nZ hs.wt (fun u hu=>by injection hu with hu;subst hu;rfl),by cases o.dst<;>exact hs.df,hs.mm⟩,h⟩
 ·exact h.elim
def mA (P:Program)(call:sr->PT)(ops:Array Oper):List Nat->(St->VC)->St->VC
 | [],K,st=>K st
 | j::r,K,st=>match ops[j]? with
   | some o=>dF P call ops j o (mA P call ops r K) st
   | none=>.fail "no operation"
def unsure (ops:Array Oper)(tmps:List (Option SV)):List (Option SV):=ops.toList.foldl (fun t o=>bV t o.dst none) tmps
theorem Q4 {tmps:List (Option SV)}{d:Option Nat}{i:Nat}{v:SV}(h:(bV tmps d none)[i]?=some (some v)):tmps[i]?=some (some v)/\d≠some i:=by
 cases d with
 | none=>exact⟨h,fun e=>by cases e⟩
 | some d =>grind [bV]
theorem Lf {ops:Array Oper}{tmps:List (Option SV)}{i:Nat}{v:SV}(h:(unsure ops tmps)[i]?=some (some v)):tmps[i]?=some (some v)/\∀ o∈ ops.toList,o.dst≠some i:=by
 unfold unsure at h;generalize ops.toList=l at h;induction l generalizing tmps with
 | nil=>grind
 | cons x r ih =>grind [Q4]
theorem X2 {ops:Array Oper}{tmps:List (Option SV)}:(unsure ops tmps).length=tmps.length:=by
 unfold unsure;generalize ops.toList=l;induction l generalizing tmps with
 | nil=>rfl
 | cons x r ih =>rw[List.foldl_cons,ih];cases x.dst<;>simp[bV]
theorem cK.unsure {E:Nat->Nat}{ops:Array Oper}{tmps:List (Option SV)}{a:Act}(h:cK E tmps a):cK E (unsure ops tmps) a :=⟨by rw[X2];exact h.size,fun i v hv=>h.val i v (Lf hv).1⟩
theorem cK.BS {E:Nat->Nat}{ops:Array Oper}{tmps:List (Option SV)}{a:Act}(h:cK E (Sx.unsure ops tmps) a){o:Oper}(ho:o∈ ops.toList)(r:Value):cK E (Sx.unsure ops tmps) (a.put o.dst r):=by
 cases hd:o.dst with
 | none=>exact h
 | some d =>refine⟨by simp[Act.put,h.size],fun i v hv=> ?_⟩;simp only[Act.put];rw[Array.getElem?_setIfInBounds,if_neg (fun e=>(Lf hv).2 o ho (by rw[hd,e]))];exact h.val i v hv
theorem OE {nx:Nat}{ops:Array Oper}{tmps:List (Option SV)}(h:dO nx tmps=true):dO nx (unsure ops tmps)=true:=by
 unfold unsure;generalize ops.toList=l;induction l generalizing tmps with
 | nil=>exact h
 | cons x r ih=>grind [nZ]
theorem qz.weaken {KP:PK}{Γ:aQ}{E E':Nat->Nat}{nx nx':Nat}{e:Exit}{a:Act}{w:World}(h:qz KP Γ E' nx' e a w)(hE: ∀ k,k<nx->E' k=E k)(hn:nx<=nx'):qz KP Γ E nx e a w:=by obtain⟨ch,h1,h2,h3⟩:=h;exact⟨ch,h1,h2,h3.weaken hE hn⟩
theorem Dw {P:Program}{Γ:aQ}{ro:Option Nat}{KP:PK}{call:sr->PT}(hcall: ∀ c,qO P Γ KP c (call c)){ops:Array Oper}{Q:Exit->Act->World->Prop}{K:St->VC}{E0:Nat->Nat}{wB:Nat}{T0:List (Option SV)}(hT0:dO wB T0=true)
  (hP: ∀ e a w,cK E0 (unsure ops T0) a->qz KP Γ E0 wB e a w->Q e a w) :
  ∀(l:List Nat) {st:St} {E:Nat->Nat} {a:Act} {w:World},(mA P call ops l K st).holds->Sat Γ E st a w->cK E0 (unsure ops T0) a->(∀ k,k<wB->E k=E0 k)->wB<=st.nx ->
   (∀ a w,j8 K Γ E st.nx a w->Q .normal a w)->wpOpsIn (Fr ro) 0 P ops Q l a w
 | [],st,E,a,w,h,hs,_,_,_,hQ=>hQ _ _ ⟨E,st,fun _ _=>rfl,Nat.le_refl _,hs,h⟩
 | j::r,st,E,a,w,h,hs,hF,hE0,hn0,hQ=>by
   rw[wpOpsIn_cons];unfold wpOpIn;simp only[mA] at h;cases ho:ops[j]? with
   | none=>rw[ho] at h;exact h.elim
   | some o =>
     rw[ho] at h;simp only;have hmem:o∈ ops.toList:=by rw[← Array.getElem?_toList] at ho;exact List.mem_of_getElem? ho
     have hstep:=vY (ro:=ro) hcall h hs Q (fun e w hb=>hP e a w hF (hb.weaken hE0 hn0));have go: ∀ a' w',((∃ r,a'=a.put o.dst r)/\j8 (mA P call ops r K) Γ E st.nx a' w')->wpOpsIn (Fr ro) 0 P ops Q r a' w':=by rintro a' w' ⟨⟨rr,ha⟩,E',st',g1,g2,g3,g4⟩;refine Dw hcall hT0 hP r g4 g3 (ha▸ cK.BS hF hmem rr) (fun k hk=>(g1 k (Nat.lt_of_lt_of_le hk hn0)).trans (hE0 k hk)) (Nat.le_trans hn0 g2) fun a'' w'' hb=>hQ a'' w'' ?_;obtain⟨E'',st'',k1,k2,k3,k4⟩:=hb;exact⟨E'',st'',fun k hk=>(k1 k (Nat.lt_of_lt_of_le hk g2)).trans (g1 k hk),Nat.le_trans g2 k2,k3,k4⟩
     split
     ·rename_i hw;rw[if_pos hw] at hstep;exact Oper.wpIn_mono go hstep
     ·rename_i hw;rw[if_neg hw] at hstep;exact⟨w8 ro,go _ _ ⟨⟨_,rfl⟩,hstep⟩⟩
theorem Ea {σ σ':Operand->Option SV}: ∀ {l:List Operand},(∀ x∈ l,σ x=σ' x)->RW σ l=RW σ' l
 | [],_=>rfl
 | x::r,h=>by simp only[RW];rw[h x (by simp),Ea fun y hy=>h y (by simp[hy])]
theorem tu {σ σ':Operand->Option SV}: ∀ {l:List (Nat×Operand)},(∀ p∈ l,σ p.2=σ' p.2)->partsOf σ l=partsOf σ' l
 | [],_=>rfl
 | (i,x)::r,h=>by simp only[partsOf];rw[h (i,x) (by simp),tu fun p hp=>h p (by simp[hp])]
theorem xe {σ σ':Operand->Option SV}{d:Bool×Int}{x:Option Operand}(h: ∀ y,x=some y->σ y=σ' y):bound σ d x=bound σ' d x:=by
 cases x with
 | none=>rfl
 | some y=>grind [Sx.bound]
def keyOf (σ:Operand->Option SV):Op->Option Nat
 | .load _ a=>(match σ a with
   | some (.ptr key _ _)=>some key
   | some (.o5 key _ _ _)=>some key
   | some (.lA key _ _ _ _)=>some key
   | some (.tM key _ _ _)=>some key
   | some (.iq key _ _)=>some key
   | some (.su key _ _ _ _)=>some key
   | _=>none)
 | .convert _ _ a=>(match σ a with
   | some (.slc key _ _ _ _)=>some key
   | some (.bI key _ _ _ _ _)=>some key
   | _=>none)
 | .lookup _ x _ _=>(match σ x with
   | some (.map key)=>some key
   | _=>none)
 | .call c=>(match c.args.toList with
   | [x]=>(match σ x with
     | some (.map key)=>some key
     | _=>none)
   | _=>none)
 | _=>none
theorem acn {P:Program}{look look':qA}{σ σ':Operand->Option SV}{o:Op}{K:Option SV->VC}(h: ∀ x∈ o.operands,σ x=σ' x)(hl: ∀ k,keyOf σ o=some k->look k=look' k) :
  qop P look σ o K=qop P look' σ' o K:=by
 cases o<;>simp only[Op.operands] at h<;>simp only[qop]
 case move x=>grind
 case assign x=>grind
 case pick c a b=>grind
 case load t a =>
  simp only[keyOf] at hl;rw[h a (by simp)] at hl ⊢;unfold Zm;cases P.underlying t with
  | none=>rfl
  | some d =>grind
 case nilCheck x=>grind
 case binOp op t x y yt=>grind
 case unOp op t x=>grind
 case convert s d x =>
  simp only[keyOf] at hl;rw[h x (by simp)] at hl ⊢;cases hx:σ' x with
  | none=>rfl
  | some a =>
    simp only[need,QE];split
    ·unfold Xl
     grind
    ·rfl
 case makeInterface t x=>grind
 case makeFunc fn a b =>grind [Ea]
 case slice t x lo hi mx =>
  have hx:=h x (by simp);have hlo: ∀ d,bound σ d lo=bound σ' d lo:=(by grind [xe])
  have hhi: ∀ d,bound σ d hi=bound σ' d hi:=(by grind [xe])
  have hmx: ∀ d,bound σ d mx=bound σ' d mx:=(by grind [xe])
  unfold QI;rw[hx];have e1: ∀ l s,uy σ l s lo hi K=uy σ' l s lo hi K:=(by grind [uy])
  have e2: ∀ m a key o n cl c,oF σ m a key o n cl c lo hi K=oF σ' m a key o n cl c lo hi K:=(by grind [oF])
  have e3: ∀ key w i n c,oE σ key w i n c lo hi K=oE σ' key w i n c lo hi K:=(by grind [oE])
  have e7: ∀ key w o i n c,rK σ key w o i n c lo hi K=rK σ' key w o i n c lo hi K:=(by grind [rK])
  have e8:ux σ lo hi K=ux σ' lo hi K:=(by grind [ux])
  have e4: ∀ key o n,uw σ key o n lo hi K=uw σ' key o n lo hi K:=(by grind [uw])
  have e5: ∀ n,zo σ n lo hi=zo σ' n lo hi:=(by grind [zo])
  have e6: ∀ m key o n c z,mx=some z->vS σ m key o n c lo hi z K=vS σ' m key o n c lo hi z K:=fun _ _ _ _ _ z hz=>by simp_all [Sx.vS]
  split
  ·exact e1 _ _
  ·grind
  ·grind
  ·grind
  ·grind
  ·grind
  ·grind
  ·rw[e8]
  ·rfl
 case fieldAddr s x f=>grind
 case field t x f=>grind
 case indexAddr t x i=>grind
 case index t x i=>grind
 case typeAssert x t at_ ok=>grind
 case extract x i=>grind
 case build t parts =>grind [tu,QD]
 case lookup t x k ok =>
  simp only[keyOf] at hl;rw[h x (by simp)] at hl ⊢;rw[h k (by simp)];unfold need;cases hx:σ' x with
  | none=>rfl
  | some v =>
    cases σ' k with
    | none=>rfl
    | some u =>
      simp only;unfold HE
      grind
 case call c =>
  obtain⟨callee,args,ats⟩:=c;cases callee with
  | value f=>rfl
  | invoke r m=>rfl
  | builtin b =>
    simp only[Call.operands] at h;simp only;unfold Zj;split
    ·rename_i x hx
     have hxe:=h x (by simp;have:x∈ args.toList:=by rw[hx];simp
                       grind)
     rw[hxe];cases args_ty:ats[0]? with
     | none=>rfl
     | some t =>
       simp only;unfold need;cases hv:σ' x with
       | none=>rfl
       | some v =>
         simp only;unfold Zl
         grind [keyOf]
    ·rename_i x hx;rw[h x (by simp;have:x∈ args.toList:=by rw[hx];simp
                              grind)]
    ·rename_i x y hx;have h1:x∈ args.toList:=by rw[hx];simp
     have h2:y∈ args.toList:=by rw[hx];simp
     grind
    ·rename_i x y hx;have h1:x∈ args.toList:=by rw[hx];simp
     have h2:y∈ args.toList:=by rw[hx];simp
     grind
    ·rfl
theorem o8 {σ σ':Operand->Option SV}{o:Op}(h: ∀ x∈ o.operands,σ x=σ' x):keyOf σ o=keyOf σ' o:=by
 cases o<;>simp only[keyOf]
 case load t a=>grind [Op.operands]
 case convert s d a=>grind [Op.operands]
 case lookup t x k ok=>grind [Op.operands]
 grind [Op.operands,Call.operands]
theorem abS {P:Program}{call:sr->PT}{σ σ':Operand->Option SV}{m:Mem}{nx:Nat}{o:Op}{K:KL}(h: ∀ x∈ o.operands,σ x=σ' x):lop P call σ m nx o K=lop P call σ' m nx o K:=by
 cases o<;>simp only[Op.operands] at h<;>simp only[lop]
 case box t x=>grind
 case buildSlice t len parts =>grind [tu,pg]
 case makeSlice t x y=>grind
 case store t a x=>grind
 case makeMap t r=>cases r with
  | none=>rfl
  | some x=>grind
 case mapUpdate t x k v=>grind
 case insert t x k v=>grind
 case mapEntry t x k=>grind
 case entryStore t x k v=>grind
 case range t x=>grind
 case next x b=>grind
 case entry x=>grind
 case panic x=>grind
 grind [Ea,RW,Call.operands,FP,invoke,builtin]
def aJ (pt:PT):Prop:=∀ args m nx (K K':SV->Mem->Nat->VC),(∀ v m nx,(K v m nx).holds->(K' v m nx).holds)->(pt args m nx K).holds->(pt args m nx K').holds
theorem aep {l:Bool}{c:Prop}[Decidable c]{t t':VC}(h:t.holds->t'.holds):(Hj l c t).holds->(Hj l c t').holds:=by
 unfold Hj;cases l
 ·exact fun x=>⟨x.1,h x.2⟩
 grind
theorem EK {x:Option SV}{t t':SV->VC}(h: ∀ v,(t v).holds->(t' v).holds):(need x t).holds->(need x t').holds:=by
 cases x with
 | none=>exact id
 | some v=>exact h v
theorem nr {d:TypeDesc}{k:SV}{t t':Hit->VC}(h: ∀ r,(t r).holds->(t' r).holds): ∀ {es:List (Nat×SV×SV)} {i:Nat},(jq d k t es i).holds->(jq d k t' es i).holds
 | [],i,hh=>h _ hh
 | e::r,i,hh=>by
   unfold jq at hh ⊢;split at hh
   ·split at hh
    ·exact h _ hh
    ·exact nr h hh
   ·rw[dx] at hh ⊢;split at hh
    ·exact h _ hh
    ·exact nr h hh
   ·exact hh
theorem wj {P:Program}{t:TypeId}{x k:Option SV}{m:Mem}{f f':TypeDesc->SV->Nat->List (Nat×SV×SV)->Nat->SV->VC}(h: ∀ d kv key es clock z,(f d kv key es clock z).holds->(f' d kv key es clock z).holds) :
  (tg P t x k m f).holds->(tg P t x k m f').holds:=by
 unfold tg;split
 ·grind
 ·exact id
theorem BZ {f f':Option (Nat×SV×SV)->VC}(h: ∀ e,(f e).holds->(f' e).holds): ∀ {l:List (Option (Nat×SV×SV))},(BY f l).holds->(BY f' l).holds
 | [],hh=>hh
 | [_],hh=>h _ hh
 | _::_::_,hh=>⟨h _ hh.1,BZ h hh.2⟩
theorem G3 {P:Program}{t:TypeId}{x k v:Option SV}{m:Mem}{nx:Nat}{K K':KL}(h: ∀ v m nx,(K v m nx).holds->(K' v m nx).holds):(oz P t x k v m nx K).holds->(oz P t x k v m nx K').holds:=by
 unfold oz;refine wj fun d kv key es clock z=> ?_;split
 ·grind [nr]
 ·exact id
theorem I0 {P:Program}{t:TypeId}{x k:Option SV}{m:Mem}{nx:Nat}{K K':KL}(h: ∀ v m nx,(K v m nx).holds->(K' v m nx).holds):(qU P t x k m nx K).holds->(qU P t x k m nx K').holds:=by grind [wj,nr,qU]
theorem Em {x s v:Option SV}{m:Mem}{nx:Nat}{K K':KL}(h: ∀ v m nx,(K v m nx).holds->(K' v m nx).holds):(mI x s v m nx K).holds->(mI x s v m nx K').holds:=by
 unfold mI
 grind
theorem P4 {P:Program}{ats:Array TypeId}{x k:SV}{m:Mem}{nx:Nat}{K K':KL}(h: ∀ v m nx,(K v m nx).holds->(K' v m nx).holds):(zl P ats x k m nx K).holds->(zl P ats x k m nx K').holds:=by
 unfold zl;split
 ·split
  ·grind
  grind [wj,nr]
 ·exact id
theorem SY {P:Program}{t:TypeId}{x:Option SV}{m:Mem}{nx:Nat}{K K':KL}(h: ∀ v m nx,(K v m nx).holds->(K' v m nx).holds):(EC P t x m nx K).holds->(EC P t x m nx K').holds:=by
 unfold EC
 grind
theorem SJ {x:Option SV}{m:Mem}{nx:Nat}{K K':KL}(h: ∀ v m nx,(K v m nx).holds->(K' v m nx).holds):(Et x m nx K).holds->(Et x m nx K').holds:=by
 unfold Et
 repeat' first
  | exact h _ _ _
  | exact id
  | split
theorem WN {x:Option SV}{s:Bool}{m:Mem}{nx:Nat}{K K':KL}(h: ∀ v m nx,(K v m nx).holds->(K' v m nx).holds):(M7 x s m nx K).holds->(M7 x s m nx K').holds:=by
 unfold M7;split
 ·split
  ·exact h _ _ _
  ·split
   ·grind [BZ]
   ·exact id
  ·exact id
 ·exact id
theorem SW {P:Program}{call:sr->PT}(hm: ∀ f,aJ (call f)){σ:Operand->Option SV}{m:Mem}{nx:Nat}{o:Op}{K K':KL}(h: ∀ v m nx,(K v m nx).holds->(K' v m nx).holds) :
  (lop P call σ m nx o K).holds->(lop P call σ m nx o K').holds:=by
 have hnew: ∀ t z,(Qi t z m nx K).holds->(Qi t z m nx K').holds:=by grind [Qi,id]
 have hupd: ∀ t x k v,(ki P t x k v m nx K).holds->(ki P t x k v m nx K').holds:=fun t x k v=>by
  unfold ki;split
  ·have hfu: ∀ key f c (v:Option SV) m,(mj P t key f c k v m nx K).holds->(mj P t key f c k v m nx K').holds:=fun key f c v m=>by
    unfold mj
    grind
   grind [IF]
  exact G3 h
 have hgrown: ∀ e n cs s m nx,(grown e n cs s m nx K).holds->(grown e n cs s m nx K').holds:=fun e n cs s m nx x c hc=>h _ _ _ (x c hc);unfold lop;split
 ·grind
 ·grind [EK]
 ·unfold pg;split
  ·grind [Sx.sz,Sx.i6,Sx.partsOf,Sx.xw,Sx.times,Sx.WO]
  ·exact id
 ·refine EK fun a=>EK fun b=> ?_;unfold FQ;split
  ·grind [aep]
  ·split
   ·split
    ·split
     ·exact fun hh=>⟨hh.1,h _ _ _ hh.2⟩
     ·exact id
    ·exact id
   ·exact id
  ·exact id
 ·unfold tr;split
  ·grind
  ·split
   ·split
    ·split
     ·exact fun x=>⟨x.1,h _ _ _ x.2⟩
     ·exact id
    ·exact id
   ·split
    ·exact fun x=>⟨x.1,h _ _ _ x.2⟩
    ·exact id
   ·exact id
  ·split
   ·split
    ·split
     ·exact fun x=>⟨x.1,h _ _ _ x.2⟩
     ·exact id
    ·exact id
   ·exact id
  ·split
   ·split
    ·split
     ·split
      ·exact fun x=>⟨x.1,h _ _ _ x.2⟩
      ·exact id
     ·exact id
    ·exact id
   ·exact id
  ·split
   ·split
    ·split
     ·exact fun x=>⟨x.1,h _ _ _ x.2⟩
     ·exact id
    ·exact id
   ·exact id
  ·exact id
 ·unfold FP;split
  ·split
   ·exact hm _ _ _ _ _ _ fun v m nx=>h _ _ _
   ·exact hm _ _ _ _ _ _ fun v m nx=>h _ _ _
   ·exact id
  ·split
   ·split
    ·split
     ·exact hm _ _ _ _ _ _ fun v m nx=>h _ _ _
     ·exact id
    ·exact id
   ·exact id
  ·unfold Ct;split
   ·unfold Hx;split
    ·split
     ·split
      ·split
       ·split
        ·unfold Ep;split
         ·split
          ·split
           ·grind
           ·grind
           ·split
            ·split
             ·exact fun x=>⟨x.1,fun c hc=>h _ _ _ (x.2 c hc)⟩
             ·exact id
            ·exact id
           ·exact id
          ·exact id
         ·exact id
        ·exact id
       ·exact id
      ·exact id
     ·exact id
    ·exact id
   ·split
    ·grind [Eo]
    ·exact id
  ·unfold YY;split
   ·split
    ·split
     ·grind
     ·unfold Cv;split
      ·split
       ·exact fun x=>⟨x.1,h _ _ _ x.2⟩
       ·exact id
      ·exact id
     ·exact id
    ·exact id
   ·exact id
  ·exact P4 h
  ·exact id
 ·unfold CA
  grind
 ·exact hupd _ _ _ _
 ·exact hupd _ _ _ _
 ·unfold zq;split
  ·unfold zc;split
   ·split
    ·split
     ·split
      ·exact fun hh b=>h _ _ _ (hh b)
      ·exact id
     ·exact id
    ·exact id
   ·exact id
  exact I0 h
 ·unfold sL;split
  ·unfold ze;split
   ·split
    ·exact fun hh=>And.intro hh.1 (h _ _ _ hh.2)
    ·exact id
   ·exact id
  exact Em h
 ·exact SY h
 ·exact WN h
 ·exact SJ h
 ·exact id
 ·exact id
def names (ops:Array Oper)(o:Oper):List Nat:=o.looksAt ops
def qtr (P:Program)(ops:Array Oper)(j:Nat)(o:Oper)(tmps:List (Option SV))(m:Mem)(nx:Nat)(k:Option SV->VC):VC :=
 match guardOf ops o tmps with
 | some true=>qop P (fun k=>m.get k) (ev tmps) o.op (fun v=>Xi (sJ ops j) v nx k)
 | some false=>k (some (.bL []))
 | none=>.fail "a guard that is not known"
theorem kX {P:Program}{call:sr->PT}{ops:Array Oper}{j:Nat}{o:Oper}(hq:ff P o.op=true)(K:St->VC)(st:St) :
  dF P call ops j o K st=qtr P ops j o st.tmps st.m st.nx (fun v=>K ⟨bV st.tmps o.dst v,st.m,st.nx⟩):=by
 unfold dF qtr;cases guardOf ops o st.tmps with
 | none=>rfl
 | some b=>cases b<;>simp only[hq]<;>rfl
theorem HF (P:Program)(ops:Array Oper)(j:Nat)(o:Oper)(tmps:List (Option SV))(m:Mem)(nx:Nat) :
  ∃(p:Prop) (u:Option SV),(∀ k,(qtr P ops j o tmps m nx k).holds↔p/\(k u).holds):=by
 unfold qtr;cases guardOf ops o tmps with
 | none=>exact⟨False,none,fun k=>⟨fun h=>h.elim,fun h=>h.1.elim⟩⟩
 | some b =>
   cases b with
   | false=>exact⟨True,some (.bL []),(by grind)⟩
   | true =>obtain⟨obl,sv,h1,_⟩:=QG (P:=P) (look:=fun k=>m.get k) (σ:=ev tmps) o;obtain⟨p,u,g1,_,_⟩:=CP (sJ ops j) sv nx;exact⟨obl/\p,u,(by grind)⟩
theorem Jl {ops:Array Oper}{o:Oper}{t:Nat}(h:Operand.tmp t∈ o.op.operands):t∈ o.looksAt ops:=by simp only[Oper.looksAt,List.mem_append,List.mem_filterMap];exact .inl ⟨.tmp t,by simpa using h,rfl⟩
theorem CC {ops:Array Oper}{o oj:Oper}{j d:Nat}{b:Bool}(hg:o.guard=some (j,b))(hj:ops[j]?=some oj)(hd:oj.dst=some d):d∈ o.looksAt ops:=by grind [Oper.looksAt]
def Agree (ops:Array Oper)(o:Oper)(tmps tmps':List (Option SV)):Prop:=∀ t∈ o.looksAt ops,slot tmps t=slot tmps' t
theorem Agree.ev {ops:Array Oper}{o:Oper}{tmps tmps':List (Option SV)}(h:Agree ops o tmps tmps'): ∀ x∈ o.op.operands,Sx.ev tmps x=Sx.ev tmps' x:=by
 intro x hx;cases x with
 | tmp t=>exact h t (Jl hx)
 | _=>rfl
theorem Agree.guard {ops:Array Oper}{o:Oper}{tmps tmps':List (Option SV)}(h:Agree ops o tmps tmps'):guardOf ops o tmps=guardOf ops o tmps':=by
 unfold guardOf;split
 ·rfl
 ·rename_i j want hg;split
  ·rename_i oj hj;split
   ·rename_i d hd;rw[h d (CC hg hj hd)]
   ·rfl
  ·rfl
theorem EW {P:Program}{ops:Array Oper}{j:Nat}{o:Oper}{tmps tmps':List (Option SV)}{m m':Mem}{nx:Nat}{k:Option SV->VC}(h:Agree ops o tmps tmps')
  (hl: ∀ key,keyOf (ev tmps) o.op=some key->m.get key=m'.get key):qtr P ops j o tmps m nx k=qtr P ops j o tmps' m' nx k:=by
 unfold qtr;rw[h.guard];cases guardOf ops o tmps' with
 | none=>rfl
 | some b =>
   cases b with
   | false=>rfl
   | true=>exact acn h.ev hl
theorem GM: ∀ {tmps:List (Option SV)} {d t:Nat} {v:Option SV},d≠t->slot (tmps.set d v) t=slot tmps t
 | [],_,_,_,_=>rfl
 | _::_,0,0,_,h=>absurd rfl h
 | _::_,0,_+1,_,_=>rfl
 | _::_,_+1,0,_,_=>rfl
 | _::r,d+1,t+1,v,h=>GM (tmps:=r) (fun e=>h (by rw[e]))
theorem kQ {ops:Array Oper}{o:Oper}{tmps:List (Option SV)}{dst:Option Nat}{v:Option SV}(h: ∀ d,dst=some d->d∉ o.looksAt ops):Agree ops o (bV tmps dst v) tmps:=by
 intro t ht;cases dst with
 | none=>rfl
 | some d=>exact GM (by grind)
theorem Dy {tmps:List (Option SV)}{x y:Option Nat}{v u:Option SV}(h: ∀ d,x=some d->y≠some d):bV (bV tmps x v) y u=bV (bV tmps y u) x v:=by
 cases x with
 | none=>rfl
 | some d =>
   cases y with
   | none=>rfl
   | some e =>
     have:d≠e:=(by grind)
     grind [List.set_comm,bV]
def oD (c:Bool)(keys:List Nat)(m m':Mem)(t:VC):VC :=
 match keys with
 | []=>t
 | k::r=>.and (match c with
   | true=>ng (m'.get k) (m.get k)
   | false=>.atom (m'.get k=m.get k)) (oD c r m m' t)
theorem jF {c:Bool}{keys:List Nat}{m m':Mem}{t:VC}:(oD c keys m m' t).holds↔(∀ k∈ keys,m'.get k=m.get k)/\t.holds:=by
 induction keys with
 | nil=>simp[oD]
 | cons k r ih =>
   cases c
   all_goals
    simp only[oD,ng,VC.holds,ih,List.mem_cons,forall_eq_or_imp];exact⟨fun h=>⟨⟨h.1,h.2.1⟩,h.2.2⟩,fun h=>⟨h.1.1,h.1.2,h.2⟩⟩
def isClosed (call:sr->PT):Bool:=match call (.yield 999999) [] [] 0 (fun _ _ _=>.tt)with
 | .atom _=>true
 | _=>false
def Sd (nx nx':Nat)(t:VC):VC:=match Nat.ble nx nx' with
 | true=>t
 | false=>.fail "keys"
theorem qS {nx nx':Nat}{t:VC}:(Sd nx nx' t).holds↔nx<=nx'/\t.holds:=by
 unfold Sd;cases h:Nat.ble nx nx' with
 | true=>exact⟨fun x=>⟨Nat.le_of_ble_eq_true h,x⟩,fun x=>x.2⟩
 | false=>exact⟨fun x=>x.elim,fun x=>by have:=Nat.ble_eq_true_of_le x.1;rw[h] at this;cases this⟩
section
variable {P : Program} {call : sr -> PT} {ops : Array Oper}
theorem ck (hm: ∀ f,aJ (call f)){j:Nat}{o:Oper}{K K':St->VC}{st:St}
  (h: ∀ u m nx,(K ⟨bV st.tmps o.dst u,m,nx⟩).holds->(K' ⟨bV st.tmps o.dst u,m,nx⟩).holds) (hh:(dF P call ops j o K st).holds):(dF P call ops j o K' st).holds:=by
 cases hq:ff P o.op with
 | true =>rw[kX hq] at hh ⊢;obtain⟨p,u,hd⟩:=HF P ops j o st.tmps st.m st.nx;rw[hd] at hh ⊢;exact⟨hh.1,h _ _ _ hh.2⟩
 | false =>
   unfold dF at hh ⊢;cases hg:guardOf ops o st.tmps with
   | none=>rw[hg] at hh;exact hh.elim
   | some b =>
     rw[hg] at hh;cases b with
     | false=>exact h _ _ _ hh
     | true =>
       simp only[hq] at hh ⊢;cases hw:Mem.wf st.nx st.m with
       | false=>rw[hw] at hh;exact hh.elim
       | true =>rw[hw] at hh;simp only at hh ⊢;refine SW hm (fun v m nx hp=> ?_) hh;obtain⟨p,u,g1,_,_⟩:=CP (sJ ops j) v nx;unfold Xh at hp ⊢;rw[g1] at hp ⊢;exact⟨hp.1,h _ _ _ hp.2⟩
def stepG (P:Program)(call:sr->PT)(ops:Array Oper)(i:Nat)(o:Oper)(H:List Nat)(K:St->VC)(st:St):VC :=dF P call ops i o (fun st'=>oD (isClosed call) H st.m st'.m (Sd st.nx st'.nx (K st'))) st
theorem acg {g:Bool}{v:Option SV}{nx nx':Nat}(hn:nx<=nx'){k:Option SV->VC}(h:(Xi g v nx k).holds):(Xi g v nx' k).holds:=by
 have hw:wfO nx v=true->wfO nx' v=true:=by cases v with
  | none=>exact id
  | some v=>exact SV.j0 hn v
 unfold Xi at *;split at h
 ·exact h
 ·rename_i g' v' hne;cases hv:wfO nx v with
  | false=>rw[hv] at h;exact h.elim
  | true =>rw[hv] at h;rw[hw hv];exact h
theorem agK {j:Nat}{o:Oper}{tmps:List (Option SV)}{m:Mem}{nx nx':Nat}(hn:nx<=nx'){k:Option SV->VC}(h:(qtr P ops j o tmps m nx k).holds):(qtr P ops j o tmps m nx' k).holds:=by
 unfold qtr at h ⊢;cases hg:guardOf ops o tmps with
 | none=>rw[hg] at h;exact h.elim
 | some b =>
   rw[hg] at h;cases b with
   | false=>exact h
   | true =>obtain⟨obl,sv,h1,_⟩:=QG (P:=P) (look:=fun k=>m.get k) (σ:=ev tmps) o;simp only at h ⊢;rw[h1] at h ⊢;refine⟨h.1,?_⟩;exact acg hn h.2
structure Fu (ops:Array Oper)(x y:Oper):Prop where
 a: ∀ d,x.dst=some d->d∉ y.looksAt ops
 b: ∀ d,x.dst=some d->y.dst≠some d
 c: ∀ d,y.dst=some d->d∉ x.looksAt ops
theorem acQ (hm: ∀ f,aJ (call f)){jp ji:Nat}{op oi:Oper}(hp:ff P op.op=true)(hi:ff P oi.op=false)(ha:Fu ops op oi){H H1:List Nat}{K:St->VC}{st:St}
  (hH: ∀ k∈ H,k∈ H1) (hk: ∀ k,keyOf (ev st.tmps) op.op=some k->k∈ H1) (h:(dF P call ops jp op (stepG P call ops ji oi H1 K) st).holds) :
  (stepG P call ops ji oi H (dF P call ops jp op K) st).holds:=by
 obtain⟨tmps,m,nx⟩:=st;rw[kX hp] at h;obtain⟨pp,u,hd⟩:=HF P ops jp op tmps m nx;obtain⟨hpp,h⟩:=(hd _).1 h;have hag:Agree ops oi (bV tmps op.dst u) tmps:=kQ ha.a
 have fin: ∀(u':Option SV) (m':Mem) (nx':Nat),(oD (isClosed call) H1 m m' (Sd nx nx' (K ⟨bV (bV tmps op.dst u) oi.dst u',m',nx'⟩))).holds ->
   (oD (isClosed call) H m m' (Sd nx nx' (dF P call ops jp op K ⟨bV tmps oi.dst u',m',nx'⟩))).holds:=by
  intro u' m' nx' hh;rw[jF,qS] at hh ⊢;refine⟨fun k hk'=>hh.1 k (hH k hk'),hh.2.1,?_⟩;rw[kX hp];have h1:(qtr P ops jp op tmps m nx (fun v=>K ⟨bV (bV tmps oi.dst u') op.dst v,m',nx'⟩)).holds:=by rw[hd];refine⟨hpp,?_⟩;rw[Dy (fun d hd' he=>ha.b d he hd')];exact hh.2.2
  have h2:=agK hh.2.1 h1;rw[EW (tmps':=bV tmps oi.dst u') (m':=m') (fun t ht=>((kQ (tmps:=tmps) (v:=u') ha.c) t ht).symm) (fun key hkey=>(hh.1 key (hk key hkey)).symm)] at h2;exact h2
 unfold stepG dF at h ⊢;rw[hag.guard] at h;cases hg:guardOf ops oi tmps with
 | none=>rw[hg] at h;exact h.elim
 | some b =>
   rw[hg] at h;cases b with
   | false=>exact fin _ _ _ h
   | true =>
     simp only[hi] at h ⊢;cases hw:Mem.wf nx m with
     | false=>rw[hw] at h;exact h.elim
     | true =>rw[hw] at h;simp only at h ⊢;rw[abS hag.ev] at h;refine SW hm (fun v m' nx' hpk=> ?_) h;obtain⟨p',u',g1,_,_⟩:=CP (sJ ops ji) v nx';unfold Xh at hpk ⊢;rw[g1] at hpk ⊢;exact⟨hpk.1,fin _ _ _ hpk.2⟩
theorem K9 {jp ji:Nat}{op oi:Oper}(hp:ff P op.op=true)(hi:ff P oi.op=true)(ha:Fu ops op oi){K:St->VC}{st:St}
  (h:(dF P call ops jp op (dF P call ops ji oi K) st).holds):(dF P call ops ji oi (dF P call ops jp op K) st).holds:=by
 obtain⟨tmps,m,nx⟩:=st;rw[kX hp] at h;obtain⟨pp,u,hd⟩:=HF P ops jp op tmps m nx;obtain⟨hpp,h⟩:=(hd _).1 h;rw[kX hi] at h ⊢;rw[EW (tmps':=tmps) (kQ ha.a) (fun _ _=>rfl)] at h;obtain⟨pi,v,hd2⟩:=HF P ops ji oi tmps m nx;rw[hd2] at h ⊢;refine⟨h.1,?_⟩;rw[kX hp];rw[EW (tmps':=tmps) (kQ ha.c) (fun _ _=>rfl),hd];refine⟨hpp,?_⟩;have h2:=h.2;simp only at h2 ⊢;rw[Dy (fun d hd' he=>ha.b d he hd')];exact h2
def nk (mask:Nat)(rd:List (Nat×Nat)):List Nat :=
 match rd with
 | []=>[]
 | (p,k)::r=>match mask.testBit p with
   | true=>nk mask r
   | false=>k::nk mask r
theorem o9 {mask:Nat}{k:Nat}: ∀ {rd:List (Nat×Nat)},k∈ nk mask rd↔∃ p,(p,k)∈ rd/\mask.testBit p=false
 | []=>by simp[nk]
 | (p,x)::r=>by
   simp only[nk];cases h:mask.testBit p with
   | true =>
     simp only[o9 (rd:=r),List.mem_cons,Prod.mk.injEq];constructor
     ·rintro⟨q,h1,h2⟩;exact⟨q,.inr h1,h2⟩
     ·rintro⟨q,h1 | h1,h2⟩
      ·obtain⟨rfl,rfl⟩:=h1;rw[h] at h2;cases h2
      ·exact⟨q,h1,h2⟩
   | false =>
     simp only[List.mem_cons,o9 (rd:=r),Prod.mk.injEq];constructor
     ·rintro(rfl | ⟨q,h1,h2⟩)
      ·exact⟨p,.inl ⟨rfl,rfl⟩,h⟩
      ·exact⟨q,.inr h1,h2⟩
     ·rintro⟨q,h1 | h1,h2⟩
      ·obtain⟨rfl,rfl⟩:=h1;exact .inl rfl
      ·exact .inr ⟨q,h1,h2⟩
def addKey (j:Nat)(k:Option Nat)(rd:List (Nat×Nat)):List (Nat×Nat) :=
 match k with
 | some k=>(j,k)::rd
 | none=>rd
def rm (f:Nat->VC):List Nat->VC
 | []=>.tt
 | j::r=>(match r with
   | []=>f j
   | _::_=>.and (f j) (rm f r))
theorem vj {f:Nat->VC}: ∀ {l:List Nat},(rm f l).holds->∀ j∈ l,(f j).holds
 | [],_,_,h=>by cases h
 | [j],h,k,hk=>by simp only[List.mem_singleton] at hk;subst hk;exact h
 | j::x::r,h,k,hk=>by
   rw[List.mem_cons] at hk;rcases hk with rfl | hk
   ·exact h.1
   ·exact vj (l:=x::r) h.2 k hk
theorem oQ {f g:Nat->VC}(hfg: ∀ j,(f j).holds->(g j).holds): ∀ {l:List Nat},(rm f l).holds->(rm g l).holds
 | [],h=>h
 | [j],h=>hfg j h
 | j::x::r,h=>⟨hfg j h.1,oQ hfg (l:=x::r) h.2⟩
def nq:List Nat->Nat
 | []=>0
 | q::r=>Nat.lor (Nat.pow 2 q) (nq r)
theorem M5 {k:Nat}: ∀ {l:List Nat},(nq l).testBit k=true->k∈ l
 | [],h=>by simp[nq] at h
 | q::r,h=>by
   have h:(2^ q ||| nq r).testBit k=true:=h;simp only[Nat.testBit_or,Bool.or_eq_true] at h;rcases h with h | h
   ·rw[Nat.testBit_two_pow] at h;simp at h;simp[h]
   ·exact List.mem_cons_of_mem _ (M5 h)
theorem M6 {k:Nat}: ∀ {l:List Nat},k∈ l->(nq l).testBit k=true
 | q::r,h=>by
   show(2^ q ||| nq r).testBit k=true;simp only[Nat.testBit_or,Bool.or_eq_true];rw[List.mem_cons] at h;rcases h with rfl | h
   ·left;simp[]
   ·exact .inr (M6 h)
def isReady (masks:List Nat)(lm:Nat)(j:Nat):Bool:=Nat.beq (Nat.land (masks.getD j 0) lm) 0
theorem mG {masks l:List Nat}{j:Nat}:isReady masks (nq l) j=true↔∀ q∈ l,(masks.getD j 0).testBit q=false:=by
 unfold isReady;constructor
 ·intro h q hq;have h0:=Nat.eq_of_beq_eq_true h;have:(masks.getD j 0 &&& nq l).testBit q=false:=by show(Nat.land (masks.getD j 0) (nq l)).testBit q=false;rw[h0];exact Nat.zero_testBit q
  rw[Nat.testBit_and,M6 hq,Bool.and_true] at this;exact this
 ·intro h;have key: ∀ {a b:Nat},a=b->Nat.beq a b=true:=fun e=>by subst e;exact Nat.beq_refl _
  apply key;apply Nat.eq_of_testBit_eq;intro k;show(masks.getD j 0 &&& nq l).testBit k=_;rw[Nat.testBit_and,Nat.zero_testBit];cases hk:(nq l).testBit k with
  | false=>simp
  | true=>rw[h k (M5 hk)];rfl
def quietAt (P:Program)(ops:Array Oper)(j:Nat):Bool:=match ops[j]? with
 | some o=>ff P o.op
 | none=>false
def Ch (P:Program)(ops:Array Oper)(masks:List Nat)(lm:Nat):List Nat->Option Nat
 | []=>none
 | j::r=>match quietAt P ops j&&isReady masks lm j with
   | true=>some j
   | false=>Ch P ops masks lm r
theorem vt {masks:List Nat}{lm j:Nat}: ∀ {l:List Nat},Ch P ops masks lm l=some j->j∈ l/\quietAt P ops j=true/\isReady masks lm j=true
 | [],h=>by cases h
 | k::r,h=>by
   unfold Ch at h;split at h
   ·rename_i hk;injection h with h;subst h;rw[Bool.and_eq_true] at hk;exact⟨by simp,hk⟩
   ·have:=vt h;exact⟨by simp[this.1],this.2⟩
theorem vr {masks:List Nat}{lm:Nat}: ∀ {l:List Nat},Ch P ops masks lm l=none->∀ j∈ l,(quietAt P ops j&&isReady masks lm j)=false
 | [],_,_,hj=>by cases hj
 | k::r,h,j,hj=>by
   unfold Ch at h;split at h
   ·cases h
   ·rename_i hk;rw[List.mem_cons] at hj;rcases hj with rfl | hj
    ·exact hk
    ·exact vr h j hj
def KC (P:Program)(ops:Array Oper)(masks:List Nat)(l:List Nat):List Nat :=l.filter fun j=>!quietAt P ops j&&isReady masks (nq l) j
def cD (P:Program)(call:sr->PT)(ops:Array Oper)(masks:List Nat):Nat->List Nat->List (Nat×Nat)->(St->VC)->St->VC
 | _,[],_,K,st=>K st
 | 0,_::_,_,_,_=>.fail "a region that is too long"
 | n+1,x::r,rd,K,st=>match Ch P ops masks (nq (x::r)) (x::r)with
   | some i=>(match ops[i]? with
     | some o=>dF P call ops i o (cD P call ops masks n ((x::r).erase i) (addKey i (keyOf (ev st.tmps) o.op) rd) K) st
     | none=>.fail "no operation")
   | none=>rm (fun j=>match ops[j]? with
      | some oj=>stepG P call ops j oj (nk (masks.getD j 0) rd) (cD P call ops masks n ((x::r).erase j) rd K) st
      | none=>.fail "no operation") (KC P ops masks (x::r))
theorem sF {masks:List Nat}{n:Nat}{rd:List (Nat×Nat)}{K:St->VC}{st:St}:cD P call ops masks n [] rd K st=K st:=by cases n<;>rfl
theorem Rr {i:Nat}{k:Option Nat}{rd rd':List (Nat×Nat)}(h: ∀ x∈ rd,x∈ rd'): ∀ x∈ addKey i k rd,x∈ addKey i k rd':=by
 intro x hx;cases k with
 | none=>exact h x hx
 | some k=>simp only[addKey,List.mem_cons] at hx ⊢;exact hx.imp id (h x)
theorem Vy {i:Nat}{k:Option Nat}{rd:List (Nat×Nat)}: ∀ x∈ rd,x∈ addKey i k rd:=by
 intro x hx;cases k with
 | none=>exact hx
 | some k=>exact List.mem_cons_of_mem _ hx
theorem Fw {i j:Nat}{k k':Option Nat}{rd:List (Nat×Nat)}: ∀ x∈ addKey i k (addKey j k' rd),x∈ addKey j k' (addKey i k rd):=by intro x hx;cases k<;>cases k'<;>simp only[addKey,List.mem_cons] at hx ⊢ <;> first | exact hx | (rcases hx with h | h | h<;>simp[h])
theorem ry (hm: ∀ f,aJ (call f)){masks:List Nat}{K:St->VC}: ∀ {n:Nat} {l:List Nat} {rd rd':List (Nat×Nat)} {st:St},(∀ x∈ rd,x∈ rd')->(cD P call ops masks n l rd' K st).holds->(cD P call ops masks n l rd K st).holds
 | n,[],_,_,_,_,h=>by rw[sF] at h ⊢;exact h
 | 0,_::_,_,_,_,_,h=>h.elim
 | n+1,x::r,rd,rd',st,hr,h=>by
   simp only[cD] at h ⊢;split at h
   ·split at h
    ·exact ck hm (fun u m nx hh=>ry hm (Rr hr) hh) h
    ·exact h.elim
   ·refine oQ (fun j hj=> ?_) h;cases hoj:ops[j]? with
    | none=>rw[hoj] at hj;exact hj.elim
    | some oj =>rw[hoj] at hj;simp only at hj ⊢;refine ck hm (fun u m nx hh=> ?_) hj;rw[jF,qS] at hh ⊢;refine⟨fun k hk=>hh.1 k ?_,hh.2.1,ry hm hr hh.2.2⟩;rw[o9] at hk ⊢;obtain⟨p,h1,h2⟩:=hk;exact⟨p,hr _ h1,h2⟩
theorem Fu.symm {x y:Oper}(h:Fu ops x y):Fu ops y x:=⟨h.c,fun d hd he=>h.b d he hd,h.a⟩
def Rel (P:Program)(ops:Array Oper)(masks:List Nat)(p i:Nat):Prop :=∃ op oi,ops[p]?=some op/\ops[i]?=some oi/\((masks.getD i 0).testBit p=true∨(masks.getD p 0).testBit i=true∨(ff P op.op=false/\ff P oi.op=false)∨Fu ops op oi)
def Vx (P:Program)(ops:Array Oper)(masks:List Nat)(R:List Nat):Prop:=∀ p∈ R,∀ i∈ R,p≠i->Rel P ops masks p i
theorem Vx.erase {masks:List Nat}{R:List Nat}(h:Vx P ops masks R)(q:Nat):Vx P ops masks (R.erase q):=fun p hp i hi=>h p (List.mem_of_mem_erase hp) i (List.mem_of_mem_erase hi)
def JH (P:Program)(call:sr->PT)(ops:Array Oper)(masks:List Nat)(n:Nat)(i:Nat)(oi:Oper)(R:List Nat)(rd:List (Nat×Nat))(K:St->VC)(st:St):VC :=
 match ff P oi.op with
 | true=>dF P call ops i oi (cD P call ops masks n R (addKey i (keyOf (ev st.tmps) oi.op) rd) K) st
 | false=>stepG P call ops i oi (nk (masks.getD i 0) rd) (cD P call ops masks n R rd K) st
theorem ane (hm: ∀ f,aJ (call f)){masks:List Nat}{K:St->VC}: ∀(n:Nat),
  (∀ {R:List Nat} {rd:List (Nat×Nat)} {st:St} {i:Nat} {oi:Oper},R.length<=n+1->Vx P ops masks R->i∈ R->ops[i]?=some oi->(∀ q∈ R,(masks.getD i 0).testBit q=false) ->
    (cD P call ops masks (n+1) R rd K st).holds->(JH P call ops masks n i oi (R.erase i) rd K st).holds) /\
  (∀ {X:List Nat} {rd:List (Nat×Nat)} {st:St} {q:Nat} {oq:Oper},X.length<=n+1->Vx P ops masks X->q∈ X->ops[q]?=some oq->ff P oq.op=true->(∀ p∈ X,(masks.getD q 0).testBit p=false) ->
    (dF P call ops q oq (cD P call ops masks n (X.erase q) (addKey q (keyOf (ev st.tmps) oq.op) rd) K) st).holds->(cD P call ops masks (n+1) X rd K st).holds):=by
 have apart: ∀ {R:List Nat} {q i:Nat} {oq oi:Oper},Vx P ops masks R->q∈ R->i∈ R->q≠i->ops[q]?=some oq->ops[i]?=some oi->ff P oq.op=true ->
   (∀ p∈ R,(masks.getD q 0).testBit p=false)->(∀ p∈ R,(masks.getD i 0).testBit p=false)->Fu ops oq oi:=by
  intro R q i oq oi hR hq hi hne hoq hoi hqq h1 h2;obtain⟨op,oi',e1,e2,h⟩:=hR q hq i hi hne;rw[hoq] at e1;injection e1 with e1;subst e1;rw[hoi] at e2;injection e2 with e2;subst e2;rcases h with h | h | h | h
  ·rw[h2 q hq] at h;cases h
  ·rw[h1 i hi] at h;cases h
  ·rw[hqq] at h;cases h.1
  ·exact h
 intro n;induction n with
 | zero =>
   refine⟨fun {R rd st i oi} hl hR hi ho hrd h=> ?_,fun {X rd st q oq} hl hX hq ho hqq hrd h=> ?_⟩
   ·have hR1:R=[i]:=by
     match R,hl,hi with
     | [x],_,hi=>simp only[List.mem_singleton] at hi;rw[hi]
    subst hR1;simp only[cD] at h;split at h
    ·rename_i j hj;obtain⟨g1,g2,_⟩:=vt hj;simp only[List.mem_singleton] at g1;subst g1;simp only[quietAt,ho] at g2;rw[ho] at h;simp only[JH,g2];exact h
    ·rename_i hj;have hnq:=vr hj i (by simp);have hre:isReady masks (nq [i]) i=true:=mG.2 hrd;simp only[hre,Bool.and_true,quietAt,ho] at hnq;have:=vj h i (by simp only[KC,List.mem_filter,quietAt,ho,hnq,hre];simp);rw[ho] at this;simp only[JH,hnq];exact this
   ·have hX1:X=[q]:=by
     match X,hl,hq with
     | [x],_,hi=>simp only[List.mem_singleton] at hi;rw[hi]
    subst hX1;simp only[cD];have hre:isReady masks (nq [q]) q=true:=mG.2 hrd;simp only[Ch,quietAt,ho,hqq,hre,Bool.and_true];exact h
 | succ m ih =>
   obtain⟨ih1,ih2⟩:=ih;refine⟨fun {R rd st i oi} hl hR hi ho hrd h=> ?_,fun {X rd st q oq} hl hX hq ho hqq hrd h=> ?_⟩
   ·obtain⟨x,r,hxr⟩: ∃ x r,R=x::r:=by
     match R,hi with
     | x::r,_=>exact⟨x,r,rfl⟩
    have hdr:cD P call ops masks (m+1+1) R rd K st=(match Ch P ops masks (nq R) R with
     | some i=>(match ops[i]? with
       | some o=>dF P call ops i o (cD P call ops masks (m+1) (R.erase i) (addKey i (keyOf (ev st.tmps) o.op) rd) K) st
       | none=>.fail "no operation")
     | none=>rm (fun j=>match ops[j]? with
        | some oj=>stepG P call ops j oj (nk (masks.getD j 0) rd) (cD P call ops masks (m+1) (R.erase j) rd K) st
        | none=>.fail "no operation") (KC P ops masks R)):=by rw[hxr];rfl
    rw[hdr] at h;split at h
    ·rename_i q hq;obtain⟨g1,g2,g3⟩:=vt hq;rw[mG] at g3;cases hoq:ops[q]? with
     | none=>rw[hoq] at h;exact h.elim
     | some oq =>
       rw[hoq] at h;simp only at h;simp only[quietAt,hoq] at g2;by_cases e:q=i
       ·subst e;rw[hoq] at ho;injection ho with ho;subst ho;simp only[JH,g2];exact h
       ·have hap:=apart hR g1 hi e hoq ho g2 g3 hrd;have hi':i∈ R.erase q:=(List.mem_erase_of_ne (fun x=>e x.symm)).2 hi;have hq':q∈ R.erase i:=(List.mem_erase_of_ne e).2 g1;have hl1:(R.erase q).length<=m+1:=by rw[List.length_erase_of_mem g1];omega
        have hl2:(R.erase i).length<=m+1:=by rw[List.length_erase_of_mem hi];omega
        cases hqi:ff P oi.op with
        | true =>
          simp only[JH,hqi];have hk: ∀ u,keyOf (ev (bV st.tmps oq.dst u)) oi.op=keyOf (ev st.tmps) oi.op:=fun u=>o8 (kQ hap.a).ev
          have h1:(dF P call ops q oq (dF P call ops i oi (cD P call ops masks m ((R.erase q).erase i) (addKey i (keyOf (ev st.tmps) oi.op) (addKey q (keyOf (ev st.tmps) oq.op) rd)) K)) st).holds :=
           ck hm (fun u m' nx' hh=>by have:=ih1 hl1 (hR.erase q) hi' ho (fun p hp=>hrd p (List.mem_of_mem_erase hp)) hh;simp only[JH,hqi,hk] at this;exact this) h
          have h2:=K9 g2 hqi hap h1;refine ck hm (fun u m' nx' hh=> ?_) h2;refine ih2 hl2 (hR.erase i) hq' hoq g2 (fun p hp=>g3 p (List.mem_of_mem_erase hp)) ?_;have hk2:keyOf (ev (bV st.tmps oi.dst u)) oq.op=keyOf (ev st.tmps) oq.op:=o8 (kQ hap.c).ev;simp only[hk2];rw[List.erase_comm];exact ck hm (fun u m' nx' hh=>ry hm Fw hh) hh
        | false =>
          simp only[JH,hqi]
          have h1:(dF P call ops q oq (stepG P call ops i oi (nk (masks.getD i 0) (addKey q (keyOf (ev st.tmps) oq.op) rd)) (cD P call ops masks m ((R.erase q).erase i) (addKey q (keyOf (ev st.tmps) oq.op) rd) K)) st).holds :=
           ck hm (fun u m' nx' hh=>by have:=ih1 hl1 (hR.erase q) hi' ho (fun p hp=>hrd p (List.mem_of_mem_erase hp)) hh;simp only[JH,hqi] at this;exact this) h
          have h2:=acQ hm g2 hqi hap (H:=nk (masks.getD i 0) rd) (fun k hk=>by
            rw[o9] at hk ⊢;obtain⟨p,y1,y2⟩:=hk;exact⟨p,Vy _ y1,y2⟩) (fun k hk=>by
            rw[o9,hk];exact⟨q,by simp[addKey],hrd q g1⟩) h1
          unfold stepG at h2 ⊢;refine ck hm (fun u m' nx' hh=> ?_) h2;rw[jF,qS] at hh ⊢;refine⟨hh.1,hh.2.1,?_⟩;refine ih2 hl2 (hR.erase i) hq' hoq g2 (fun p hp=>g3 p (List.mem_of_mem_erase hp)) ?_;have hk2:keyOf (ev (bV st.tmps oi.dst u)) oq.op=keyOf (ev st.tmps) oq.op:=o8 (kQ hap.c).ev;simp only[hk2];rw[List.erase_comm];exact hh.2.2
    ·rename_i hj;have hnq:=vr hj i hi;have hre:isReady masks (nq R) i=true:=mG.2 hrd;simp only[hre,Bool.and_true,quietAt,ho] at hnq;have:=vj h i (by unfold KC;rw[List.mem_filter];refine⟨hi,?_⟩;simp only[quietAt,ho,hnq,hre];rfl);rw[ho] at this;simp only[JH,hnq];exact this
   ·obtain⟨y,r,hxr⟩: ∃ x r,X=x::r:=by
     match X,hq with
     | x::r,_=>exact⟨x,r,rfl⟩
    have hdr:cD P call ops masks (m+1+1) X rd K st=(match Ch P ops masks (nq X) X with
     | some i=>(match ops[i]? with
       | some o=>dF P call ops i o (cD P call ops masks (m+1) (X.erase i) (addKey i (keyOf (ev st.tmps) o.op) rd) K) st
       | none=>.fail "no operation")
     | none=>rm (fun j=>match ops[j]? with
        | some oj=>stepG P call ops j oj (nk (masks.getD j 0) rd) (cD P call ops masks (m+1) (X.erase j) rd K) st
        | none=>.fail "no operation") (KC P ops masks X)):=by rw[hxr];rfl
    rw[hdr];split
    ·rename_i x hx;obtain⟨g1,g2,g3⟩:=vt hx;rw[mG] at g3;have hox: ∃ ox,ops[x]?=some ox/\ff P ox.op=true:=by
      unfold quietAt at g2;split at g2
      ·rename_i ox hox;exact⟨ox,hox,g2⟩
      ·cases g2
     obtain⟨ox,hox,hqx⟩:=hox;rw[hox];simp only;by_cases e:x=q
     ·subst e;rw[hox] at ho;injection ho with ho;subst ho;exact h
     ·have hap:=apart hX hq g1 (fun h=>e h.symm) ho hox hqq hrd g3;have hx':x∈ X.erase q:=(List.mem_erase_of_ne e).2 g1;have hq':q∈ X.erase x:=(List.mem_erase_of_ne (fun h=>e h.symm)).2 hq;have hl1:(X.erase q).length<=m+1:=by rw[List.length_erase_of_mem hq];omega
      have hl2:(X.erase x).length<=m+1:=by rw[List.length_erase_of_mem g1];omega
      have hk: ∀ u,keyOf (ev (bV st.tmps oq.dst u)) ox.op=keyOf (ev st.tmps) ox.op:=fun u=>o8 (kQ hap.a).ev
      have h1:(dF P call ops q oq (dF P call ops x ox (cD P call ops masks m ((X.erase q).erase x) (addKey x (keyOf (ev st.tmps) ox.op) (addKey q (keyOf (ev st.tmps) oq.op) rd)) K)) st).holds :=
       ck hm (fun u m' nx' hh=>by have:=ih1 hl1 (hX.erase q) hx' hox (fun p hp=>g3 p (List.mem_of_mem_erase hp)) hh;simp only[JH,hqx,hk] at this;exact this) h
      have h2:=K9 hqq hqx hap h1;refine ck hm (fun u m' nx' hh=> ?_) h2;refine ih2 hl2 (hX.erase x) hq' ho hqq (fun p hp=>hrd p (List.mem_of_mem_erase hp)) ?_;have hk2:keyOf (ev (bV st.tmps ox.dst u)) oq.op=keyOf (ev st.tmps) oq.op:=o8 (kQ hap.c).ev;simp only[hk2];rw[List.erase_comm];exact ck hm (fun u m' nx' hh=>ry hm Fw hh) hh
    ·rename_i hj;have hnq:=vr hj q hq;have hre:isReady masks (nq X) q=true:=mG.2 hrd;simp only[hre,Bool.and_true,quietAt,ho,hqq] at hnq;cases hnq
end
def ov (o:Oper):List Nat:=(o.after.toList.filter fun e=>Region.binds .any e).map (·.on)
def uj (acc:List Nat)(ds:List Nat):Nat:=match ds with
 | []=>0
 | d::r=>2^ d ||| acc.getD d 0 ||| uj acc r
def Qk:List Oper->List Nat->List Nat
 | [],acc=>acc
 | o::r,acc=>Qk r (acc++[uj acc (ov o)])
def Reach (ops:Array Oper)(i j:Nat):Prop :=∀ S:Nat->Prop,(∀ k o,ops[k]?=some o->S k->∀ d∈ ov o,S d)->(∀ o,ops[i]?=some o->∀ d∈ ov o,S d)->S j
theorem Qj {acc ds:List Nat}{j:Nat}(h:(uj acc ds).testBit j=true): ∃ d∈ ds,d=j∨(acc.getD d 0).testBit j=true:=by
 induction ds with
 | nil=>simp[uj] at h
 | cons d r ih =>
   simp only[uj,Nat.testBit_or,Bool.or_eq_true] at h;rcases h with (h | h) | h
   ·rw[Nat.testBit_two_pow] at h;exact⟨d,by simp,.inl (by simpa using h)⟩
   ·exact⟨d,by simp,.inr h⟩
   ·obtain⟨e,he,hh⟩:=ih h;exact⟨e,by simp[he],hh⟩
theorem Ji {ops:Array Oper}: ∀(l:List Oper) (acc:List Nat),(∀ k,l[k]?=ops[acc.length+k]?) ->
  (∀ i j,(acc.getD i 0).testBit j=true->Reach ops i j)->∀ i j,((Qk l acc).getD i 0).testBit j=true->Reach ops i j
 | [],acc,_,h,i,j,hb=>h i j hb
 | o::r,acc,hl,h,i,j,hb=>by
   refine Ji r (acc++[uj acc (ov o)]) (fun k=> ?_) (fun i j hb=> ?_) i j hb
   ·have:=hl (k+1);simp only[List.getElem?_cons_succ] at this;rw[this];congr 1;simp;omega
   ·rw[List.getD_eq_getElem?_getD] at hb;by_cases hi:i<acc.length
    ·rw[List.getElem?_append_left hi,← List.getD_eq_getElem?_getD] at hb;exact h i j hb
    ·rw[List.getElem?_append_right (by omega)] at hb;by_cases he:i=acc.length
     ·subst he;simp only[Nat.sub_self,List.getElem?_cons_zero,Option.getD_some] at hb;obtain⟨d,hd,hh⟩:=Qj hb;have ho:ops[acc.length]?=some o:=by have:=hl 0;simpa using this.symm
      intro S hS hi;have hSd:=hi o ho d hd;rcases hh with rfl | hh
      ·exact hSd
      ·exact h d j hh S hS (fun o' ho' e he=>hS d o' ho' hSd e he)
     ·rw[List.getElem?_eq_none (by simp;omega)] at hb;simp at hb
def Y3 (ops:Array Oper):List Nat:=Qk ops.toList []
theorem WQ {ops:Array Oper}{i j:Nat}(h:((Y3 ops).getD i 0).testBit j=true):Reach ops i j :=Ji ops.toList [] (fun k=>by simp) (fun i j h=>by simp at h) i j h
def agx (P:Program)(ops:List Oper)(quiet:Bool)(done:Nat)(i:Nat):Option Nat :=
 match ops with
 | []=>none
 | o::r=>if(!done.testBit i&&(!quiet||ff P o.op)&&(ov o).all fun d=>done.testBit d)=true then some i else agx P r quiet done (i+1)
def xT (P:Program)(ops:List Oper):Nat->Nat->List Nat
 | 0,_=>[]
 | n+1,done=>match agx P ops true done 0 with
   | some i=>i::xT P ops n (done ||| 2^ i)
   | none=>(match agx P ops false done 0 with
     | some i=>i::xT P ops n (done ||| 2^ i)
     | none=>[])
def Xw (P:Program)(ops:Array Oper)(masks:List Nat)(p i:Nat):Bool :=
 match ops[p]?,ops[i]? with
 | some op,some oi=>!(ov op).contains i&& !Nat.beq p i&&((masks.getD i 0).testBit p||(masks.getD p 0).testBit i||(!ff P op.op&& !ff P oi.op)||Oper.apart ops op oi)
 | _,_=>false
def xU (P:Program)(ops:Array Oper)(masks:List Nat):List Nat->Bool
 | []=>true
 | p::r=>r.all (Xw P ops masks p)&&xU P ops masks r
def amu (P:Program)(ops:Array Oper)(masks N:List Nat):Bool :=
 (List.range ops.size).all (fun i=>N.contains i)&&N.all (fun i=>Nat.blt i ops.size&&match ops[i]? with
   | some o=>(ov o).all fun d=>!Nat.beq d i&&Nat.blt d ops.size
   | none=>false)&&xU P ops masks N
def draw (P:Program)(call:sr->PT)(ops:Array Oper)(K:St->VC)(st:St):VC :=
 let masks:=Y3 ops;let N:=xT P ops.toList ops.size 0
 match amu P ops masks N with
 | true=>cD P call ops masks ops.size N [] K st
 | false=>.fail "a region that draws its order"
theorem Nq {P:Program}{ops:Array Oper}{masks:List Nat}: ∀ {R:List Nat},xU P ops masks R=true->∀ {p i:Nat},p∈ R->i∈ R->p≠i->Xw P ops masks p i=true∨Xw P ops masks i p=true
 | [],_,_,_,h,_,_=>by cases h
 | q::R,hp,p,i,h1,h2,hne=>by
   simp only[xU,Bool.and_eq_true,List.all_eq_true] at hp;rw[List.mem_cons] at h1 h2;rcases h1 with rfl | h1<;>rcases h2 with rfl | h2
   ·exact absurd rfl hne
   ·exact .inl (hp.1 _ h2)
   ·exact .inr (hp.1 _ h1)
   ·exact Nq hp.2 h1 h2 hne
theorem UG {P:Program}{ops:Array Oper}{masks:List Nat}{p i:Nat}(h:Xw P ops masks p i=true):Rel P ops masks p i/\Rel P ops masks i p:=by
 unfold Xw at h;split at h
 ·rename_i op oi h1 h2;simp only[Bool.and_eq_true,Bool.or_eq_true,Bool.not_eq_true'] at h;have h3:=h.2;have ap:Oper.apart ops op oi=true->Fu ops op oi:=fun hb=>by obtain⟨s1,s2,s3⟩:=Oper.apart_spec hb;exact⟨s1,s2,s3⟩
  refine⟨⟨op,oi,h1,h2,?_⟩,⟨oi,op,h2,h1,?_⟩⟩
  ·rcases h3 with ((h | h) | h) | h
   ·exact .inl h
   ·exact .inr (.inl h)
   ·exact .inr (.inr (.inl h))
   ·exact .inr (.inr (.inr (ap h)))
  ·rcases h3 with ((h | h) | h) | h
   ·exact .inr (.inl h)
   ·exact .inl h
   ·exact .inr (.inr (.inl ⟨h.2,h.1⟩))
   ·exact .inr (.inr (.inr (ap h).symm))
 ·cases h
theorem W7 {P:Program}{ops:Array Oper}{masks R:List Nat}(h:xU P ops masks R=true):Vx P ops masks R:=fun p hp i hi hne=>by
 rcases Nq h hp hi hne with h | h
 ·exact(UG h).1
 ·exact(UG h).2
theorem FY {P:Program}{ops:Array Oper}{masks:List Nat}{i:Nat}: ∀ {R:List Nat},xU P ops masks R=true->xU P ops masks (R.erase i)=true/\(i∉ R.erase i)
 | [],_=>⟨rfl,by simp⟩
 | q::R,hp=>by
   simp only[xU,Bool.and_eq_true,List.all_eq_true] at hp;by_cases e:q=i
   ·subst e;rw[List.erase_cons_head];refine⟨hp.2,fun hm=> ?_⟩;have:=hp.1 _ hm;unfold Xw at this;split at this
    ·simp at this
    ·cases this
   ·rw[List.erase_cons_tail (by simpa using e)];obtain⟨h1,h2⟩:=FY (i:=i) hp.2;refine⟨by simp only[xU,Bool.and_eq_true,List.all_eq_true];exact⟨fun x hx=>hp.1 x (List.mem_of_mem_erase hx),h1⟩,fun hm=> ?_⟩;rw[List.mem_cons] at hm;rcases hm with h | h
    ·exact e h.symm
    ·exact h2 h
theorem E5 {md:Region.Mode}{ops:Array Oper}{listed:Array Bool}{i:Nat}:i∈ Region.ready md ops listed ↔
  i<ops.size/\listed.getD i true=false/\∃ o,ops[i]?=some o/\∀ e∈ o.after,Region.binds md e=true->listed.getD e.on false=true:=by
 unfold Region.ready;simp only[List.mem_filter,List.mem_range,Bool.and_eq_true,Bool.not_eq_true'];constructor
 ·rintro⟨h1,h2,h3⟩;refine⟨h1,h2,?_⟩;have ho:ops[i]?=some ops[i]:=Array.getElem?_eq_getElem h1;rw[ho] at h3;simp only[Option.map_some,Option.getD_some] at h3;refine⟨_,ho,fun e he hb=> ?_⟩;rw[Array.all_eq_true'] at h3;have:=h3 e he;simpa [hb] using this
 ·rintro⟨h1,h2,o,ho,h3⟩;refine⟨h1,h2,?_⟩;rw[ho];simp only[Option.map_some,Option.getD_some,Array.all_eq_true'];intro e he;by_cases hb:Region.binds md e=true
  ·simp[hb,h3 e he hb]
  ·simp[hb]
section
variable {P : Program} {call : sr -> PT} {ops : Array Oper}
theorem aj7 {Γ:aQ}{ro:Option Nat}{KP:PK}(hm: ∀ f,aJ (call f))(hcall: ∀ c,qO P Γ KP c (call c)){masks:List Nat}(hmask: ∀ i j,(masks.getD i 0).testBit j=true->Reach ops i j)
  {Q:Exit->Act->World->Prop} {K:St->VC} {E0:Nat->Nat} {wB:Nat} {T0:List (Option SV)} (hP: ∀ e a w,cK E0 (unsure ops T0) a->qz KP Γ E0 wB e a w->Q e a w): ∀(fuel:Nat) (R:List Nat) (listed:Array Bool) {st:St} {E:Nat->Nat} {a:Act} {w:World},
   cK E0 (unsure ops T0) a->(∀ k,k<wB->E k=E0 k)->wB<=st.nx->R.length<=fuel->(∀ i,i∈ R↔i<ops.size/\listed.getD i true=false)->xU P ops masks R=true->(∀ i∈ R,∀ o,ops[i]?=some o->∀ d∈ ov o,d≠i/\d<ops.size) ->
   listed.size=ops.size->(∀ k o,ops[k]?=some o->listed.getD k false=true->∀ d∈ ov o,listed.getD d false=true) ->
   (cD P call ops masks fuel R [] K st).holds->Sat Γ E st a w->(∀ a w,j8 K Γ E st.nx a w->Q .normal a w)->wpAnyIn (Fr ro) 0 P .any ops Q fuel listed a w:=by
 intro fuel;induction fuel with
 | zero =>intro R listed st E a w hF hE0 hn0 hlen hR hpair hself hsize hcl h hs hQ;have hnil:R=[]:=List.eq_nil_of_length_eq_zero (by omega);subst hnil;refine⟨?_,hQ _ _ ⟨E,st,fun _ _=>rfl,Nat.le_refl _,hs,h⟩⟩;rw[List.eq_nil_iff_forall_not_mem];intro i hi;rw[E5] at hi;have:=(hR i).2 ⟨hi.1,hi.2.1⟩;cases this
 | succ fuel ih =>
   intro R listed st E a w hF hE0 hn0 hlen hR hpair hself hsize hcl h hs hQ;refine⟨fun hnone=> ?_,fun i hi=> ?_⟩
   ·
    cases R with
    | nil=>exact hQ _ _ ⟨E,st,fun _ _=>rfl,Nat.le_refl _,hs,by rw[sF] at h;exact h⟩
    | cons r0 R =>
      exfalso;have hr0:=(hR r0).1 (by simp);have ho:ops[r0]?=some ops[r0]:=Array.getElem?_eq_getElem hr0.1;have:r0∈ Region.ready .any ops listed:=by
       rw[E5];refine⟨hr0.1,hr0.2,_,ho,fun e he hb=> ?_⟩;have hd:e.on∈ ov ops[r0]:=by simp only[ov,List.mem_map,List.mem_filter];exact⟨e,⟨by simpa using he,hb⟩,rfl⟩
       generalize e.on=d at hd ⊢;cases hl:listed.getD d false with
       | true=>rfl
       | false =>
         exfalso;have hself0:=hself r0 (by simp) _ ho d hd;have hlt:=hself0.2;have hmem:d∈ r0::R:=(hR d).2 ⟨hlt,by rw[Array.getD_eq_getD_getElem?] at hl ⊢;rw[Array.getElem?_eq_getElem (by omega)] at hl ⊢;exact hl⟩
         rw[List.mem_cons] at hmem;rcases hmem with e1 | hmem
         ·exact hself0.1 e1
         ·simp only[xU,Bool.and_eq_true,List.all_eq_true] at hpair;have hrel:=hpair.1 _ hmem;simp only[Xw,ho] at hrel;split at hrel
          ·rename_i op oi e1 _;injection e1 with e1;subst e1;simp only[Bool.and_eq_true,Bool.not_eq_true'] at hrel;have h1:=hrel.1.1;rw[List.contains_iff_mem.2 hd] at h1;cases h1
          ·cases hrel
      rw[hnone] at this;cases this
   ·rw[E5] at hi;obtain⟨hlt,hnl,oi,ho,hdeps⟩:=hi;have hmem:i∈ R:=(hR i).2 ⟨hlt,hnl⟩;have hdl: ∀ d∈ ov oi,listed.getD d false=true:=by intro d hd;simp only[ov,List.mem_map,List.mem_filter] at hd;obtain⟨e,⟨he,hb⟩,rfl⟩:=hd;exact hdeps e (by simpa using he) hb
    have hbits: ∀ p∈ R,(masks.getD i 0).testBit p=false:=by
     intro p hp;cases hb:(masks.getD i 0).testBit p with
     | false=>rfl
     | true =>exfalso;have:=hmask i p hb (fun k=>listed.getD k false=true) (fun k o hk hS d hd=>hcl k o hk hS d hd) (fun o' ho' d hd=>by rw[ho] at ho';injection ho' with ho';subst ho';exact hdl d hd);have hpl:=((hR p).1 hp).2;have hps:=((hR p).1 hp).1;rw[Array.getD_eq_getD_getElem?] at this hpl;rw[Array.getElem?_eq_getElem (by omega)] at this hpl;simp only[Option.getD_some] at this hpl;rw[this] at hpl;cases hpl
    have hb:=(ane hm fuel).1 hlen (W7 hpair) hmem ho hbits h;obtain⟨hpair',hne⟩:=FY (i:=i) hpair;have hstep:(dF P call ops i oi (fun st'=>.and (.atom (st.nx<=st'.nx∨True)) (cD P call ops masks fuel (R.erase i) [] K st')) st).holds:=by
     unfold JH at hb;cases hq:ff P oi.op with
     | true =>rw[hq] at hb;exact ck hm (fun u m nx hh=>⟨.inr trivial,ry hm (fun x hx=>by cases hx) hh⟩) hb
     | false =>rw[hq] at hb;exact ck hm (fun u m nx hh=>by rw[jF,qS] at hh;exact⟨.inr trivial,hh.2.2⟩) hb
    have hmemO:oi∈ ops.toList:=by have ho':=ho;rw[← Array.getElem?_toList] at ho';exact List.mem_of_getElem? ho'
    have hsound:=vY (ro:=ro) hcall hstep hs Q (fun e w hb=>hP e a w hF (hb.weaken hE0 hn0));have go: ∀ a' w',((∃ r,a'=a.put oi.dst r)/\j8 (fun st'=>.and (.atom (st.nx<=st'.nx∨True)) (cD P call ops masks fuel (R.erase i) [] K st')) Γ E st.nx a' w')->wpAnyIn (Fr ro) 0 P .any ops Q fuel (listed.setIfInBounds i true) a' w':=by
     rintro a' w' ⟨⟨rr,ha⟩,E',st',g1,g2,g3,g4⟩
     refine ih (R.erase i) (listed.setIfInBounds i true) (ha▸ cK.BS hF hmemO rr) (fun k hk=>(g1 k (Nat.lt_of_lt_of_le hk hn0)).trans (hE0 k hk)) (Nat.le_trans hn0 g2) (by rw[List.length_erase_of_mem hmem];omega) (fun j=> ?_) hpair' (fun j hj=>hself j (List.mem_of_mem_erase hj)) (by simpa using hsize) (fun k o hk hl d hd=> ?_) g4.2 g3
      (fun a'' w'' hbh=>hQ a'' w'' ?_)
     ·rw[Array.getD_eq_getD_getElem?,Array.getElem?_setIfInBounds];by_cases e:i=j
      ·subst e;simp only[if_true];rw[if_pos (by omega)];simp only[Option.getD_some];constructor
       ·intro hj;exact absurd hj hne
       ·rintro⟨_,hh⟩;cases hh
      ·rw[if_neg e,← Array.getD_eq_getD_getElem?,← hR j];exact List.mem_erase_of_ne (fun h=>e h.symm)
     ·rw[Array.getD_eq_getD_getElem?,Array.getElem?_setIfInBounds] at hl ⊢;by_cases ed:i=d
      ·rw[if_pos ed,if_pos (by omega)];rfl
      ·rw[if_neg ed,← Array.getD_eq_getD_getElem?];by_cases ek:i=k
       ·subst ek;rw[ho] at hk;injection hk with hk;subst hk;exact hdl d hd
       ·rw[if_neg ek,← Array.getD_eq_getD_getElem?] at hl;exact hcl k o hk hl d hd
     ·obtain⟨E'',st'',k1,k2,k3,k4⟩:=hbh;exact⟨E'',st'',fun k hk=>(k1 k (Nat.lt_of_lt_of_le hk g2)).trans (g1 k hk),Nat.le_trans g2 k2,k3,k4⟩
    unfold wpOpIn;rw[ho];simp only;split
    ·rename_i hw;rw[if_pos hw] at hsound;exact Oper.wpIn_mono go hsound
    ·rename_i hw;rw[if_neg hw] at hsound;exact⟨w8 ro,go _ _ ⟨⟨_,rfl⟩,hsound⟩⟩
theorem VX {Γ:aQ}{ro:Option Nat}{KP:PK}(hmix:P.follows .mixedOrders=true)(hm: ∀ f,aJ (call f))(hcall: ∀ c,qO P Γ KP c (call c)){id:Nat}{Q:Exit->Act->World->Prop}{K:St->VC}
  {st:St} {E:Nat->Nat} {a:Act} {w:World} (h:(draw P call ops K st).holds) (hs:Sat Γ E st a w) (hP: ∀ e a w,cK E (unsure ops st.tmps) a->qz KP Γ E st.nx e a w->Q e a w) (hQ: ∀ a w,j8 K Γ E st.nx a w->Q .normal a w):(Code.region id ops true).wpIn (Fr ro) 0 P Q a w:=by
 unfold draw at h;simp only at h;split at h
 ·rename_i hg;simp only[amu,Bool.and_eq_true,List.all_eq_true] at hg;obtain⟨⟨h1,h2⟩,h3⟩:=hg;refine wpIn_region_any hmix ?_;have hs':Sat Γ E st a {w with drawn:=w.drawn+1}:=⟨hs.tm,hs.wt,hs.df,hs.mm.drew _⟩
  have hlen:(xT P ops.toList ops.size 0).length<=ops.size:=by
   have: ∀(n d:Nat),(xT P ops.toList n d).length<=n:=by
    intro n;induction n with
    | zero=>intro d;simp[xT]
    | succ n ih =>
      intro d;simp only[xT];split
      ·have:=ih (d ||| 2^ (by assumption));simp only[List.length_cons];omega
      ·split
       ·have:=ih (d ||| 2^ (by assumption));simp only[List.length_cons];omega
       ·simp
   exact this _ _
  refine aj7 hm hcall (fun i j hb=>WQ hb) (T0:=st.tmps) hP ops.size (xT P ops.toList ops.size 0) _ hs.tm.unsure (fun _ _=>rfl) (Nat.le_refl _) hlen (fun i=> ?_) h3 (fun i hi o ho d hd=> ?_) (by simp) (fun k o hk hl d hd=> ?_) h hs' hQ
  ·constructor
   ·intro hi;have:=h2 i hi;simp only[Nat.blt_eq] at this;refine⟨this.1,?_⟩;rw[Array.getD_eq_getD_getElem?,Array.getElem?_eq_getElem (by simpa using this.1)];simp
   ·rintro⟨hi,_⟩;have:=h1 i (List.mem_range.2 hi)
    rwa [List.contains_iff_mem] at this
  ·have:=h2 i hi;rw[ho] at this;simp only[List.all_eq_true,Bool.and_eq_true,Bool.not_eq_true',Nat.blt_eq] at this;have hd':=this.2 d hd;refine⟨fun e=> ?_,hd'.2⟩;have h5:=hd'.1;rw[e] at h5;simp at h5
  ·exfalso;rw[Array.getD_eq_getD_getElem?] at hl;by_cases hks:k<ops.size
   ·rw[Array.getElem?_eq_getElem (by simpa using hks)] at hl;simp at hl
   ·rw[Array.getElem?_eq_none (by simpa using hks)] at hl;simp at hl
 ·exact h.elim
end
end
end Go.Proofs.YtpaaiebohjjieaaGreatDoor.Sx
