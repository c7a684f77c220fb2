/-
  The framework's twelfth part: one operation of a region; a region in the text's order.
-/
import Derived.Test.YtoibaecagklkaaaGreatDoorMf
namespace Go.Proofs.YtoibaecagklkaaaGreatDoor.Sx
open Go
noncomputable section
structure St where
 tmps:List (Option SV)
 m:Mem
 nx:Nat
def slot (tmps:List (Option SV))(i:Nat):Option SV :=
 match tmps,i with
 | [],_=>none
 | v::_,0=>v
 | _::r,i+1=>slot r i
theorem lg: ∀ {tmps:List (Option SV)} {i:Nat} {v:SV},slot tmps i=some v->tmps[i]?=some (some v)
 | [],_,_,h=>by simp[slot] at h
 | x::_,0,v,h=>by simp[slot] at h;simp[h]
 | _::r,i+1,v,h=>by simp[slot] at h;simpa using lg h
def ev (tmps:List (Option SV)):Operand->Option SV
 | .tmp i=>slot tmps i
 | .const v=>SV.ofConst v
 | .global g=>some (.raw (.pointer (some ⟨g,0,none⟩)))
 | .func f=>some (.func (.func f) [] [])
def cN (nx:Nat):List (Option SV)->Bool
 | []=>true
 | none::r=>cN nx r
 | some v::r=>v.wf nx&&cN nx r
theorem iX {nx:Nat}: ∀ {l:List (Option SV)},cN nx l=true->∀ {i:Nat} {v:SV},l[i]?=some (some v)->v.wf nx=true
 | none::r,h,0,v,hv=>by simp at hv
 | some x::r,h,0,v,hv=>by simp at hv;subst hv;simp only[cN,Bool.and_eq_true] at h;exact h.1
 | none::r,h,i+1,v,hv=>iX (l:=r) (by simpa [cN] using h) (i:=i) (by simpa using hv)
 | some x::r,h,i+1,v,hv=>iX (l:=r) (by simp only[cN,Bool.and_eq_true] at h;exact h.2) (i:=i) (by simpa using hv)
structure cv (E:Nat->Nat)(tmps:List (Option SV))(a:Act):Prop where
 size:a.tmps.size=tmps.length
 val: ∀(i:Nat) (v:SV),tmps[i]?=some (some v)->a.tmps[i]?=some (v.val E)
theorem cv.reads {E:Nat->Nat}{tmps:List (Option SV)}{a:Act}(h:cv E tmps a):Reads E (ev tmps) a.eval:=by
 intro x v hx
 cases x with
 | tmp i =>
   have:=h.val i v (lg hx)
   simp[Act.eval,Array.getD_eq_getD_getElem?,this]
 | const c=>exact(SV.wC hx).symm
 | global g=>simp[ev] at hx;subst hx;rfl
 | func f=>simp[ev] at hx;subst hx;rfl
theorem cv.wf {nx:Nat}{tmps:List (Option SV)}(h:cN nx tmps=true):WA nx (ev tmps):=by
 intro x v hx
 cases x with
 | tmp i=>exact iX h (lg hx)
 | const c=>exact yK hx
 | global g=>simp[ev] at hx;subst hx;rfl
 | func f=>simp[ev] at hx;subst hx;rfl
theorem cv.congr {E E':Nat->Nat}{nx:Nat}{tmps:List (Option SV)}{a:Act}(h:cv E tmps a)(hw:cN nx tmps=true)(hE: ∀ k,k<nx->E' k=E k):cv E' tmps a :=
 ⟨h.size,fun i v hv=>by rw[SV.val_congr hE v (iX hw hv)];exact h.val i v hv⟩
def bN (tmps:List (Option SV))(dst:Option Nat)(v:Option SV):List (Option SV) :=
 match dst with
 | none=>tmps
 | some d=>tmps.set d v
theorem cv.put {E:Nat->Nat}{tmps:List (Option SV)}{a:Act}(h:cv E tmps a){dst:Option Nat}{sv:Option SV}{r:Value}(hr: ∀ v,sv=some v->r=v.val E) :
  cv E (bN tmps dst sv) (a.put dst r):=by
 cases dst with
 | none=>exact h
 | some d =>
   refine⟨by simp[Act.put,bN,h.size],fun i v hv=> ?_⟩
   simp only[bN] at hv
   rw[List.getElem?_set] at hv
   simp only[Act.put]
   rw[Array.getElem?_setIfInBounds]
   split at hv
   ·rename_i e;subst e
    split at hv
    ·rename_i hlt
     injection hv with hv
     rw[if_pos rfl,if_pos (by rw[h.size];exact hlt),hr v hv]
    ·cases hv
   ·rename_i e
    rw[if_neg e];exact h.val i v hv
theorem m4 {nx:Nat}: ∀ {l:List (Option SV)} {d:Nat} {v:Option SV},cN nx l=true->(∀ u,v=some u->u.wf nx=true)->cN nx (l.set d v)=true
 | [],_,_,h,_=>h
 | none::r,0,none,h,hv=>h
 | none::r,0,some u,h,hv=>by simp only[List.set_cons_zero,cN,Bool.and_eq_true];exact⟨hv u rfl,h⟩
 | some x::r,0,none,h,hv=>by simp only[cN,Bool.and_eq_true] at h;exact h.2
 | some x::r,0,some u,h,hv=>by simp only[cN,Bool.and_eq_true,List.set_cons_zero] at h ⊢;exact⟨hv u rfl,h.2⟩
 | none::r,d+1,v,h,hv=>m4 (l:=r) h hv
 | some x::r,d+1,v,h,hv=>by simp only[cN,Bool.and_eq_true,List.set_cons_succ] at h ⊢;exact⟨h.1,m4 h.2 hv⟩
theorem gQ {n m:Nat}(h:n<=m): ∀ {l:List (Option SV)},cN n l=true->cN m l=true
 | [],_=>rfl
 | none::r,hl=>gQ h (l:=r) hl
 | some x::r,hl=>by simp only[cN,Bool.and_eq_true] at hl ⊢;exact⟨SV.eV h x hl.1,gQ h hl.2⟩
theorem kC {nx:Nat}{l:List (Option SV)}{dst:Option Nat}{v:Option SV}(h:cN nx l=true)(hv: ∀ u,v=some u->u.wf nx=true):cN nx (bN l dst v)=true:=by
 cases dst with
 | none=>exact h
 | some d=>exact m4 h hv
def V1 (nx:Nat):Option SV->Bool
 | none=>true
 | some v=>v.wf nx
theorem Qc {nx:Nat}{v:Option SV}(h:V1 nx v=true): ∀ u,v=some u->u.wf nx=true:=by rintro u rfl;exact h
def yD (D:Nat):Deferred:={target:=.collected D,args:=#[]}
def Marks (Γ:aY)(ds:List Deferred)(w:World):Prop :=
 ∃ Ds:List Nat,ds=Ds.map yD++Γ.tail/\Ds.Nodup/\(∀ D∈ Ds,w.heap[D]?=some (.deferred (some []))/\D∉ Γ.keep/\Γ.w0.heap.size<=D)/\(Γ.rf=false->Ds=[])
theorem Marks.nil (Γ:aY)(w:World)(ht:Γ.tail=[]):Marks Γ [] w:=⟨[],by rw[ht];rfl,List.nodup_nil,(fun D h=>by cases h),fun _=>rfl⟩
structure Sat (Γ:aY)(E:Nat->Nat)(st:St)(a:Act)(w:World):Prop where
 tm:cv E st.tmps a
 wt:cN st.nx st.tmps=true
 df:Marks Γ a.defers w
 mm:aJ Γ E st.m st.nx w
theorem aJ.weaken {Γ Δ:aY}(hle:Γ.le Δ){E:Nat->Nat}{m:Mem}{nx:Nat}{w:World}(h:aJ Δ E m nx w):aJ Γ E m nx w :=
 ⟨h.gi,h.gk,h.lt,fun k B a hk hn hr=>by have:=h.gW k B a hk hn hr;rw[hle.m,hle.w] at this;exact this,by have:=h.ext;rw[hle.m,hle.w] at this;exact this,
  ⟨Nat.le_trans hle.nx h.cx.1,fun k hk=>(h.cx.2 k (Nat.lt_of_lt_of_le hk hle.nx)).trans (hle.e k hk)⟩,fun D hD=>h.kp D (hle.keep D hD)⟩
def aY.more (Γ:aY)(Ds:List Nat):aY:={Γ with keep:=Ds++Γ.keep}
theorem aY.Ct (Γ:aY)(Ds:List Nat):Γ.le (Γ.more Ds):=⟨rfl,rfl,Nat.le_refl _,fun _ _=>rfl,fun _D h=>List.mem_append_right _ h⟩
theorem aJ.more {Γ:aY}{E:Nat->Nat}{m:Mem}{nx:Nat}{w:World}(h:aJ Γ E m nx w){Ds:List Nat}(hD: ∀ D∈ Ds,w.heap[D]?=some (.deferred (some []))):aJ (Γ.more Ds) E m nx w :=
 ⟨h.gi,h.gk,h.lt,h.gW,h.ext,h.cx,fun D hm=>by rcases List.mem_append.1 hm with h1 | h1;exact hD D h1;exact h.kp D h1⟩
theorem Marks.kept {Γ:aY}{Ds:List Nat}{ds:List Deferred}(he:ds=Ds.map yD++Γ.tail)(hn:Ds.Nodup)(hk: ∀ D∈ Ds,D∉ Γ.keep/\Γ.w0.heap.size<=D)(hrf:Γ.rf=false->Ds=[]){E:Nat->Nat}{m:Mem}{nx:Nat}{w:World}(h:aJ (Γ.more Ds) E m nx w):Marks Γ ds w :=
 ⟨Ds,he,hn,fun D hD=>⟨h.kp D (List.mem_append_left _ hD),hk D hD⟩,hrf⟩
def guardOf (ops:Array Oper)(o:Oper)(tmps:List (Option SV)):Option Bool :=
 match o.guard with
 | none=>some true
 | some (j,want)=>(match ops[j]? with
   | some oj=>(match oj.dst with
     | some d=>(match slot tmps d with
       | some (.bool true b)=>some (b==want)
       | some (.aL [])=>some false
       | _=>none)
     | none=>none)
   | none=>none)
theorem oS {E:Nat->Nat}{ops:Array Oper}{o:Oper}{tmps:List (Option SV)}{a:Act}(h:cv E tmps a){b:Bool}(hg:guardOf ops o tmps=some b) :
  Region.wanted o (yielded ops a.tmps)=b:=by
 unfold guardOf at hg
 unfold Region.wanted
 split at hg
 ·rename_i e;rw[e];injection hg
 ·rename_i j want e
  rw[e]
  split at hg
  ·rename_i oj hj
   split at hg
   ·rename_i d hd
    split at hg
    ·rename_i c hc
     have:=h.val d _ (lg hc)
     injection hg with hg;subst hg
     simp[yielded,hj,hd,this,SV.val]
    ·rename_i hc
     have:=h.val d _ (lg hc)
     injection hg with hg;subst hg
     simp[yielded,hj,hd,this,SV.val]
    ·cases hg
   ·cases hg
  ·cases hg
def p9 (ops:Array Oper)(j:Nat):Bool:=ops.toList.any fun o=>match o.guard with
 | some (i,_)=>Nat.beq i j
 | none=>false
def H6 (g:Bool)(v:Option SV)(nx:Nat)(k:Option SV->VC):VC :=
 match g,v with
 | true,some (.bool false b)=>fork b (fun c=>k (some (.bool true c)))
 | _,v=>match V1 nx v with
   | true=>k v
   | false=>.fail "a key out of bounds"
def Od (g:Bool)(dst:Option Nat)(v:Option SV)(tmps:List (Option SV))(m:Mem)(nx:Nat)(K:St->VC):VC :=
 H6 g v nx (fun v=>K ⟨bN tmps dst v,m,nx⟩)
theorem ua (g:Bool)(v:Option SV)(nx:Nat): ∃(p:Prop) (u:Option SV),(∀ k,(H6 g v nx k).holds↔p/\(k u).holds)/\(p->V1 nx u=true)/\(∀(E:Nat->Nat) (r:Value),(∀ x,v=some x->r=x.val E)->∀ x,u=some x->r=x.val E):=by
 unfold H6
 split
 ·rename_i b
  exact⟨True,some (.bool true b),fun k=>by rw[dJ];exact⟨fun h=>⟨trivial,h⟩,fun h=>h.2⟩,fun _=>rfl,fun E r h x hx=>by injection hx with hx;subst hx;exact h (.bool false b) rfl⟩
 ·cases hw:V1 nx v with
  | true=>exact⟨True,v,fun k=>⟨fun h=>⟨trivial,h⟩,fun h=>h.2⟩,fun _=>hw,fun E r h=>h⟩
  | false=>exact⟨False,none,fun k=>⟨fun h=>h.elim,fun h=>h.1.elim⟩,fun h=>h.elim,fun E r h x hx=>by cases hx⟩
def lop (P:Program)(call:mg->PT)(σ:Operand->Option SV)(m:Mem)(nx:Nat)(o:Op)(K:KL):VC :=
 match o with
 | .alloc t=>(match fA P t with
   | some z=>CO t z m nx K
   | none=>.fail "alloc")
 | .box t x=>need (σ x) (fun v=>CO t v m nx K)
 | .buildSlice t len parts=>jo P σ t len parts.toList m nx K
 | .makeSlice t x y=>need (σ x) (fun a=>need (σ y) (fun b=>wI P t a b m nx K))
 | .store t a x=>lH P t (σ a) (σ x) m nx K
 | .call c=>wA P call σ c m nx K
 | .makeMap t r=>s6 P t (r.map σ) m nx K
 | .mapUpdate t x k v=>fJ P t (σ x) (σ k) (σ v) m nx K
 | .insert t x k v=>fJ P t (σ x) (σ k) (σ v) m nx K
 | .mapEntry t x k=>qA P t (σ x) (σ k) m nx K
 | .entryStore _ x s v=>k9 (σ x) (σ s) (σ v) m nx K
 | .range t x=>Dx P t (σ x) m nx K
 | .next x b=>JR (σ x) b m nx K
 | .panic x=>uz call (σ x) m nx
 | _=>.fail "no such operation"
theorem Un {P:Program}{Γ:aY}{KP:PK}{call:mg->PT}(hcall: ∀ c,nQ P Γ KP c (call c)){σ:Operand->Option SV}{m:Mem}{nx:Nat}(o:Oper):SK P Γ KP σ m nx o (lop P call σ m nx o.op):=by
 obtain⟨dst,op,type,pos,after,guard⟩:=o
 cases op
 case alloc t=>exact nW.qD Lv
 case box t x=>exact nW.qD Sw
 case buildSlice t len parts=>exact nW.qD Ac
 case makeSlice t x y=>exact nW.qD Rt
 case store t a x=>exact nW.qD Bp
 case call c=>exact OB hcall
 case makeMap t r=>exact nW.qD FF
 case mapUpdate t x k v=>exact nW.qD qM
 case insert t x k v=>exact nW.qD Ht
 case mapEntry t x k=>exact nW.qD Df
 case entryStore t x s v=>exact nW.qD ye
 case range t x=>exact nW.qD Le
 case next x b=>exact nW.qD MX
 case panic x=>exact Lf hcall
 all_goals exact nW.qD (nW.fail _)
def cM (P:Program)(call:mg->PT)(ops:Array Oper)(j:Nat)(o:Oper)(K:St->VC)(st:St):VC :=
 match guardOf ops o st.tmps with
 | some true=>(match dr P o.op with
   | true=>Wq P (fun k=>st.m.get k) (ev st.tmps) o.op (fun v=>Od (p9 ops j) o.dst v st.tmps st.m st.nx K)
   | false=>(match Mem.wf st.nx st.m with
     | true=>lop P call (ev st.tmps) st.m st.nx o.op (fun v m nx=>Od (p9 ops j) o.dst v st.tmps m nx K)
     | false=>.fail "a key out of bounds"))
 | some false=>K ⟨bN st.tmps o.dst (some (.aL [])),st.m,st.nx⟩
 | none=>.fail "a guard that is not known"
def iZ (K:St->VC)(Γ:aY)(E:Nat->Nat)(nx:Nat)(a:Act)(w:World):Prop :=
 ∃ E' st',(∀ k,k<nx->E' k=E k)/\nx<=st'.nx/\Sat Γ E' st' a w/\(K st').holds
theorem iZ.trans {K K':St->VC}{Γ:aY}{E:Nat->Nat}{nx:Nat}{a:Act}{w:World}(h:iZ K Γ E nx a w)
  (hk: ∀ E' st',nx<=st'.nx->Sat Γ E' st' a w->(K st').holds->iZ K' Γ E' st'.nx a w):iZ K' Γ E nx a w:=by
 obtain⟨E',st',h1,h2,h3,h4⟩:=h
 obtain⟨E'',st'',k1,k2,k3,k4⟩:=hk E' st' h2 h3 h4
 exact⟨E'',st'',fun k hk=>(k1 k (Nat.lt_of_lt_of_le hk h2)).trans (h1 k hk),Nat.le_trans h2 k2,k3,k4⟩
theorem xu {K:St->VC}{Γ:aY}{E:Nat->Nat}{nx:Nat}{g:Bool}{dst:Option Nat}{sv:Option SV}{tmps:List (Option SV)}{m:Mem}{a:Act}{w:World}{r:Value}
  (h:(Od g dst sv tmps m nx K).holds) (ht:cv E tmps a) (hw:cN nx tmps=true) (hd:Marks Γ a.defers w) (hm:aJ Γ E m nx w) (hr: ∀ v,sv=some v->r=v.val E) :
  iZ K Γ E nx (a.put dst r) w:=by
 have hdf:Marks Γ (a.put dst r).defers w:=by cases dst<;>exact hd
 obtain⟨p,u,h1,h2,h3⟩:=ua g sv nx
 obtain⟨hp,hk⟩:=(h1 _).1 h
 exact⟨E,_,fun _ _=>rfl,Nat.le_refl _,⟨ht.put (h3 E r hr),kC hw (Qc (h2 hp)),hdf,hm⟩,hk⟩
theorem Ao {P:Program}{o:Oper}(h:dr P o.op=true):nD o=true:=by
 unfold nD
 cases ho:o.op<;>first | rfl | (rw[ho] at h;cases h)
theorem EY {P:Program}{call:mg->PT}{σ:Operand->Option SV}{m:Mem}{nx:Nat}{o:Oper}{K:KL}(h:(lop P call σ m nx o.op K).holds):nD o=true:=by
 unfold nD
 cases ho:o.op<;>first | rfl | (rw[ho] at h;exact h.elim)
def lB (KP:PK)(Γ:aY)(E:Nat->Nat)(nx:Nat)(e:Exit)(a:Act)(w:World):Prop :=
 ∃ ch,e=.panic ch/\Marks Γ a.defers w/\iT KP Γ E nx ch w
theorem s8 {P:Program}{Γ:aY}{ro:Option Nat}{KP:PK}{call:mg->PT}(hcall: ∀ c,nQ P Γ KP c (call c)){ops:Array Oper}{j:Nat}{o:Oper}{K:St->VC}{st:St}(h:(cM P call ops j o K st).holds)
  {E:Nat->Nat} {a:Act} {w:World} (hs:Sat Γ E st a w) (Q:Exit->Act->World->Prop) (hP: ∀ e w,lB KP Γ E st.nx e a w->Q e a w) :
  if Region.wanted o (yielded ops a.tmps)then o.wpIn (Fr ro) 0 P a w (fun a' w'=>(∃ r,a'=a.put o.dst r)/\iZ K Γ E st.nx a' w') Q else iZ K Γ E st.nx (a.put o.dst undef) w:=by
 unfold cM at h
 split at h
 ·rename_i hg
  rw[oS hs.tm hg,if_pos rfl]
  split at h
  ·rename_i hq
   obtain⟨obl,sv,h1,h2⟩:=HZ (P:=P) (look:=fun k=>st.m.get k) (σ:=ev st.tmps) o
   obtain⟨hobl,hk⟩:=(h1 _).1 h
   obtain⟨r,hrun,hv⟩:=h2 E w a.eval ⟨hs.mm.kO,hs.mm.Hi,hs.mm.gi⟩ hs.tm.reads hobl
   refine Out.wp (Ao hq) (R:=fun v w'=>w'=w/\v=r) (RP:=fun _ _=>False) ?_ ?_ (fun _ _ h=>h.elim)
   ·rw[hrun];exact⟨rfl,rfl⟩
   ·rintro v w' ⟨rfl,rfl⟩
    exact⟨⟨_,rfl⟩,xu hk hs.tm hs.wt hs.df hs.mm hv⟩
  ·split at h
   ·rename_i hwf
    obtain⟨Ds,d1,d2,d3,d4⟩:=hs.df
    have hm:=hs.mm.more fun D hD=>(d3 D hD).1
    have:=Un (fun c=>(hcall c).mono (Γ.Ct Ds)) o _ E w a.eval h hm hwf (cv.wf hs.wt) hs.tm.reads
    refine Out.wp (EY h) this ?_ ?_
    rotate_left
    ·rintro ch w' ⟨E',v,m',nx',g1,g2,g3,gw,g4,g5⟩
     exact hP _ _ ⟨ch,rfl,Marks.kept d1 d2 (fun D hD=>(d3 D hD).2) d4 g4,E',v,m',nx',g1,g2,g3,gw,g4.weaken (Γ.Ct Ds),g5⟩
    rintro r w' ⟨E',sv,m',nx',g1,g2,g3,g4,g5⟩
    have ht:=hs.tm.congr hs.wt g1
    obtain⟨E'',st',k1,k2,k3,k4⟩:=xu g5 ht (gQ g2 hs.wt) (Marks.kept d1 d2 (fun D hD=>(d3 D hD).2) d4 g4) (g4.weaken (Γ.Ct Ds)) g3
    exact⟨⟨_,rfl⟩,E'',st',fun k hk=>(k1 k (Nat.lt_of_lt_of_le hk g2)).trans (g1 k hk),Nat.le_trans g2 k2,k3,k4⟩
   ·exact h.elim
 ·rename_i hg
  rw[oS hs.tm hg]
  simp only[Bool.false_eq_true,if_false]
  exact⟨E,⟨bN st.tmps o.dst (some (.aL [])),st.m,st.nx⟩,fun _ _=>rfl,Nat.le_refl _,⟨hs.tm.put (sv:=some (.aL [])) (r:=undef) (fun v hv=>by injection hv with hv;subst hv;rfl),kC hs.wt (fun u hu=>by injection hu with hu;subst hu;rfl),by cases o.dst<;>exact hs.df,hs.mm⟩,h⟩
 ·exact h.elim
def kz (P:Program)(call:mg->PT)(ops:Array Oper):List Nat->(St->VC)->St->VC
 | [],K,st=>K st
 | j::r,K,st=>match ops[j]? with
   | some o=>cM P call ops j o (kz P call ops r K) st
   | none=>.fail "no operation"
def unsure (ops:Array Oper)(tmps:List (Option SV)):List (Option SV):=ops.toList.foldl (fun t o=>bN t o.dst none) tmps
theorem DZ {tmps:List (Option SV)}{d:Option Nat}{i:Nat}{v:SV}(h:(bN tmps d none)[i]?=some (some v)):tmps[i]?=some (some v)/\d≠some i:=by
 cases d with
 | none=>exact⟨h,fun e=>by cases e⟩
 | some d =>
   simp only[bN,List.getElem?_set] at h
   split at h
   ·split at h<;>cases h
   ·rename_i e;exact⟨h,fun x=>e (by injection x)⟩
theorem yV {ops:Array Oper}{tmps:List (Option SV)}{i:Nat}{v:SV}(h:(unsure ops tmps)[i]?=some (some v)):tmps[i]?=some (some v)/\∀ o∈ ops.toList,o.dst≠some i:=by
 unfold unsure at h
 generalize ops.toList=l at h
 induction l generalizing tmps with
 | nil=>exact⟨h,fun o ho=>by cases ho⟩
 | cons x r ih =>
   obtain⟨h1,h2⟩:=ih h
   obtain⟨h3,h4⟩:=DZ h1
   exact⟨h3,fun o ho=>by rcases List.mem_cons.1 ho with rfl | ho;exact h4;exact h2 o ho⟩
theorem I5 {ops:Array Oper}{tmps:List (Option SV)}:(unsure ops tmps).length=tmps.length:=by
 unfold unsure
 generalize ops.toList=l
 induction l generalizing tmps with
 | nil=>rfl
 | cons x r ih =>
   rw[List.foldl_cons,ih]
   cases x.dst<;>simp[bN]
theorem cv.unsure {E:Nat->Nat}{ops:Array Oper}{tmps:List (Option SV)}{a:Act}(h:cv E tmps a):cv E (unsure ops tmps) a :=
 ⟨by rw[I5];exact h.size,fun i v hv=>h.val i v (yV hv).1⟩
theorem cv.zZ {E:Nat->Nat}{ops:Array Oper}{tmps:List (Option SV)}{a:Act}(h:cv E (Sx.unsure ops tmps) a){o:Oper}(ho:o∈ ops.toList)(r:Value):cv E (Sx.unsure ops tmps) (a.put o.dst r):=by
 cases hd:o.dst with
 | none=>exact h
 | some d =>
   refine⟨by simp[Act.put,h.size],fun i v hv=> ?_⟩
   simp only[Act.put]
   rw[Array.getElem?_setIfInBounds,if_neg (fun e=>(yV hv).2 o ho (by rw[hd,e]))]
   exact h.val i v hv
theorem Bd {nx:Nat}{ops:Array Oper}{tmps:List (Option SV)}(h:cN nx tmps=true):cN nx (unsure ops tmps)=true:=by
 unfold unsure
 generalize ops.toList=l
 induction l generalizing tmps with
 | nil=>exact h
 | cons x r ih=>exact ih (kC h fun u hu=>by cases hu)
theorem lB.weaken {KP:PK}{Γ:aY}{E E':Nat->Nat}{nx nx':Nat}{e:Exit}{a:Act}{w:World}(h:lB KP Γ E' nx' e a w)(hE: ∀ k,k<nx->E' k=E k)(hn:nx<=nx'):lB KP Γ E nx e a w:=by
 obtain⟨ch,h1,h2,h3⟩:=h
 exact⟨ch,h1,h2,h3.weaken hE hn⟩
theorem sV {P:Program}{Γ:aY}{ro:Option Nat}{KP:PK}{call:mg->PT}(hcall: ∀ c,nQ P Γ KP c (call c)){ops:Array Oper}{Q:Exit->Act->World->Prop}{K:St->VC}{E0:Nat->Nat}{qF:Nat}{T0:List (Option SV)}(hT0:cN qF T0=true)
  (hP: ∀ e a w,cv E0 (unsure ops T0) a->lB KP Γ E0 qF e a w->Q e a w) :
  ∀(l:List Nat) {st:St} {E:Nat->Nat} {a:Act} {w:World},(kz P call ops l K st).holds->Sat Γ E st a w->cv E0 (unsure ops T0) a->(∀ k,k<qF->E k=E0 k)->qF<=st.nx ->
   (∀ a w,iZ K Γ E st.nx a w->Q .normal a w)->wpOpsIn (Fr ro) 0 P ops Q l a w
 | [],st,E,a,w,h,hs,_,_,_,hQ=>hQ _ _ ⟨E,st,fun _ _=>rfl,Nat.le_refl _,hs,h⟩
 | j::r,st,E,a,w,h,hs,hF,hE0,hn0,hQ=>by
   rw[wpOpsIn_cons]
   unfold wpOpIn
   simp only[kz] at h
   cases ho:ops[j]? with
   | none=>rw[ho] at h;exact h.elim
   | some o =>
     rw[ho] at h
     simp only
     have hmem:o∈ ops.toList:=by rw[← Array.getElem?_toList] at ho;exact List.mem_of_getElem? ho
     have hstep:=s8 (ro:=ro) hcall h hs Q (fun e w hb=>hP e a w hF (hb.weaken hE0 hn0))
     have go: ∀ a' w',((∃ r,a'=a.put o.dst r)/\iZ (kz P call ops r K) Γ E st.nx a' w')->wpOpsIn (Fr ro) 0 P ops Q r a' w':=by
      rintro a' w' ⟨⟨rr,ha⟩,E',st',g1,g2,g3,g4⟩
      refine sV hcall hT0 hP r g4 g3 (ha▸ cv.zZ hF hmem rr) (fun k hk=>(g1 k (Nat.lt_of_lt_of_le hk hn0)).trans (hE0 k hk)) (Nat.le_trans hn0 g2) fun a'' w'' hb=>hQ a'' w'' ?_
      obtain⟨E'',st'',k1,k2,k3,k4⟩:=hb
      exact⟨E'',st'',fun k hk=>(k1 k (Nat.lt_of_lt_of_le hk g2)).trans (g1 k hk),Nat.le_trans g2 k2,k3,k4⟩
     split
     ·rename_i hw
      rw[if_pos hw] at hstep
      exact Oper.wpIn_mono go hstep
     ·rename_i hw
      rw[if_neg hw] at hstep
      exact⟨yA ro,go _ _ ⟨⟨_,rfl⟩,hstep⟩⟩
theorem qq {σ σ':Operand->Option SV}: ∀ {l:List Operand},(∀ x∈ l,σ x=σ' x)->D0 σ l=D0 σ' l
 | [],_=>rfl
 | x::r,h=>by simp only[D0];rw[h x (by simp),qq fun y hy=>h y (by simp[hy])]
theorem lQ {σ σ':Operand->Option SV}: ∀ {l:List (Nat×Operand)},(∀ p∈ l,σ p.2=σ' p.2)->partsOf σ l=partsOf σ' l
 | [],_=>rfl
 | (i,x)::r,h=>by simp only[partsOf];rw[h (i,x) (by simp),lQ fun p hp=>h p (by simp[hp])]
theorem oD {σ σ':Operand->Option SV}{d:Bool×Int}{x:Option Operand}(h: ∀ y,x=some y->σ y=σ' y):bound σ d x=bound σ' d x:=by
 cases x with
 | none=>rfl
 | some y=>simp only[bound,h y rfl]
def keyOf (σ:Operand->Option SV):Op->Option Nat
 | .load _ a=>(match σ a with
   | some (.ptr key _ _)=>some key
   | some (.jz key _ _ _)=>some key
   | some (.gu key _ _ _ _)=>some key
   | some (.mR key _ _ _)=>some key
   | some (.eD key _ _)=>some key
   | some (.lJ key _ _ _ _)=>some key
   | _=>none)
 | .convert _ _ a=>(match σ a with
   | some (.slc key _ _ _ _)=>some key
   | some (.bw key _ _ _ _ _)=>some key
   | _=>none)
 | .lookup _ x _ _=>(match σ x with
   | some (.map key)=>some key
   | _=>none)
 | .call c=>(match c.args.toList with
   | [x]=>(match σ x with
     | some (.map key)=>some key
     | _=>none)
   | _=>none)
 | _=>none
theorem LN {P:Program}{look look':jH}{σ σ':Operand->Option SV}{o:Op}{K:Option SV->VC}(h: ∀ x∈ o.operands,σ x=σ' x)(hl: ∀ k,keyOf σ o=some k->look k=look' k) :
  Wq P look σ o K=Wq P look' σ' o K:=by
 cases o<;>simp only[Op.operands] at h<;>simp only[Wq]
 case move x=>rw[h x (by simp)]
 case assign x=>rw[h x (by simp)]
 case pick c a b=>rw[h c (by simp),h a (by simp),h b (by simp)]
 case load t a =>
  simp only[keyOf] at hl
  rw[h a (by simp)] at hl ⊢
  unfold J1
  cases P.underlying t with
  | none=>rfl
  | some d =>
    simp only
    split
    ·rename_i key o hx;rw[hx] at hl;rw[hl key rfl]
    ·rename_i key w i k hx;rw[hx] at hl;rw[hl key rfl]
    ·rename_i key w o i k hx;rw[hx] at hl;rw[hl key rfl]
    ·rename_i key base n i hx;rw[hx] at hl;rw[hl key rfl]
    ·rfl
    ·rename_i key b o hx;rw[hx] at hl;rw[hl key rfl]
    ·rename_i key w b i k hx;rw[hx] at hl;rw[hl key rfl]
    ·rfl
 case nilCheck x=>rw[h x (by simp)]
 case binOp op t x y yt=>rw[h x (by simp),h y (by simp)]
 case unOp op t x=>rw[h x (by simp)]
 case convert s d x =>
  simp only[keyOf] at hl
  rw[h x (by simp)] at hl ⊢
  cases hx:σ' x with
  | none=>rfl
  | some a =>
    simp only[need,CN]
    split
    ·unfold IW
     split
     ·rfl
     ·rename_i key o n cl c;rw[hx] at hl;rw[hl key rfl]
     ·rename_i key i n c;rw[hx] at hl;rw[hl key rfl]
     ·rfl
    ·rfl
 case makeInterface t x=>rw[h x (by simp)]
 case makeFunc fn a b =>
  rw[qq (l:=a.toList) fun x hx=>h x (by simp;exact .inl (by simpa using hx)),qq (l:=b.toList) fun x hx=>h x (by simp;exact .inr (by simpa using hx))]
 case slice t x lo hi mx =>
  have hx:=h x (by simp)
  have hlo: ∀ d,bound σ d lo=bound σ' d lo:=fun d=>oD fun y hy=>h y (by simp[hy])
  have hhi: ∀ d,bound σ d hi=bound σ' d hi:=fun d=>oD fun y hy=>h y (by simp[hy])
  have hmx: ∀ d,bound σ d mx=bound σ' d mx:=fun d=>oD fun y hy=>h y (by simp[hy])
  unfold C9
  rw[hx]
  have e1: ∀ l s,mG σ l s lo hi K=mG σ' l s lo hi K:=fun _ _=>by simp only[mG,hlo,hhi]
  have e2: ∀ m a key o n cl c,iL σ m a key o n cl c lo hi K=iL σ' m a key o n cl c lo hi K:=fun _ _ _ _ _ _ _=>by simp only[iL,hlo,hhi]
  have e3: ∀ key w i n c,mB σ key w i n c lo hi K=mB σ' key w i n c lo hi K:=fun _ _ _ _ _=>by simp only[mB,hlo,hhi]
  have e4: ∀ key o n,mD σ key o n lo hi K=mD σ' key o n lo hi K:=fun _ _ _=>by simp only[mD,hlo,hhi]
  have e5: ∀ n,qp σ n lo hi=qp σ' n lo hi:=fun _=>by simp only[qp,hlo,hhi]
  have e6: ∀ m key o n c z,mx=some z->nI σ m key o n c lo hi z K=nI σ' m key o n c lo hi z K:=fun _ _ _ _ _ z hz=>by
   subst hz
   simp only[nI,hlo,hhi,hmx]
  split
  ·exact e1 _ _
  ·split
   ·rw[e5,e4]
    split
    ·rfl
    ·exact e2 _ _ _ _ _ _ _
   ·rfl
  ·split
   ·exact e6 _ _ _ _ _ _ rfl
   ·rfl
  ·split
   ·exact e6 _ _ _ _ _ _ rfl
   ·rfl
  ·split
   ·exact e2 _ _ _ _ _ _ _
   ·rfl
  ·split
   ·rw[e3]
   ·rfl
  ·rfl
 case fieldAddr s x f=>rw[h x (by simp)]
 case field t x f=>rw[h x (by simp)]
 case indexAddr t x i=>rw[h x (by simp),h i (by simp)]
 case index t x i=>rw[h x (by simp),h i (by simp)]
 case typeAssert x t at_ ok=>rw[h x (by simp)]
 case extract x i=>rw[h x (by simp)]
 case build t parts =>
  unfold DH
  rw[lQ (l:=parts.toList) fun p hp=>h p.2 (by simp;exact⟨p.1,by simpa using hp⟩)]
 case lookup t x k ok =>
  simp only[keyOf] at hl
  rw[h x (by simp)] at hl ⊢
  rw[h k (by simp)]
  unfold need
  cases hx:σ' x with
  | none=>rfl
  | some v =>
    cases σ' k with
    | none=>rfl
    | some u =>
      simp only
      unfold xb
      split
      ·split
       ·split
        ·rfl
        ·rename_i key _
         rw[hx] at hl
         rw[hl key rfl]
        ·rfl
       ·rfl
      ·rfl
 case call c =>
  obtain⟨callee,args,ats⟩:=c
  cases callee with
  | value f=>rfl
  | invoke r m=>rfl
  | builtin b =>
    simp only[Call.operands] at h
    simp only
    unfold Kk
    split
    ·rename_i x hx
     have hxe:=h x (by simp;have:x∈ args.toList:=by rw[hx];simp
                       simpa using this)
     rw[hxe]
     cases args_ty:ats[0]? with
     | none=>rfl
     | some t =>
       simp only
       unfold need
       cases hv:σ' x with
       | none=>rfl
       | some v =>
         simp only
         unfold J8
         split
         ·rename_i key
          have:=hl key (by simp only[keyOf,hx,hxe,hv])
          rw[this]
         ·rfl
    ·rename_i x hx;rw[h x (by simp;have:x∈ args.toList:=by rw[hx];simp
                              simpa using this)]
    ·rename_i x y hx
     have h1:x∈ args.toList:=by rw[hx];simp
     have h2:y∈ args.toList:=by rw[hx];simp
     rw[h x (by simpa using h1),h y (by simpa using h2)]
    ·rename_i x y hx
     have h1:x∈ args.toList:=by rw[hx];simp
     have h2:y∈ args.toList:=by rw[hx];simp
     rw[h x (by simpa using h1),h y (by simpa using h2)]
    ·rfl
theorem jm {σ σ':Operand->Option SV}{o:Op}(h: ∀ x∈ o.operands,σ x=σ' x):keyOf σ o=keyOf σ' o:=by
 cases o<;>simp only[keyOf]
 case load t a=>rw[h a (by simp[Op.operands])]
 case convert s d a=>rw[h a (by simp[Op.operands])]
 case lookup t x k ok=>rw[h x (by simp[Op.operands])]
 case call c =>
  split
  ·rename_i x hx
   have hm:x∈ c.args.toList:=by rw[hx];simp
   rw[h x (by simp only[Op.operands,Call.operands];cases c.callee<;>simp<;>first | exact .inr (by simpa using hm) | simpa using hm)]
  ·rfl
theorem Lg {P:Program}{call:mg->PT}{σ σ':Operand->Option SV}{m:Mem}{nx:Nat}{o:Op}{K:KL}(h: ∀ x∈ o.operands,σ x=σ' x):lop P call σ m nx o K=lop P call σ' m nx o K:=by
 cases o<;>simp only[Op.operands] at h<;>simp only[lop]
 case box t x=>rw[h x (by simp)]
 case buildSlice t len parts =>
  unfold jo
  rw[lQ (l:=parts.toList) fun p hp=>h p.2 (by simp;exact⟨p.1,by simpa using hp⟩)]
 case makeSlice t x y=>rw[h x (by simp),h y (by simp)]
 case store t a x=>rw[h a (by simp),h x (by simp)]
 case makeMap t r=>cases r with
  | none=>rfl
  | some x=>simp only[Option.map_some];rw[h x (by simp)]
 case mapUpdate t x k v=>rw[h x (by simp),h k (by simp),h v (by simp)]
 case insert t x k v=>rw[h x (by simp),h k (by simp),h v (by simp)]
 case mapEntry t x k=>rw[h x (by simp),h k (by simp)]
 case entryStore t x k v=>rw[h x (by simp),h k (by simp),h v (by simp)]
 case range t x=>rw[h x (by simp)]
 case next x b=>rw[h x (by simp)]
 case panic x=>rw[h x (by simp)]
 case call c =>
  obtain⟨callee,args,ats⟩:=c
  have he:D0 σ args.toList=D0 σ' args.toList:=qq fun x hx=>h x (by simp only[Call.operands];cases callee<;>simp<;>first | exact .inr (by simpa using hx) | simpa using hx)
  unfold wA
  simp only[he]
  cases D0 σ' args.toList with
  | none=>cases callee<;>first | rfl | (rename_i b;cases b<;>rfl)
  | some avs =>
    cases callee with
    | value f=>have:=h f (by simp[Call.operands]);dsimp only;rw[this]
    | invoke r m=>have:=h r (by simp[Call.operands]);dsimp only;rw[this]
    | builtin b=>cases b<;>first | rfl | (cases avs with | nil=>rfl | cons x r=>cases r with | nil=>rfl | cons y r=>cases r<;>rfl)
def aR (pt:PT):Prop:=∀ args m nx (K K':SV->Mem->Nat->VC),(∀ v m nx,(K v m nx).holds->(K' v m nx).holds)->(pt args m nx K).holds->(pt args m nx K').holds
theorem QB {l:Bool}{c:Prop}[Decidable c]{t t':VC}(h:t.holds->t'.holds):(Bm l c t).holds->(Bm l c t').holds:=by
 unfold Bm
 cases l
 ·exact fun x=>⟨x.1,h x.2⟩
 ·by_cases hc:c
  ·simp only[if_pos hc];exact h
  ·simp only[if_neg hc];exact id
theorem uj {x:Option SV}{t t':SV->VC}(h: ∀ v,(t v).holds->(t' v).holds):(need x t).holds->(need x t').holds:=by
 cases x with
 | none=>exact id
 | some v=>exact h v
theorem ij {d:TypeDesc}{k:SV}{t t':S8->VC}(h: ∀ r,(t r).holds->(t' r).holds): ∀ {es:List (Nat×SV×SV)} {i:Nat},(eP d k t es i).holds->(eP d k t' es i).holds
 | [],i,hh=>h _ hh
 | e::r,i,hh=>by
   unfold eP at hh ⊢
   split at hh
   ·split at hh
    ·exact h _ hh
    ·exact ij h hh
   ·rw[dJ] at hh ⊢
    split at hh
    ·exact h _ hh
    ·exact ij h hh
   ·exact hh
theorem ng {P:Program}{t:TypeId}{x k:Option SV}{m:Mem}{f f':TypeDesc->SV->Nat->List (Nat×SV×SV)->Nat->SV->VC}(h: ∀ d kv key es clock z,(f d kv key es clock z).holds->(f' d kv key es clock z).holds) :
  (k8 P t x k m f).holds->(k8 P t x k m f').holds:=by
 unfold k8
 split
 ·split
  ·split
   ·exact h _ _ _ _ _ _
   ·exact id
  ·exact id
 ·exact id
theorem tF {f f':Option (Nat×SV×SV)->VC}(h: ∀ e,(f e).holds->(f' e).holds): ∀ {l:List (Option (Nat×SV×SV))},(sM f l).holds->(sM f' l).holds
 | [],hh=>hh
 | [_],hh=>h _ hh
 | _::_::_,hh=>⟨h _ hh.1,tF h hh.2⟩
theorem GD {P:Program}{call:mg->PT}(hm: ∀ f,aR (call f)){σ:Operand->Option SV}{m:Mem}{nx:Nat}{o:Op}{K K':KL}(h: ∀ v m nx,(K v m nx).holds->(K' v m nx).holds) :
  (lop P call σ m nx o K).holds->(lop P call σ m nx o K').holds:=by
 have hnew: ∀ t z,(CO t z m nx K).holds->(CO t z m nx K').holds:=by
  intro t z;unfold CO;split
  ·exact h _ _ _
  ·exact id
 have hupd: ∀ t x k v,(fJ P t x k v m nx K).holds->(fJ P t x k v m nx K').holds:=fun t x k v=>by
  unfold fJ
  split
  ·have hfu: ∀ key f c (v:Option SV) m,(gI P t key f c k v m nx K).holds->(gI P t key f c k v m nx K').holds:=fun key f c v m=>by
    unfold gI
    split
    ·split
     ·exact h _ _ _
     ·exact id
    ·exact id
   split
   ·exact hfu _ _ _ _ _
   ·refine yq fun vs m'=> ?_
    split
    ·exact hfu _ _ _ _ _
    ·exact id
  refine ng fun d kv key es clock z=> ?_
  split
  ·exact ij fun r=>by
    cases r with
    | none=>exact h _ _ _
    | some q=>exact h _ _ _
  ·exact id
 have hgrown: ∀ e n cs s m nx,(grown e n cs s m nx K).holds->(grown e n cs s m nx K').holds:=fun e n cs s m nx x c hc=>h _ _ _ (x c hc)
 unfold lop
 split
 ·split
  ·exact hnew _ _
  ·exact id
 ·exact uj fun v=>hnew _ _
 ·unfold jo
  split
  ·split
   ·split
    ·split
     ·exact h _ _ _
     ·exact id
    ·exact id
   ·exact id
  ·exact id
 ·refine uj fun a=>uj fun b=> ?_
  unfold wI
  split
  ·split
   ·split
    ·exact QB (h _ _ _)
    ·exact id
   ·exact id
  ·split
   ·split
    ·split
     ·exact fun hh=>⟨hh.1,h _ _ _ hh.2⟩
     ·exact id
    ·exact id
   ·exact id
  ·exact id
 ·unfold lH
  split
  ·split
   ·split
    ·exact h _ _ _
    ·exact id
   ·exact id
  ·split
   ·split
    ·split
     ·exact fun x=>⟨x.1,h _ _ _ x.2⟩
     ·exact id
    ·exact id
   ·split
    ·exact fun x=>⟨x.1,h _ _ _ x.2⟩
    ·exact id
   ·exact id
  ·split
   ·split
    ·split
     ·exact fun x=>⟨x.1,h _ _ _ x.2⟩
     ·exact id
    ·exact id
   ·exact id
  ·split
   ·split
    ·split
     ·split
      ·exact fun x=>⟨x.1,h _ _ _ x.2⟩
      ·exact id
     ·exact id
    ·exact id
   ·exact id
  ·split
   ·split
    ·split
     ·exact fun x=>⟨x.1,h _ _ _ x.2⟩
     ·exact id
    ·exact id
   ·exact id
  ·exact id
 ·unfold wA
  split
  ·split
   ·exact hm _ _ _ _ _ _ fun v m nx=>h _ _ _
   ·exact hm _ _ _ _ _ _ fun v m nx=>h _ _ _
   ·exact id
  ·split
   ·split
    ·split
     ·exact hm _ _ _ _ _ _ fun v m nx=>h _ _ _
     ·exact id
    ·exact id
   ·exact id
  ·unfold tV
   split
   ·unfold wQ
    split
    ·split
     ·split
      ·split
       ·split
        ·unfold ur
         split
         ·split
          ·split
           ·split
            ·exact h _ _ _
            ·exact hgrown _ _ _ _ _ _
           ·split
            ·split
             ·split
              ·exact h _ _ _
              ·exact id
             ·exact hgrown _ _ _ _ _ _
            ·exact id
           ·split
            ·split
             ·exact fun x=>⟨x.1,fun c hc=>h _ _ _ (x.2 c hc)⟩
             ·exact id
            ·exact id
           ·exact id
          ·exact id
         ·exact id
        ·exact id
       ·exact id
      ·exact id
     ·exact id
    ·exact id
   ·split
    ·split
     ·split
      ·split
       ·exact vD fun u m nx=>h _ _ _
       ·exact id
      ·exact id
     ·exact id
    ·exact id
  ·unfold Kg
   split
   ·split
    ·split
     ·split
      ·split
       ·exact h _ _ _
       ·exact id
      ·exact id
     ·unfold sw
      split
      ·split
       ·exact fun x=>⟨x.1,h _ _ _ x.2⟩
       ·exact id
      ·exact id
     ·exact id
    ·exact id
   ·exact id
  ·unfold xk
   split
   ·split
    ·split
     ·split
      ·split
       ·exact h _ _ _
       ·exact id
      ·exact id
     ·exact id
    ·exact ng fun d kv key es clock z=>ij fun r=>by
      cases r with
      | none=>exact h _ _ _
      | some q=>exact h _ _ _
   ·exact id
  ·exact id
 ·unfold s6
  split
  ·exact h _ _ _
  ·split
   ·exact h _ _ _
   ·exact id
  ·exact id
 ·exact hupd _ _ _ _
 ·exact hupd _ _ _ _
 ·unfold qA
  split
  ·unfold p5
   split
   ·split
    ·split
     ·split
      ·exact fun hh b=>h _ _ _ (hh b)
      ·exact id
     ·exact id
    ·exact id
   ·exact id
  exact ng fun d kv key es clock z=>ij fun r=>by
   cases r with
   | none=>exact h _ _ _
   | some q=>exact h _ _ _
 ·unfold k9
  split
  ·unfold qm
   split
   ·split
    ·exact fun hh=>And.intro hh.1 (h _ _ _ hh.2)
    ·exact id
   ·exact id
  split
  ·split
   ·split
    ·exact h _ _ _
    ·exact id
   ·exact id
  ·exact id
 ·unfold Dx
  split
  ·exact h _ _ _
  ·split
   ·exact h _ _ _
   ·exact id
  ·exact id
 ·unfold JR
  split
  ·split
   ·exact h _ _ _
   ·split
    ·split
     ·exact id
     ·exact tF fun e=>by
       cases e with
       | none=>exact h _ _ _
       | some e=>exact h _ _ _
    ·exact id
   ·exact id
  ·exact id
 ·exact id
 ·exact id
def names (ops:Array Oper)(o:Oper):List Nat:=o.looksAt ops
def Qg (P:Program)(ops:Array Oper)(j:Nat)(o:Oper)(tmps:List (Option SV))(m:Mem)(nx:Nat)(k:Option SV->VC):VC :=
 match guardOf ops o tmps with
 | some true=>Wq P (fun k=>m.get k) (ev tmps) o.op (fun v=>H6 (p9 ops j) v nx k)
 | some false=>k (some (.aL []))
 | none=>.fail "a guard that is not known"
theorem fR {P:Program}{call:mg->PT}{ops:Array Oper}{j:Nat}{o:Oper}(hq:dr P o.op=true)(K:St->VC)(st:St) :
  cM P call ops j o K st=Qg P ops j o st.tmps st.m st.nx (fun v=>K ⟨bN st.tmps o.dst v,st.m,st.nx⟩):=by
 unfold cM Qg
 cases guardOf ops o st.tmps with
 | none=>rfl
 | some b=>cases b<;>simp only[hq]<;>rfl
theorem wV (P:Program)(ops:Array Oper)(j:Nat)(o:Oper)(tmps:List (Option SV))(m:Mem)(nx:Nat) :
  ∃(p:Prop) (u:Option SV),(∀ k,(Qg P ops j o tmps m nx k).holds↔p/\(k u).holds):=by
 unfold Qg
 cases guardOf ops o tmps with
 | none=>exact⟨False,none,fun k=>⟨fun h=>h.elim,fun h=>h.1.elim⟩⟩
 | some b =>
   cases b with
   | false=>exact⟨True,some (.aL []),fun k=>⟨fun h=>⟨trivial,h⟩,fun h=>h.2⟩⟩
   | true =>
     obtain⟨obl,sv,h1,_⟩:=HZ (P:=P) (look:=fun k=>m.get k) (σ:=ev tmps) o
     obtain⟨p,u,g1,_,_⟩:=ua (p9 ops j) sv nx
     exact⟨obl/\p,u,fun k=>by simp only[h1,g1];exact⟨fun h=>⟨⟨h.1,h.2.1⟩,h.2.2⟩,fun h=>⟨h.1.1,h.1.2,h.2⟩⟩⟩
theorem y9 {ops:Array Oper}{o:Oper}{t:Nat}(h:Operand.tmp t∈ o.op.operands):t∈ o.looksAt ops:=by
 simp only[Oper.looksAt,List.mem_append,List.mem_filterMap]
 exact .inl ⟨.tmp t,by simpa using h,rfl⟩
theorem sH {ops:Array Oper}{o oj:Oper}{j d:Nat}{b:Bool}(hg:o.guard=some (j,b))(hj:ops[j]?=some oj)(hd:oj.dst=some d):d∈ o.looksAt ops:=by
 simp only[Oper.looksAt,List.mem_append]
 right;simp[hg,hj,hd]
def Agree (ops:Array Oper)(o:Oper)(tmps tmps':List (Option SV)):Prop:=∀ t∈ o.looksAt ops,slot tmps t=slot tmps' t
theorem Agree.ev {ops:Array Oper}{o:Oper}{tmps tmps':List (Option SV)}(h:Agree ops o tmps tmps'): ∀ x∈ o.op.operands,Sx.ev tmps x=Sx.ev tmps' x:=by
 intro x hx
 cases x with
 | tmp t=>exact h t (y9 hx)
 | _=>rfl
theorem Agree.guard {ops:Array Oper}{o:Oper}{tmps tmps':List (Option SV)}(h:Agree ops o tmps tmps'):guardOf ops o tmps=guardOf ops o tmps':=by
 unfold guardOf
 split
 ·rfl
 ·rename_i j want hg
  split
  ·rename_i oj hj
   split
   ·rename_i d hd
    rw[h d (sH hg hj hd)]
   ·rfl
  ·rfl
theorem uO {P:Program}{ops:Array Oper}{j:Nat}{o:Oper}{tmps tmps':List (Option SV)}{m m':Mem}{nx:Nat}{k:Option SV->VC}(h:Agree ops o tmps tmps')
  (hl: ∀ key,keyOf (ev tmps) o.op=some key->m.get key=m'.get key):Qg P ops j o tmps m nx k=Qg P ops j o tmps' m' nx k:=by
 unfold Qg
 rw[h.guard]
 cases guardOf ops o tmps' with
 | none=>rfl
 | some b =>
   cases b with
   | false=>rfl
   | true=>exact LN h.ev hl
theorem wD: ∀ {tmps:List (Option SV)} {d t:Nat} {v:Option SV},d≠t->slot (tmps.set d v) t=slot tmps t
 | [],_,_,_,_=>rfl
 | _::_,0,0,_,h=>absurd rfl h
 | _::_,0,_+1,_,_=>rfl
 | _::_,_+1,0,_,_=>rfl
 | _::r,d+1,t+1,v,h=>wD (tmps:=r) (fun e=>h (by rw[e]))
theorem fY {ops:Array Oper}{o:Oper}{tmps:List (Option SV)}{dst:Option Nat}{v:Option SV}(h: ∀ d,dst=some d->d∉ o.looksAt ops):Agree ops o (bN tmps dst v) tmps:=by
 intro t ht
 cases dst with
 | none=>rfl
 | some d=>exact wD (fun e=>h d rfl (e▸ ht))
theorem tM {tmps:List (Option SV)}{x y:Option Nat}{v u:Option SV}(h: ∀ d,x=some d->y≠some d):bN (bN tmps x v) y u=bN (bN tmps y u) x v:=by
 cases x with
 | none=>rfl
 | some d =>
   cases y with
   | none=>rfl
   | some e =>
     have:d≠e:=fun he=>h d rfl (he▸ rfl)
     simp only[bN];exact List.set_comm _ _ this
def iN (keys:List Nat)(m m':Mem)(t:VC):VC :=
 match keys with
 | []=>t
 | k::r=>.and (.atom (m'.get k=m.get k)) (iN r m m' t)
theorem fo {keys:List Nat}{m m':Mem}{t:VC}:(iN keys m m' t).holds↔(∀ k∈ keys,m'.get k=m.get k)/\t.holds:=by
 induction keys with
 | nil=>simp[iN]
 | cons k r ih =>
   simp only[iN,VC.holds,ih,List.mem_cons,forall_eq_or_imp]
   exact⟨fun h=>⟨⟨h.1,h.2.1⟩,h.2.2⟩,fun h=>⟨h.1.1,h.1.2,h.2⟩⟩
def EF (nx nx':Nat)(t:VC):VC:=match Nat.ble nx nx' with
 | true=>t
 | false=>.fail "keys"
theorem jX {nx nx':Nat}{t:VC}:(EF nx nx' t).holds↔nx<=nx'/\t.holds:=by
 unfold EF
 cases h:Nat.ble nx nx' with
 | true=>exact⟨fun x=>⟨Nat.le_of_ble_eq_true h,x⟩,fun x=>x.2⟩
 | false=>exact⟨fun x=>x.elim,fun x=>by have:=Nat.ble_eq_true_of_le x.1;rw[h] at this;cases this⟩
section
variable {P : Program} {call : mg -> PT} {ops : Array Oper}
theorem bR (hm: ∀ f,aR (call f)){j:Nat}{o:Oper}{K K':St->VC}{st:St}
  (h: ∀ u m nx,(K ⟨bN st.tmps o.dst u,m,nx⟩).holds->(K' ⟨bN st.tmps o.dst u,m,nx⟩).holds) (hh:(cM P call ops j o K st).holds):(cM P call ops j o K' st).holds:=by
 cases hq:dr P o.op with
 | true =>
   rw[fR hq] at hh ⊢
   obtain⟨p,u,hd⟩:=wV P ops j o st.tmps st.m st.nx
   rw[hd] at hh ⊢
   exact⟨hh.1,h _ _ _ hh.2⟩
 | false =>
   unfold cM at hh ⊢
   cases hg:guardOf ops o st.tmps with
   | none=>rw[hg] at hh;exact hh.elim
   | some b =>
     rw[hg] at hh
     cases b with
     | false=>exact h _ _ _ hh
     | true =>
       simp only[hq] at hh ⊢
       cases hw:Mem.wf st.nx st.m with
       | false=>rw[hw] at hh;exact hh.elim
       | true =>
         rw[hw] at hh
         simp only at hh ⊢
         refine GD hm (fun v m nx hp=> ?_) hh
         obtain⟨p,u,g1,_,_⟩:=ua (p9 ops j) v nx
         unfold Od at hp ⊢
         rw[g1] at hp ⊢
         exact⟨hp.1,h _ _ _ hp.2⟩
def stepG (P:Program)(call:mg->PT)(ops:Array Oper)(i:Nat)(o:Oper)(H:List Nat)(K:St->VC)(st:St):VC :=
 cM P call ops i o (fun st'=>iN H st.m st'.m (EF st.nx st'.nx (K st'))) st
theorem KN {g:Bool}{v:Option SV}{nx nx':Nat}(hn:nx<=nx'){k:Option SV->VC}(h:(H6 g v nx k).holds):(H6 g v nx' k).holds:=by
 have hw:V1 nx v=true->V1 nx' v=true:=by cases v with
  | none=>exact id
  | some v=>exact SV.eV hn v
 unfold H6 at *
 split at h
 ·exact h
 ·rename_i g' v' hne
  cases hv:V1 nx v with
  | false=>rw[hv] at h;exact h.elim
  | true =>
    rw[hv] at h
    rw[hw hv];exact h
theorem N8 {j:Nat}{o:Oper}{tmps:List (Option SV)}{m:Mem}{nx nx':Nat}(hn:nx<=nx'){k:Option SV->VC}(h:(Qg P ops j o tmps m nx k).holds):(Qg P ops j o tmps m nx' k).holds:=by
 unfold Qg at h ⊢
 cases hg:guardOf ops o tmps with
 | none=>rw[hg] at h;exact h.elim
 | some b =>
   rw[hg] at h
   cases b with
   | false=>exact h
   | true =>
     obtain⟨obl,sv,h1,_⟩:=HZ (P:=P) (look:=fun k=>m.get k) (σ:=ev tmps) o
     simp only at h ⊢
     rw[h1] at h ⊢
     refine⟨h.1,?_⟩
     exact KN hn h.2
structure wm (ops:Array Oper)(x y:Oper):Prop where
 a: ∀ d,x.dst=some d->d∉ y.looksAt ops
 b: ∀ d,x.dst=some d->y.dst≠some d
 c: ∀ d,y.dst=some d->d∉ x.looksAt ops
theorem Mu (hm: ∀ f,aR (call f)){jp ji:Nat}{op oi:Oper}(hp:dr P op.op=true)(hi:dr P oi.op=false)(ha:wm ops op oi){H H1:List Nat}{K:St->VC}{st:St}
  (hH: ∀ k∈ H,k∈ H1) (hk: ∀ k,keyOf (ev st.tmps) op.op=some k->k∈ H1) (h:(cM P call ops jp op (stepG P call ops ji oi H1 K) st).holds) :
  (stepG P call ops ji oi H (cM P call ops jp op K) st).holds:=by
 obtain⟨tmps,m,nx⟩:=st
 rw[fR hp] at h
 obtain⟨pp,u,hd⟩:=wV P ops jp op tmps m nx
 obtain⟨hpp,h⟩:=(hd _).1 h
 have hag:Agree ops oi (bN tmps op.dst u) tmps:=fY ha.a
 have fin: ∀(u':Option SV) (m':Mem) (nx':Nat),(iN H1 m m' (EF nx nx' (K ⟨bN (bN tmps op.dst u) oi.dst u',m',nx'⟩))).holds ->
   (iN H m m' (EF nx nx' (cM P call ops jp op K ⟨bN tmps oi.dst u',m',nx'⟩))).holds:=by
  intro u' m' nx' hh
  rw[fo,jX] at hh ⊢
  refine⟨fun k hk'=>hh.1 k (hH k hk'),hh.2.1,?_⟩
  rw[fR hp]
  have h1:(Qg P ops jp op tmps m nx (fun v=>K ⟨bN (bN tmps oi.dst u') op.dst v,m',nx'⟩)).holds:=by
   rw[hd]
   refine⟨hpp,?_⟩
   rw[tM (fun d hd' he=>ha.b d he hd')]
   exact hh.2.2
  have h2:=N8 hh.2.1 h1
  rw[uO (tmps':=bN tmps oi.dst u') (m':=m') (fun t ht=>((fY (tmps:=tmps) (v:=u') ha.c) t ht).symm) (fun key hkey=>(hh.1 key (hk key hkey)).symm)] at h2
  exact h2
 unfold stepG cM at h ⊢
 rw[hag.guard] at h
 cases hg:guardOf ops oi tmps with
 | none=>rw[hg] at h;exact h.elim
 | some b =>
   rw[hg] at h
   cases b with
   | false=>exact fin _ _ _ h
   | true =>
     simp only[hi] at h ⊢
     cases hw:Mem.wf nx m with
     | false=>rw[hw] at h;exact h.elim
     | true =>
       rw[hw] at h
       simp only at h ⊢
       rw[Lg hag.ev] at h
       refine GD hm (fun v m' nx' hpk=> ?_) h
       obtain⟨p',u',g1,_,_⟩:=ua (p9 ops ji) v nx'
       unfold Od at hpk ⊢
       rw[g1] at hpk ⊢
       exact⟨hpk.1,fin _ _ _ hpk.2⟩
theorem zO {jp ji:Nat}{op oi:Oper}(hp:dr P op.op=true)(hi:dr P oi.op=true)(ha:wm ops op oi){K:St->VC}{st:St}
  (h:(cM P call ops jp op (cM P call ops ji oi K) st).holds):(cM P call ops ji oi (cM P call ops jp op K) st).holds:=by
 obtain⟨tmps,m,nx⟩:=st
 rw[fR hp] at h
 obtain⟨pp,u,hd⟩:=wV P ops jp op tmps m nx
 obtain⟨hpp,h⟩:=(hd _).1 h
 rw[fR hi] at h ⊢
 rw[uO (tmps':=tmps) (fY ha.a) (fun _ _=>rfl)] at h
 obtain⟨pi,v,hd2⟩:=wV P ops ji oi tmps m nx
 rw[hd2] at h ⊢
 refine⟨h.1,?_⟩
 rw[fR hp]
 rw[uO (tmps':=tmps) (fY ha.c) (fun _ _=>rfl),hd]
 refine⟨hpp,?_⟩
 have h2:=h.2
 simp only at h2 ⊢
 rw[tM (fun d hd' he=>ha.b d he hd')]
 exact h2
def ie (mask:Nat)(rd:List (Nat×Nat)):List Nat :=
 match rd with
 | []=>[]
 | (p,k)::r=>match mask.testBit p with
   | true=>ie mask r
   | false=>k::ie mask r
theorem jy {mask:Nat}{k:Nat}: ∀ {rd:List (Nat×Nat)},k∈ ie mask rd↔∃ p,(p,k)∈ rd/\mask.testBit p=false
 | []=>by simp[ie]
 | (p,x)::r=>by
   simp only[ie]
   cases h:mask.testBit p with
   | true =>
     simp only[jy (rd:=r),List.mem_cons,Prod.mk.injEq]
     constructor
     ·rintro⟨q,h1,h2⟩;exact⟨q,.inr h1,h2⟩
     ·rintro⟨q,h1 | h1,h2⟩
      ·obtain⟨rfl,rfl⟩:=h1;rw[h] at h2;cases h2
      ·exact⟨q,h1,h2⟩
   | false =>
     simp only[List.mem_cons,jy (rd:=r),Prod.mk.injEq]
     constructor
     ·rintro(rfl | ⟨q,h1,h2⟩)
      ·exact⟨p,.inl ⟨rfl,rfl⟩,h⟩
      ·exact⟨q,.inr h1,h2⟩
     ·rintro⟨q,h1 | h1,h2⟩
      ·obtain⟨rfl,rfl⟩:=h1;exact .inl rfl
      ·exact .inr ⟨q,h1,h2⟩
def addKey (j:Nat)(k:Option Nat)(rd:List (Nat×Nat)):List (Nat×Nat) :=
 match k with
 | some k=>(j,k)::rd
 | none=>rd
def jZ (f:Nat->VC):List Nat->VC
 | []=>.tt
 | j::r=>(match r with
   | []=>f j
   | _::_=>.and (f j) (jZ f r))
theorem m5 {f:Nat->VC}: ∀ {l:List Nat},(jZ f l).holds->∀ j∈ l,(f j).holds
 | [],_,_,h=>by cases h
 | [j],h,k,hk=>by simp only[List.mem_singleton] at hk;subst hk;exact h
 | j::x::r,h,k,hk=>by
   rw[List.mem_cons] at hk
   rcases hk with rfl | hk
   ·exact h.1
   ·exact m5 (l:=x::r) h.2 k hk
theorem i4 {f g:Nat->VC}(hfg: ∀ j,(f j).holds->(g j).holds): ∀ {l:List Nat},(jZ f l).holds->(jZ g l).holds
 | [],h=>h
 | [j],h=>hfg j h
 | j::x::r,h=>⟨hfg j h.1,i4 hfg (l:=x::r) h.2⟩
def gY:List Nat->Nat
 | []=>0
 | q::r=>Nat.lor (Nat.pow 2 q) (gY r)
theorem BG {k:Nat}: ∀ {l:List Nat},(gY l).testBit k=true->k∈ l
 | [],h=>by simp[gY] at h
 | q::r,h=>by
   have h:(2^ q ||| gY r).testBit k=true:=h
   simp only[Nat.testBit_or,Bool.or_eq_true] at h
   rcases h with h | h
   ·rw[Nat.testBit_two_pow] at h;simp at h;simp[h]
   ·exact List.mem_cons_of_mem _ (BG h)
theorem Bl {k:Nat}: ∀ {l:List Nat},k∈ l->(gY l).testBit k=true
 | q::r,h=>by
   show(2^ q ||| gY r).testBit k=true
   simp only[Nat.testBit_or,Bool.or_eq_true]
   rw[List.mem_cons] at h
   rcases h with rfl | h
   ·left;simp[]
   ·exact .inr (Bl h)
def isReady (masks:List Nat)(lm:Nat)(j:Nat):Bool:=Nat.beq (Nat.land (masks.getD j 0) lm) 0
theorem gR {masks l:List Nat}{j:Nat}:isReady masks (gY l) j=true↔∀ q∈ l,(masks.getD j 0).testBit q=false:=by
 unfold isReady
 constructor
 ·intro h q hq
  have h0:=Nat.eq_of_beq_eq_true h
  have:(masks.getD j 0 &&& gY l).testBit q=false:=by
   show(Nat.land (masks.getD j 0) (gY l)).testBit q=false
   rw[h0];exact Nat.zero_testBit q
  rw[Nat.testBit_and,Bl hq,Bool.and_true] at this
  exact this
 ·intro h
  have key: ∀ {a b:Nat},a=b->Nat.beq a b=true:=fun e=>by subst e;exact Nat.beq_refl _
  apply key
  apply Nat.eq_of_testBit_eq
  intro k
  show(masks.getD j 0 &&& gY l).testBit k=_
  rw[Nat.testBit_and,Nat.zero_testBit]
  cases hk:(gY l).testBit k with
  | false=>simp
  | true=>rw[h k (BG hk)];rfl
def quietAt (P:Program)(ops:Array Oper)(j:Nat):Bool:=match ops[j]? with
 | some o=>dr P o.op
 | none=>false
def sC (P:Program)(ops:Array Oper)(masks:List Nat)(lm:Nat):List Nat->Option Nat
 | []=>none
 | j::r=>match quietAt P ops j&&isReady masks lm j with
   | true=>some j
   | false=>sC P ops masks lm r
theorem nt {masks:List Nat}{lm j:Nat}: ∀ {l:List Nat},sC P ops masks lm l=some j->j∈ l/\quietAt P ops j=true/\isReady masks lm j=true
 | [],h=>by cases h
 | k::r,h=>by
   unfold sC at h
   split at h
   ·rename_i hk
    injection h with h;subst h
    rw[Bool.and_eq_true] at hk
    exact⟨by simp,hk⟩
   ·have:=nt h
    exact⟨by simp[this.1],this.2⟩
theorem nw {masks:List Nat}{lm:Nat}: ∀ {l:List Nat},sC P ops masks lm l=none->∀ j∈ l,(quietAt P ops j&&isReady masks lm j)=false
 | [],_,_,hj=>by cases hj
 | k::r,h,j,hj=>by
   unfold sC at h
   split at h
   ·cases h
   ·rename_i hk
    rw[List.mem_cons] at hj
    rcases hj with rfl | hj
    ·exact hk
    ·exact nw h j hj
def xy (P:Program)(ops:Array Oper)(masks:List Nat)(l:List Nat):List Nat :=
 l.filter fun j=>!quietAt P ops j&&isReady masks (gY l) j
def bV (P:Program)(call:mg->PT)(ops:Array Oper)(masks:List Nat):Nat->List Nat->List (Nat×Nat)->(St->VC)->St->VC
 | _,[],_,K,st=>K st
 | 0,_::_,_,_,_=>.fail "a region that is too long"
 | n+1,x::r,rd,K,st=>match sC P ops masks (gY (x::r)) (x::r)with
   | some i=>(match ops[i]? with
     | some o=>cM P call ops i o (bV P call ops masks n ((x::r).erase i) (addKey i (keyOf (ev st.tmps) o.op) rd) K) st
     | none=>.fail "no operation")
   | none=>jZ (fun j=>match ops[j]? with
      | some oj=>stepG P call ops j oj (ie (masks.getD j 0) rd) (bV P call ops masks n ((x::r).erase j) rd K) st
      | none=>.fail "no operation") (xy P ops masks (x::r))
theorem kS {masks:List Nat}{n:Nat}{rd:List (Nat×Nat)}{K:St->VC}{st:St}:bV P call ops masks n [] rd K st=K st:=by cases n<;>rfl
theorem Fw {i:Nat}{k:Option Nat}{rd rd':List (Nat×Nat)}(h: ∀ x∈ rd,x∈ rd'): ∀ x∈ addKey i k rd,x∈ addKey i k rd':=by
 intro x hx
 cases k with
 | none=>exact h x hx
 | some k=>simp only[addKey,List.mem_cons] at hx ⊢;exact hx.imp id (h x)
theorem G1 {i:Nat}{k:Option Nat}{rd:List (Nat×Nat)}: ∀ x∈ rd,x∈ addKey i k rd:=by
 intro x hx
 cases k with
 | none=>exact hx
 | some k=>exact List.mem_cons_of_mem _ hx
theorem vH {i j:Nat}{k k':Option Nat}{rd:List (Nat×Nat)}: ∀ x∈ addKey i k (addKey j k' rd),x∈ addKey j k' (addKey i k rd):=by
 intro x hx
 cases k<;>cases k'<;>simp only[addKey,List.mem_cons] at hx ⊢ <;> first | exact hx | (rcases hx with h | h | h<;>simp[h])
theorem j7 (hm: ∀ f,aR (call f)){masks:List Nat}{K:St->VC}: ∀ {n:Nat} {l:List Nat} {rd rd':List (Nat×Nat)} {st:St},(∀ x∈ rd,x∈ rd')->(bV P call ops masks n l rd' K st).holds->(bV P call ops masks n l rd K st).holds
 | n,[],_,_,_,_,h=>by rw[kS] at h ⊢;exact h
 | 0,_::_,_,_,_,_,h=>h.elim
 | n+1,x::r,rd,rd',st,hr,h=>by
   simp only[bV] at h ⊢
   split at h
   ·split at h
    ·exact bR hm (fun u m nx hh=>j7 hm (Fw hr) hh) h
    ·exact h.elim
   ·refine i4 (fun j hj=> ?_) h
    cases hoj:ops[j]? with
    | none=>rw[hoj] at hj;exact hj.elim
    | some oj =>
      rw[hoj] at hj
      simp only at hj ⊢
      refine bR hm (fun u m nx hh=> ?_) hj
      rw[fo,jX] at hh ⊢
      refine⟨fun k hk=>hh.1 k ?_,hh.2.1,j7 hm hr hh.2.2⟩
      rw[jy] at hk ⊢
      obtain⟨p,h1,h2⟩:=hk
      exact⟨p,hr _ h1,h2⟩
theorem wm.symm {x y:Oper}(h:wm ops x y):wm ops y x:=⟨h.c,fun d hd he=>h.b d he hd,h.a⟩
def Rel (P:Program)(ops:Array Oper)(masks:List Nat)(p i:Nat):Prop :=
 ∃ op oi,ops[p]?=some op/\ops[i]?=some oi/\((masks.getD i 0).testBit p=true∨(masks.getD p 0).testBit i=true∨(dr P op.op=false/\dr P oi.op=false)∨wm ops op oi)
def I2 (P:Program)(ops:Array Oper)(masks:List Nat)(R:List Nat):Prop:=∀ p∈ R,∀ i∈ R,p≠i->Rel P ops masks p i
theorem I2.erase {masks:List Nat}{R:List Nat}(h:I2 P ops masks R)(q:Nat):I2 P ops masks (R.erase q):=fun p hp i hi=>h p (List.mem_of_mem_erase hp) i (List.mem_of_mem_erase hi)
def x9 (P:Program)(call:mg->PT)(ops:Array Oper)(masks:List Nat)(n:Nat)(i:Nat)(oi:Oper)(R:List Nat)(rd:List (Nat×Nat))(K:St->VC)(st:St):VC :=
 match dr P oi.op with
 | true=>cM P call ops i oi (bV P call ops masks n R (addKey i (keyOf (ev st.tmps) oi.op) rd) K) st
 | false=>stepG P call ops i oi (ie (masks.getD i 0) rd) (bV P call ops masks n R rd K) st
theorem VJ (hm: ∀ f,aR (call f)){masks:List Nat}{K:St->VC}: ∀(n:Nat),
  (∀ {R:List Nat} {rd:List (Nat×Nat)} {st:St} {i:Nat} {oi:Oper},R.length<=n+1->I2 P ops masks R->i∈ R->ops[i]?=some oi->(∀ q∈ R,(masks.getD i 0).testBit q=false) ->
    (bV P call ops masks (n+1) R rd K st).holds->(x9 P call ops masks n i oi (R.erase i) rd K st).holds) /\
  (∀ {X:List Nat} {rd:List (Nat×Nat)} {st:St} {q:Nat} {oq:Oper},X.length<=n+1->I2 P ops masks X->q∈ X->ops[q]?=some oq->dr P oq.op=true->(∀ p∈ X,(masks.getD q 0).testBit p=false) ->
    (cM P call ops q oq (bV P call ops masks n (X.erase q) (addKey q (keyOf (ev st.tmps) oq.op) rd) K) st).holds->(bV P call ops masks (n+1) X rd K st).holds):=by
 have apart: ∀ {R:List Nat} {q i:Nat} {oq oi:Oper},I2 P ops masks R->q∈ R->i∈ R->q≠i->ops[q]?=some oq->ops[i]?=some oi->dr P oq.op=true ->
   (∀ p∈ R,(masks.getD q 0).testBit p=false)->(∀ p∈ R,(masks.getD i 0).testBit p=false)->wm ops oq oi:=by
  intro R q i oq oi hR hq hi hne hoq hoi hqq h1 h2
  obtain⟨op,oi',e1,e2,h⟩:=hR q hq i hi hne
  rw[hoq] at e1;injection e1 with e1;subst e1
  rw[hoi] at e2;injection e2 with e2;subst e2
  rcases h with h | h | h | h
  ·rw[h2 q hq] at h;cases h
  ·rw[h1 i hi] at h;cases h
  ·rw[hqq] at h;cases h.1
  ·exact h
 intro n
 induction n with
 | zero =>
   refine⟨fun {R rd st i oi} hl hR hi ho hrd h=> ?_,fun {X rd st q oq} hl hX hq ho hqq hrd h=> ?_⟩
   ·have hR1:R=[i]:=by
     match R,hl,hi with
     | [x],_,hi=>simp only[List.mem_singleton] at hi;rw[hi]
    subst hR1
    simp only[bV] at h
    split at h
    ·rename_i j hj
     obtain⟨g1,g2,_⟩:=nt hj
     simp only[List.mem_singleton] at g1;subst g1
     simp only[quietAt,ho] at g2
     rw[ho] at h
     simp only[x9,g2]
     exact h
    ·rename_i hj
     have hnq:=nw hj i (by simp)
     have hre:isReady masks (gY [i]) i=true:=gR.2 hrd
     simp only[hre,Bool.and_true,quietAt,ho] at hnq
     have:=m5 h i (by simp only[xy,List.mem_filter,quietAt,ho,hnq,hre];simp)
     rw[ho] at this
     simp only[x9,hnq]
     exact this
   ·have hX1:X=[q]:=by
     match X,hl,hq with
     | [x],_,hi=>simp only[List.mem_singleton] at hi;rw[hi]
    subst hX1
    simp only[bV]
    have hre:isReady masks (gY [q]) q=true:=gR.2 hrd
    simp only[sC,quietAt,ho,hqq,hre,Bool.and_true]
    exact h
 | succ m ih =>
   obtain⟨ih1,ih2⟩:=ih
   refine⟨fun {R rd st i oi} hl hR hi ho hrd h=> ?_,fun {X rd st q oq} hl hX hq ho hqq hrd h=> ?_⟩
   ·obtain⟨x,r,hxr⟩: ∃ x r,R=x::r:=by
     match R,hi with
     | x::r,_=>exact⟨x,r,rfl⟩
    have hdr:bV P call ops masks (m+1+1) R rd K st=(match sC P ops masks (gY R) R with
     | some i=>(match ops[i]? with
       | some o=>cM P call ops i o (bV P call ops masks (m+1) (R.erase i) (addKey i (keyOf (ev st.tmps) o.op) rd) K) st
       | none=>.fail "no operation")
     | none=>jZ (fun j=>match ops[j]? with
        | some oj=>stepG P call ops j oj (ie (masks.getD j 0) rd) (bV P call ops masks (m+1) (R.erase j) rd K) st
        | none=>.fail "no operation") (xy P ops masks R)):=by rw[hxr];rfl
    rw[hdr] at h
    split at h
    ·rename_i q hq
     obtain⟨g1,g2,g3⟩:=nt hq
     rw[gR] at g3
     cases hoq:ops[q]? with
     | none=>rw[hoq] at h;exact h.elim
     | some oq =>
       rw[hoq] at h
       simp only at h
       simp only[quietAt,hoq] at g2
       by_cases e:q=i
       ·subst e
        rw[hoq] at ho;injection ho with ho;subst ho
        simp only[x9,g2]
        exact h
       ·have hap:=apart hR g1 hi e hoq ho g2 g3 hrd
        have hi':i∈ R.erase q:=(List.mem_erase_of_ne (fun x=>e x.symm)).2 hi
        have hq':q∈ R.erase i:=(List.mem_erase_of_ne e).2 g1
        have hl1:(R.erase q).length<=m+1:=by rw[List.length_erase_of_mem g1];omega
        have hl2:(R.erase i).length<=m+1:=by rw[List.length_erase_of_mem hi];omega
        cases hqi:dr P oi.op with
        | true =>
          simp only[x9,hqi]
          have hk: ∀ u,keyOf (ev (bN st.tmps oq.dst u)) oi.op=keyOf (ev st.tmps) oi.op:=fun u=>jm (fY hap.a).ev
          have h1:(cM P call ops q oq (cM P call ops i oi (bV P call ops masks m ((R.erase q).erase i) (addKey i (keyOf (ev st.tmps) oi.op) (addKey q (keyOf (ev st.tmps) oq.op) rd)) K)) st).holds :=
           bR hm (fun u m' nx' hh=>by
            have:=ih1 hl1 (hR.erase q) hi' ho (fun p hp=>hrd p (List.mem_of_mem_erase hp)) hh
            simp only[x9,hqi,hk] at this
            exact this) h
          have h2:=zO g2 hqi hap h1
          refine bR hm (fun u m' nx' hh=> ?_) h2
          refine ih2 hl2 (hR.erase i) hq' hoq g2 (fun p hp=>g3 p (List.mem_of_mem_erase hp)) ?_
          have hk2:keyOf (ev (bN st.tmps oi.dst u)) oq.op=keyOf (ev st.tmps) oq.op:=jm (fY hap.c).ev
          simp only[hk2]
          rw[List.erase_comm]
          exact bR hm (fun u m' nx' hh=>j7 hm vH hh) hh
        | false =>
          simp only[x9,hqi]
          have h1:(cM P call ops q oq (stepG P call ops i oi (ie (masks.getD i 0) (addKey q (keyOf (ev st.tmps) oq.op) rd)) (bV P call ops masks m ((R.erase q).erase i) (addKey q (keyOf (ev st.tmps) oq.op) rd) K)) st).holds :=
           bR hm (fun u m' nx' hh=>by
            have:=ih1 hl1 (hR.erase q) hi' ho (fun p hp=>hrd p (List.mem_of_mem_erase hp)) hh
            simp only[x9,hqi] at this
            exact this) h
          have h2:=Mu hm g2 hqi hap (H:=ie (masks.getD i 0) rd) (fun k hk=>by
            rw[jy] at hk ⊢
            obtain⟨p,y1,y2⟩:=hk
            exact⟨p,G1 _ y1,y2⟩) (fun k hk=>by
            rw[jy,hk]
            exact⟨q,by simp[addKey],hrd q g1⟩) h1
          unfold stepG at h2 ⊢
          refine bR hm (fun u m' nx' hh=> ?_) h2
          rw[fo,jX] at hh ⊢
          refine⟨hh.1,hh.2.1,?_⟩
          refine ih2 hl2 (hR.erase i) hq' hoq g2 (fun p hp=>g3 p (List.mem_of_mem_erase hp)) ?_
          have hk2:keyOf (ev (bN st.tmps oi.dst u)) oq.op=keyOf (ev st.tmps) oq.op:=jm (fY hap.c).ev
          simp only[hk2]
          rw[List.erase_comm]
          exact hh.2.2
    ·rename_i hj
     have hnq:=nw hj i hi
     have hre:isReady masks (gY R) i=true:=gR.2 hrd
     simp only[hre,Bool.and_true,quietAt,ho] at hnq
     have:=m5 h i (by unfold xy;rw[List.mem_filter];refine⟨hi,?_⟩;simp only[quietAt,ho,hnq,hre];rfl)
     rw[ho] at this
     simp only[x9,hnq]
     exact this
   ·obtain⟨y,r,hxr⟩: ∃ x r,X=x::r:=by
     match X,hq with
     | x::r,_=>exact⟨x,r,rfl⟩
    have hdr:bV P call ops masks (m+1+1) X rd K st=(match sC P ops masks (gY X) X with
     | some i=>(match ops[i]? with
       | some o=>cM P call ops i o (bV P call ops masks (m+1) (X.erase i) (addKey i (keyOf (ev st.tmps) o.op) rd) K) st
       | none=>.fail "no operation")
     | none=>jZ (fun j=>match ops[j]? with
        | some oj=>stepG P call ops j oj (ie (masks.getD j 0) rd) (bV P call ops masks (m+1) (X.erase j) rd K) st
        | none=>.fail "no operation") (xy P ops masks X)):=by rw[hxr];rfl
    rw[hdr]
    split
    ·rename_i x hx
     obtain⟨g1,g2,g3⟩:=nt hx
     rw[gR] at g3
     have hox: ∃ ox,ops[x]?=some ox/\dr P ox.op=true:=by
      unfold quietAt at g2
      split at g2
      ·rename_i ox hox;exact⟨ox,hox,g2⟩
      ·cases g2
     obtain⟨ox,hox,hqx⟩:=hox
     rw[hox]
     simp only
     by_cases e:x=q
     ·subst e
      rw[hox] at ho;injection ho with ho;subst ho
      exact h
     ·have hap:=apart hX hq g1 (fun h=>e h.symm) ho hox hqq hrd g3
      have hx':x∈ X.erase q:=(List.mem_erase_of_ne e).2 g1
      have hq':q∈ X.erase x:=(List.mem_erase_of_ne (fun h=>e h.symm)).2 hq
      have hl1:(X.erase q).length<=m+1:=by rw[List.length_erase_of_mem hq];omega
      have hl2:(X.erase x).length<=m+1:=by rw[List.length_erase_of_mem g1];omega
      have hk: ∀ u,keyOf (ev (bN st.tmps oq.dst u)) ox.op=keyOf (ev st.tmps) ox.op:=fun u=>jm (fY hap.a).ev
      have h1:(cM P call ops q oq (cM P call ops x ox (bV P call ops masks m ((X.erase q).erase x) (addKey x (keyOf (ev st.tmps) ox.op) (addKey q (keyOf (ev st.tmps) oq.op) rd)) K)) st).holds :=
       bR hm (fun u m' nx' hh=>by
        have:=ih1 hl1 (hX.erase q) hx' hox (fun p hp=>g3 p (List.mem_of_mem_erase hp)) hh
        simp only[x9,hqx,hk] at this
        exact this) h
      have h2:=zO hqq hqx hap h1
      refine bR hm (fun u m' nx' hh=> ?_) h2
      refine ih2 hl2 (hX.erase x) hq' ho hqq (fun p hp=>hrd p (List.mem_of_mem_erase hp)) ?_
      have hk2:keyOf (ev (bN st.tmps ox.dst u)) oq.op=keyOf (ev st.tmps) oq.op:=jm (fY hap.c).ev
      simp only[hk2]
      rw[List.erase_comm]
      exact bR hm (fun u m' nx' hh=>j7 hm vH hh) hh
    ·rename_i hj
     have hnq:=nw hj q hq
     have hre:isReady masks (gY X) q=true:=gR.2 hrd
     simp only[hre,Bool.and_true,quietAt,ho,hqq] at hnq
     cases hnq
end
end
end Go.Proofs.YtoibaecagklkaaaGreatDoor.Sx
