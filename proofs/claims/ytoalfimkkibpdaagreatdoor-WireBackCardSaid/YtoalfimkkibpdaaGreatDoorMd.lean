/-
  The framework's ninth part: stores, append, copy, make.
-/
import Derived.Test.YtoalfimkkibpdaaGreatDoorMc
namespace Go.Proofs.YtoalfimkkibpdaaGreatDoor.Sx
open Go
noncomputable section
theorem setCell_eq {w:World} {b o:Nat} {v:Value} {c:Array Value} {ty:TypeId} {fr:Nat×Nat} (h:w.heap[b]?=some (.cells c ty fr)) :
  w.setCell ⟨b,o,none⟩ v={w with heap:=w.heap.setIfInBounds b (.cells (c.setIfInBounds o v) ty fr)}:=by
 unfold World.setCell
 congr 1
 apply Array.ext_getElem?
 intro i
 rw[Array.getElem?_modify,Array.getElem?_setIfInBounds]
 by_cases e:b=i
 ·subst e
  obtain⟨hlt,he⟩:=Array.getElem?_eq_some_iff.1 h
  simp[hlt,he]
 ·simp[e]
def setArr (c:Array Value)(off:Nat):List Value→Array Value
 | []=>c
 | v::r=>setArr (c.setIfInBounds off v) (off+1) r
theorem setArr_toList: ∀(vs:List Value)(c:Array Value)(off:Nat),(setArr c off vs).toList=setRange c.toList off vs
 | [],_,_=>rfl
 | v::r,c,off=>by rw[setArr,setArr_toList r,setRange];simp
theorem setArr_size: ∀(vs:List Value)(c:Array Value)(off:Nat),(setArr c off vs).size=c.size
 | [],_,_=>rfl
 | v::r,c,off=>by rw[setArr,setArr_size r];simp
theorem storeCells_run {P:Program} {b o:Nat} {ty:TypeId} {fr:Nat×Nat}: ∀(vs:List Value)(i:Nat)(w:World)(c:Array Value),w.heap[b]?=some (.cells c ty fr) →
  (∀ j,c.size≤j∨¬ (fr.1≤j∧j<fr.2))→o+i+vs.length≤c.size→(∀ v∈ vs,v.oneCell'=true) →
  (storeCells ⟨b,o,none⟩ vs i).run P w=.ok () {w with heap:=w.heap.setIfInBounds b (.cells (setArr c (o+i) vs) ty fr)}
 | [],i,w,c,h,_,_,_=>by
   simp only[storeCells,Sem.run_pure,setArr]
   congr 1
   have:w.heap.setIfInBounds b (.cells c ty fr)=w.heap:=by
    apply Array.ext_getElem?
    intro j
    rw[Array.getElem?_setIfInBounds]
    by_cases e:b=j
    ·subst e
     obtain⟨hlt,he⟩:=Array.getElem?_eq_some_iff.1 h
     simp[hlt,he]
    ·simp[e]
   rw[this]
 | v::r,i,w,c,h,hf,hl,hv=>by
   have hv0:=hv v (by simp)
   simp only[List.length_cons] at hl
   have hlt:o+i<c.size:=by omega
   have hfz:w.frozen? ⟨b,o+i,none⟩=false:=by
    simp only[World.frozen?,h]
    have:=hf (o+i)
    obtain⟨lo,hi⟩:=fr
    simp only at this ⊢
    rcases this with h1 | h1
    ·omega
    ·simp only[Bool.and_eq_false_iff,decide_eq_false_iff_not]
     by_cases h2:lo≤o+i
     ·right;exact fun h3=>h1 ⟨h2,h3⟩
     ·left;exact h2
   have hc:w.cell? ⟨b,o+i,none⟩=some c[o+i]:=by rw[cell_of h,Array.getElem?_eq_getElem hlt]
   simp only[storeCells,Sem.run_bind,add_none,run_store P w ⟨b,o+i,none⟩ v .plain hv0,hc,hfz,Bool.false_eq_true,if_false,Result.andThen_ok]
   rw[setCell_eq h]
   have hblt:=(Array.getElem?_eq_some_iff.1 h).1
   rw[storeCells_run (ty:=ty) (fr:=fr) r (i+1) _ (c.setIfInBounds (o+i) v) (by simp[hblt]) (by simpa using hf) (by simp;omega) (fun u hu=>hv u (by simp[hu]))]
   congr 1
   simp only[setArr,Array.setIfInBounds_setIfInBounds,Nat.add_assoc]
section
variable {P : Program} {Γ : Base} {σ : Operand → Option SV} {m : Mem} {nx : Nat}
theorem After.write {K:KL} {Γ:Base} {E:Nat→Nat} {w:World} (hs:SatM Γ E m nx w) {key:Nat} {cs:List SV} {tot:Nat} {ty:TypeId}
  (hk:m.get key=some (.cells cs tot ty)) {off:Nat} {vs:List SV} (hv: ∀ v∈ vs,v.isCell=true) (hl:off+vs.length≤cs.length) {sv:Option SV} {r:Value} (hr: ∀ v,sv=some v→r=v.val E)
  (h:(K sv (m.put key (.cells (setRange cs off vs) tot ty)) nx).holds) :
  ∃ w',(storeCells ⟨E key,off,none⟩ (SV.vals E vs)).run P w=.ok () w'∧After K Γ E nx r w':=by
 obtain⟨ob,ho,c,fr,rfl,h1,h2,h3⟩:=hs.blk key _ hk rfl
 have hcl:cs.length≤c.size:=by
  cases hcs:cs.length with
  | zero=>omega
  | succ n =>
    obtain⟨v,hv⟩: ∃ v,cs[n]?=some v:=⟨cs[n]'(by omega),List.getElem?_eq_getElem _⟩
    have:=h2 n v hv
    have:=(Array.getElem?_eq_some_iff.1 this).1
    omega
 have hrun:=storeCells_run (P:=P) (o:=off) (SV.vals E vs) 0 w c ho h1 (by simp[SV.vals_eq];omega) (fun v hv'=>by
  rw[SV.vals_eq,List.mem_map] at hv'
  obtain⟨u,hu,rfl⟩:=hv'
  exact SV.isCell_one (hv u hu))
 refine⟨_,hrun,E,sv,_,_,fun _ _=>rfl,Nat.le_refl _,hr,hs.write hk rfl rfl (B':=.cells (setRange cs off vs) tot ty) ?_ rfl,h⟩
 refine⟨_,fr,rfl,by rw[setArr_size];exact h1,fun i v hi=> ?_,by rw[setArr_size];exact h3⟩
 rw[← Array.getElem?_toList,setArr_toList,Nat.add_zero]
 have key2: ∀(vs:List SV) (cs:List SV) (l:List Value) (off:Nat),(∀(i:Nat) (v:SV),cs[i]?=some v→l[i]?=some (v.val E)) →
   ∀(i:Nat) (v:SV),(setRange cs off vs)[i]?=some v→(setRange l off (SV.vals E vs))[i]?=some (v.val E):=by
  intro vs
  induction vs with
  | nil=>intro cs l off h i v hi;exact h i v hi
  | cons x r ih =>
    intro cs l off h i v hi
    simp only[setRange,SV.vals] at hi ⊢
    refine ih (cs.set off x) (l.set off (x.val E)) (off+1) (fun j u hj=> ?_) i v hi
    rw[List.getElem?_set] at hj ⊢
    split at hj
    ·rename_i e
     subst e
     split at hj
     ·rename_i hlt
      injection hj with hj;subst hj
      have:off<l.length:=by
       obtain⟨u,hu⟩: ∃ u,cs[off]?=some u:=⟨cs[off],List.getElem?_eq_getElem hlt⟩
       have:=h off u hu
       exact(List.getElem?_eq_some_iff.1 this).1
      simp[this]
     ·cases hj
    ·rename_i e
     rw[if_neg e];exact h j u hj
 exact key2 vs cs c.toList off (fun j u hj=>by rw[Array.getElem?_toList];exact h2 j u hj) i v hi
def allCells:List SV→Bool
 | []=>true
 | v::r=>v.isCell&&allCells r
theorem allCells_mem: ∀ {l:List SV},allCells l=true→∀ v∈ l,v.isCell=true
 | x::r,h,v,hv=>by
   simp only[allCells,Bool.and_eq_true] at h
   cases hv with
   | head=>exact h.1
   | tail _ hv=>exact allCells_mem h.2 v hv
def mix (k:IntKind)(i:Nat)(v:Int):Nat→List Int→List SV
 | _,[]=>[]
 | j,z::r=>.int k false (if i=j then v else z)::mix k i v (j+1) r
theorem mix_len {k:IntKind} {i:Nat} {v:Int}: ∀ {l:List Int} {j:Nat},(mix k i v j l).length=l.length
 | [],_=>rfl
 | _::r,j=>by simp[mix,mix_len (l:=r)]
theorem mix_get {k:IntKind} {i:Nat} {v:Int}: ∀ {l:List Int} {j q:Nat} {x:SV},(mix k i v j l)[q]?=some x→x=.int k false (if i=j+q then v else sel l q)
 | [],_,_,_,h=>by simp[mix] at h
 | z::r,j,0,x,h=>by simp[mix] at h;subst h;simp[sel]
 | z::r,j,q+1,x,h=>by
   simp only[mix,List.getElem?_cons_succ] at h
   rw[mix_get h,show j+1+q=j+(q+1)by omega]
   simp[sel]
def mixS (i:Nat)(v:List UInt8):Nat→List (List UInt8)→List SV
 | _,[]=>[]
 | j,z::r=>.str false (if i=j then v else z)::mixS i v (j+1) r
theorem mixS_len {i:Nat} {v:List UInt8}: ∀ {l:List (List UInt8)} {j:Nat},(mixS i v j l).length=l.length
 | [],_=>rfl
 | _::r,j=>by simp[mixS,mixS_len (l:=r)]
theorem mixS_get {i:Nat} {v:List UInt8}: ∀ {l:List (List UInt8)} {j q:Nat} {x:SV},(mixS i v j l)[q]?=some x→x=.str false (if i=j+q then v else selS l q)
 | [],_,_,_,h=>by simp[mixS] at h
 | z::r,j,0,x,h=>by simp[mixS] at h;subst h;simp[selS]
 | z::r,j,q+1,x,h=>by
   simp only[mixS,List.getElem?_cons_succ] at h
   rw[mixS_get h,show j+1+q=j+(q+1)by omega]
   simp[selS]
def Col.upd (i:Nat)(v:SV):Col→Option Col
 | .int k f=>(match v with
   | .int k' _ n=>if k=k' then some (.int k fun j=>if j=i then n else f j)else none
   | _=>none)
 | .bool f=>(match v with
   | .bool _ b=>some (.bool fun j=>if j=i then b else f j)
   | _=>none)
 | .str f=>(match v with
   | .str _ s=>some (.str fun j=>if j=i then s else f j)
   | _=>none)
 | .raw _=>none
theorem Col.upd_at {i:Nat} {v:SV} {c c':Col} (h:c.upd i v=some c')(E:Nat→Nat):(c'.at i).val E=v.val E∧∀ j,j≠i→c'.at j=c.at j:=by
 cases c with
 | int k f =>
   simp only[Col.upd] at h
   split at h
   ·split at h
    ·rename_i e;subst e
     injection h with h;subst h
     exact⟨by simp[Col.at,SV.val],fun j hj=>by simp[Col.at,hj]⟩
    ·cases h
   ·cases h
 | bool f =>
   simp only[Col.upd] at h
   split at h
   ·injection h with h;subst h
    exact⟨by simp[Col.at,SV.val],fun j hj=>by simp[Col.at,hj]⟩
   ·cases h
 | str f =>
   simp only[Col.upd] at h
   split at h
   ·injection h with h;subst h
    exact⟨by simp[Col.at,SV.val],fun j hj=>by simp[Col.at,hj]⟩
   ·cases h
 | raw f=>cases h
theorem Col.upd_cell {i:Nat} {v:SV} {c c':Col} (h:c.upd i v=some c'):v.isCell=true:=by
 cases c<;>simp only[Col.upd] at h
 case raw=>cases h
 all_goals (split at h<;>first | rfl | cases h)
def lstore (P:Program)(t:TypeId)(a x:Option SV)(m:Mem)(nx:Nat)(K:KL):VC :=
 match a,x,sz P t with
 | some (.ptr key true o),some v,some n=>(match m.get key with
   | some (.cells cs tot ty)=>if v.plain&&allCells v.cells&&decide (v.cells.length=n)&&decide (o+n≤cs.length)then
      K none (m.put key (.cells (setRange cs o v.cells) tot ty)) nx else .fail "store: cells"
   | _=>.fail "store: no such block")
 | some (.aptr key base n i),some (.int k _ v),some 1=>(match m.get key with
   | some (.cells cs tot ty)=>(match takeAt cs base n with
     | some l=>(match intsAt k l with
       | some zs=>.and (.atom (i<n)) (K none (m.put key (.cells (setRange cs base (mix k i v 0 zs)) tot ty)) nx)
       | none=>.fail "store: no integers")
     | none=>.fail "store: cells")
   | some (.rows false nb [c] false tot ty)=>(match c.upd (base+i) (.int k true v)with
     | some c'=>.and (.atom (i<n∧base+i<nb)) (K none (m.put key (.rows false nb [c'] false tot ty)) nx)
     | none=>.fail "store: another kind")
   | _=>.fail "store: no such block")
 | some (.aptr key base n i),some (.str _ v),some 1=>(match m.get key with
   | some (.cells cs tot ty)=>(match takeAt cs base n with
     | some l=>(match strsAt l with
       | some zs=>.and (.atom (i<n)) (K none (m.put key (.cells (setRange cs base (mixS i v 0 zs)) tot ty)) nx)
       | none=>.fail "store: no texts")
     | none=>.fail "store: cells")
   | _=>.fail "store: no such block")
 | some (.eptr key w i k),some v,some 1=>(match m.get key with
   | some (.rows z n cols false tot ty)=>if cols.length=w then(match cols[k]? with
     | some c=>(match c.upd i v with
       | some c'=>.and (.atom (i<n)) (K none (m.put key (.rows z n (cols.set k c') false tot ty)) nx)
       | none=>.fail "store: another kind")
     | none=>.fail "store: no such column")else .fail "store: another row"
   | _=>.fail "store: no such row")
 | _,_,_=>.fail "store"
theorem setRange_get {α:Type}: ∀(vs cs:List α)(off q:Nat)(u:α),(setRange cs off vs)[q]?=some u→off+vs.length≤cs.length→(off≤q∧q<off+vs.length∧vs[q - off]?=some u)∨((q<off∨off+vs.length≤q)∧cs[q]?=some u):=by
 intro vs
 induction vs with
 | nil=>intro cs off q u hq _;right;exact⟨by simp;omega,hq⟩
 | cons x r ih =>
   intro cs off q u hq hle
   simp only[setRange] at hq
   simp only[List.length_cons] at hle ⊢
   rcases ih (cs.set off x) (off+1) q u hq (by simp;omega)with ⟨g1,g2,g3⟩ | ⟨g1,g2⟩
   ·left;refine⟨by omega,by omega,?_⟩
    rw[show q - off=(q - (off+1))+1 by omega];simpa using g3
   ·rw[List.getElem?_set] at g2
    split at g2
    ·rename_i e;subst e
     rw[if_pos (by omega)] at g2
     left;refine⟨by omega,by omega,?_⟩
     rw[Nat.sub_self];simpa using g2
    ·right;exact⟨by omega,g2⟩
theorem lstore_ok {dst:Option Tmp} {t type:TypeId} {pos:String} {after:Array Edge} {guard:Option (Nat×Bool)} {a x:Operand} :
  LOp P Γ σ m nx ⟨dst,.store t a x,type,pos,after,guard⟩ (lstore P t (σ a) (σ x) m nx):=by
 intro K E w ρ h hs hw hσ hr
 unfold lstore at h
 split at h
 ·rename_i key o v n ha hx hn
  split at h
  ·rename_i cs tot ty hk
   split at h
   ·rename_i hc
    simp only[Bool.and_eq_true,decide_eq_true_eq] at hc
    obtain⟨⟨⟨h1,h2⟩,h3⟩,h4⟩:=hc
    obtain⟨w',hrun,haft⟩:=After.write (P:=P) (r:=undef) hs hk (allCells_mem h2) (by omega) (fun v hv=>by cases hv) h
    have hcv:=SV.cells_val (E:=E) h1
    have hsize:(v.val E).cells.size=n:=by rw[hcv];simp[h3]
    simp only[execOp,Instr.storeAt,hr a _ ha,hr x _ hx,SV.val,Instr.sureAddr,Sem.run_bind,Sem.run_pure,Result.andThen_ok,storeVar,run_sz hn,hsize]
    simp only[ne_eq,not_true_eq_false,if_false]
    rw[hcv]
    rw[SV.vals_eq] at hrun
    simp only[hrun,Result.andThen_ok,Out]
    exact haft
   ·exact h.elim
  ·exact h.elim
 ·rename_i key base n i k lf v ha hx hn
  split at h
  ·rename_i cs tot ty hk
   split at h
   ·rename_i l hl
    split at h
    ·rename_i zs hz
     obtain⟨hi,h⟩:=h
     have hi:i<n:=hi
     have hg:=takeAt_get hl
     have hzg:=intsAt_get hz
     have hlt:base+i<cs.length:=by
      have:(l[i]?)=some (l[i]'(by rw[hg.1];exact hi)):=List.getElem?_eq_getElem _
      exact(List.getElem?_eq_some_iff.1 (hg.2 i _ this)).1
     obtain⟨ob,ho,c,fr,rfl,h1,h2,h3⟩:=hs.blk key _ hk rfl
     have hcl:base+i<c.size:=(Array.getElem?_eq_some_iff.1 (h2 _ _ (List.getElem?_eq_getElem hlt))).1
     have hrun:=storeCells_run (P:=P) (o:=base+i) [Value.int k v] 0 w c ho h1 (by simp;omega) (fun u hu=>by simp at hu;subst hu;rfl)
     have hE:=hs.write hk rfl rfl (B':=.cells (setRange cs base (mix k i v 0 zs)) tot ty) (o:=.cells (setArr c (base+i+0) [Value.int k v]) ty fr) ?_ rfl
     ·simp only[execOp,Instr.storeAt,hr a _ ha,hr x _ hx,SV.val,Instr.sureAddr,Sem.run_bind,Sem.run_pure,Result.andThen_ok,storeVar,run_sz hn]
      simp only[Value.cells,List.size_toArray,List.length_singleton,ne_eq,not_true_eq_false,if_false,hrun,Result.andThen_ok,Out]
      exact⟨E,none,_,_,fun _ _=>rfl,Nat.le_refl _,(fun v hv=>by cases hv),hE,h⟩
     ·refine⟨_,fr,rfl,by rw[setArr_size];exact h1,fun q u hq=> ?_,by rw[setArr_size];exact h3⟩
      have hmixlen:(mix k i v 0 zs).length=n:=by rw[mix_len,hzg.1,hg.1]
      have hset: ∀(vs cs:List SV) (off q:Nat) (u:SV),(setRange cs off vs)[q]?=some u→off+vs.length≤cs.length→(off≤q∧q<off+vs.length∧vs[q - off]?=some u)∨((q<off∨off+vs.length≤q)∧cs[q]?=some u):=by
       intro vs
       induction vs with
       | nil=>intro cs off q u hq _;right;exact⟨by simp;omega,hq⟩
       | cons x r ih =>
         intro cs off q u hq hle
         simp only[setRange] at hq
         simp only[List.length_cons] at hle ⊢
         rcases ih (cs.set off x) (off+1) q u hq (by simp;omega)with ⟨g1,g2,g3⟩ | ⟨g1,g2⟩
         ·left;refine⟨by omega,by omega,?_⟩
          rw[show q - off=(q - (off+1))+1 by omega];simpa using g3
         ·rw[List.getElem?_set] at g2
          split at g2
          ·rename_i e;subst e
           rw[if_pos (by omega)] at g2
           left;refine⟨by omega,by omega,?_⟩
           rw[Nat.sub_self];simpa using g2
          ·right;exact⟨by omega,g2⟩
      have hbase:base+n≤cs.length:=by
       cases n with
       | zero=>omega
       | succ n' =>
         have:(l[n']?)=some (l[n']'(by rw[hg.1];omega)):=List.getElem?_eq_getElem _
         have:=(List.getElem?_eq_some_iff.1 (hg.2 n' _ this)).1
         omega
      have hsa:(setArr c (base+i+0) [Value.int k v])[q]?=if base+i=q then some (.int k v)else c[q]?:=by
       simp only[setArr,Nat.add_zero]
       rw[Array.getElem?_setIfInBounds]
       by_cases e:base+i=q
       ·rw[if_pos e,if_pos e,if_pos (by omega)]
       ·rw[if_neg e,if_neg e]
      rw[hsa]
      rcases hset _ _ _ _ _ hq (by rw[hmixlen];exact hbase)with ⟨g1,g2,g3⟩ | ⟨g1,g2⟩
      ·have hu:=mix_get g3
       subst hu
       rw[hmixlen] at g2
       by_cases e:base+i=q
       ·rw[if_pos e,if_pos (by omega)];rfl
       ·rw[if_neg e,if_neg (by omega)]
        have hq':(l[q - base]?)=some (l[q - base]'(by rw[hg.1];omega)):=List.getElem?_eq_getElem _
        obtain⟨b,hb⟩:=hzg.2 _ _ hq'
        have:=h2 _ _ (hg.2 _ _ hq')
        rw[show base+(q - base)=q by omega,hb] at this
        rw[this];rfl
      ·rw[hmixlen] at g1
       rw[if_neg (by omega)];exact h2 q u g2
    ·exact h.elim
   ·exact h.elim
  ·rename_i nb col tot ty hk
   split at h
   ·rename_i col' hup
    obtain⟨⟨hi,hb⟩,h⟩:=h
    have hb:base+i<nb:=hb
    obtain⟨ob,ho,c,fr,rfl,h1,h2,h3,h4⟩:=hs.blk key _ hk rfl
    have hcl:base+i<c.size:=by simp only[List.length_cons,List.length_nil] at h2;omega
    obtain⟨u1,u2⟩:=Col.upd_at hup E
    have hrun:=storeCells_run (P:=P) (o:=base+i) [Value.int k v] 0 w c ho (h1 rfl) (by simp;omega) (fun u hu=>by simp at hu;subst hu;rfl)
    have hE:=hs.write hk rfl rfl (B':=.rows false nb [col'] false tot ty) (o:=.cells (setArr c (base+i+0) [Value.int k v]) ty fr) ?_ rfl
    ·simp only[execOp,Instr.storeAt,hr a _ ha,hr x _ hx,SV.val,Instr.sureAddr,Sem.run_bind,Sem.run_pure,Result.andThen_ok,storeVar,run_sz hn]
     simp only[Value.cells,List.size_toArray,List.length_singleton,ne_eq,not_true_eq_false,if_false,hrun,Result.andThen_ok,Out]
     exact⟨E,none,_,_,fun _ _=>rfl,Nat.le_refl _,(fun v hv=>by cases hv),hE,h⟩
    ·refine⟨_,fr,rfl,fun _=>by rw[setArr_size];exact h1 rfl,by rw[setArr_size];exact h2,by rw[setArr_size];exact h3,fun i' k' cl hi' hk'=> ?_⟩
     match k',hk' with
     | 0,hk' =>
       simp only[List.getElem?_cons_zero,Option.some.injEq] at hk';subst hk'
       have hsa:(setArr c (base+i+0) [Value.int k v])[i'*[col'].length+0]?=if base+i=i' then some (.int k v)else c[i']?:=by
        simp only[setArr,Nat.add_zero,List.length_singleton,Nat.mul_one]
        rw[Array.getElem?_setIfInBounds]
        by_cases e:base+i=i'
        ·rw[if_pos e,if_pos e,if_pos (by omega)]
        ·rw[if_neg e,if_neg e]
       rw[hsa]
       by_cases e:base+i=i'
       ·subst e;rw[if_pos rfl];exact congrArg some u1.symm
       ·rw[if_neg e,u2 i' (fun h=>e h.symm)]
        have:=h4 i' 0 col hi' rfl
        simpa using this
     | q+1,hk'=>simp at hk'
   ·exact h.elim
  ·exact h.elim
 ·rename_i key base n i lf v ha hx hn
  split at h
  ·rename_i cs tot ty hk
   split at h
   ·rename_i l hl
    split at h
    ·rename_i zs hz
     obtain⟨hi,h⟩:=h
     have hi:i<n:=hi
     have hg:=takeAt_get hl
     have hzg:=strsAt_get hz
     have hzl:=strsAt_len hz
     have hlt:base+i<cs.length:=by
      have:(l[i]?)=some (l[i]'(by rw[hg.1];exact hi)):=List.getElem?_eq_getElem _
      exact(List.getElem?_eq_some_iff.1 (hg.2 i _ this)).1
     obtain⟨ob,ho,c,fr,rfl,h1,h2,h3⟩:=hs.blk key _ hk rfl
     have hcl:base+i<c.size:=(Array.getElem?_eq_some_iff.1 (h2 _ _ (List.getElem?_eq_getElem hlt))).1
     have hrun:=storeCells_run (P:=P) (o:=base+i) [Value.string ⟨v.toArray⟩] 0 w c ho h1 (by simp;omega) (fun u hu=>by simp at hu;subst hu;rfl)
     have hE:=hs.write hk rfl rfl (B':=.cells (setRange cs base (mixS i v 0 zs)) tot ty) (o:=.cells (setArr c (base+i+0) [Value.string ⟨v.toArray⟩]) ty fr) ?_ rfl
     ·simp only[execOp,Instr.storeAt,hr a _ ha,hr x _ hx,SV.val,Instr.sureAddr,Sem.run_bind,Sem.run_pure,Result.andThen_ok,storeVar,run_sz hn]
      simp only[Value.cells,List.size_toArray,List.length_singleton,ne_eq,not_true_eq_false,if_false,hrun,Result.andThen_ok,Out]
      exact⟨E,none,_,_,fun _ _=>rfl,Nat.le_refl _,(fun v hv=>by cases hv),hE,h⟩
     ·refine⟨_,fr,rfl,by rw[setArr_size];exact h1,fun q u hq=> ?_,by rw[setArr_size];exact h3⟩
      have hmixlen:(mixS i v 0 zs).length=n:=by rw[mixS_len,hzl,hg.1]
      have hbase:base+n≤cs.length:=by
       cases n with
       | zero=>omega
       | succ n' =>
         have:(l[n']?)=some (l[n']'(by rw[hg.1];omega)):=List.getElem?_eq_getElem _
         have:=(List.getElem?_eq_some_iff.1 (hg.2 n' _ this)).1
         omega
      have hsa:(setArr c (base+i+0) [Value.string ⟨v.toArray⟩])[q]?=if base+i=q then some (.string ⟨v.toArray⟩)else c[q]?:=by
       simp only[setArr,Nat.add_zero]
       rw[Array.getElem?_setIfInBounds]
       by_cases e:base+i=q
       ·rw[if_pos e,if_pos e,if_pos (by omega)]
       ·rw[if_neg e,if_neg e]
      rw[hsa]
      rcases setRange_get _ _ _ _ _ hq (by rw[hmixlen];exact hbase)with ⟨g1,g2,g3⟩ | ⟨g1,g2⟩
      ·have hu:=mixS_get g3
       subst hu
       rw[hmixlen] at g2
       by_cases e:base+i=q
       ·rw[if_pos e,if_pos (by omega)];rfl
       ·rw[if_neg e,if_neg (by omega)]
        have hq':(l[q - base]?)=some (l[q - base]'(by rw[hg.1];omega)):=List.getElem?_eq_getElem _
        obtain⟨b,hb⟩:=hzg _ _ hq'
        have:=h2 _ _ (hg.2 _ _ hq')
        rw[show base+(q - base)=q by omega,hb] at this
        rw[this];rfl
      ·rw[hmixlen] at g1
       rw[if_neg (by omega)];exact h2 q u g2
    ·exact h.elim
   ·exact h.elim
  ·exact h.elim
 ·rename_i key w0 i k v ha hx hn
  split at h
  ·rename_i z n cols tot ty hk
   split at h
   ·rename_i hw0
    split at h
    ·rename_i col hcol
     split at h
     ·rename_i col' hup
      obtain⟨hi,h⟩:=h
      have hi:i<n:=hi
      subst hw0
      have hkl:k<cols.length:=(List.getElem?_eq_some_iff.1 hcol).1
      obtain⟨ob,ho,c,fr,rfl,h1,h2,h3,h4⟩:=hs.blk key _ hk (SB.no_rows hi)
      have hcl:i*cols.length+k<c.size:=by
       have:i*cols.length+k<n*cols.length:=by
        have:(i+1)*cols.length≤n*cols.length:=Nat.mul_le_mul_right _ hi
        rw[Nat.add_mul] at this;omega
       omega
      obtain⟨u1,u2⟩:=Col.upd_at hup E
      have hrun:=storeCells_run (P:=P) (o:=i*cols.length+k) [v.val E] 0 w c ho (h1 rfl) (by simp;omega) (fun u hu=>by simp at hu;subst hu;exact SV.isCell_one (Col.upd_cell hup))
      have hE:=hs.write hk (SB.no_rows hi) rfl (B':=.rows z n (cols.set k col') false tot ty) (o:=.cells (setArr c (i*cols.length+k+0) [v.val E]) ty fr) ?_ rfl
      ·have hcell:(v.val E).cells=#[v.val E]:=by
        have hc:=Col.upd_cell hup
        cases v<;>first | rfl | (simp[SV.isCell] at hc;done) | skip
        rename_i u
        cases u<;>first | rfl | (simp[SV.isCell] at hc;done)
       simp only[execOp,Instr.storeAt,hr a _ ha,hr x _ hx,SV.val,Instr.sureAddr,Sem.run_bind,Sem.run_pure,Result.andThen_ok,storeVar,run_sz hn,hcell]
       simp only[List.size_toArray,List.length_singleton,ne_eq,not_true_eq_false,if_false,hrun,Result.andThen_ok,Out]
       exact⟨E,none,_,_,fun _ _=>rfl,Nat.le_refl _,(fun v hv=>by cases hv),hE,h⟩
      ·refine⟨_,fr,rfl,fun _=>by rw[setArr_size];exact h1 rfl,by rw[setArr_size,List.length_set];exact h2,by rw[setArr_size];exact h3,fun i' k' cl hi' hk'=> ?_⟩
       rw[List.length_set]
       have hk'l:k'<cols.length:=by
        have:=(List.getElem?_eq_some_iff.1 hk').1
        rwa [List.length_set] at this
       have hsa:(setArr c (i*cols.length+k+0) [v.val E])[i'*cols.length+k']?=if i*cols.length+k=i'*cols.length+k' then some (v.val E)else c[i'*cols.length+k']?:=by
        simp only[setArr,Nat.add_zero]
        rw[Array.getElem?_setIfInBounds]
        by_cases e:i*cols.length+k=i'*cols.length+k'
        ·rw[if_pos e,if_pos e,if_pos hcl]
        ·rw[if_neg e,if_neg e]
       have hinj:i*cols.length+k=i'*cols.length+k'→i=i'∧k=k':=fun e=>by
        have e1:i=i':=by
         rcases Nat.lt_trichotomy i i' with hlt | heq | hgt
         ·have:(i+1)*cols.length≤i'*cols.length:=Nat.mul_le_mul_right _ hlt
          rw[Nat.add_mul] at this;omega
         ·exact heq
         ·have:(i'+1)*cols.length≤i*cols.length:=Nat.mul_le_mul_right _ hgt
          rw[Nat.add_mul] at this;omega
        subst e1
        exact⟨rfl,by omega⟩
       rw[hsa]
       rw[List.getElem?_set] at hk'
       by_cases e:k=k'
       ·rw[if_pos e,if_pos hkl] at hk'
        injection hk' with hk'
        subst hk'
        by_cases ei:i'=i
        ·subst ei;subst e
         rw[if_pos rfl,u1]
        ·rw[if_neg (fun h=>ei (hinj h).1.symm),u2 i' ei]
         subst e
         exact h4 i' k col hi' hcol
       ·rw[if_neg e] at hk'
        rw[if_neg (fun h=>e (hinj h).2)]
        exact h4 i' k' cl hi' hk'
     ·exact h.elim
    ·exact h.elim
   ·exact h.elim
  ·exact h.elim
 ·exact h.elim
end
end
end Go.Proofs.YtoalfimkkibpdaaGreatDoor.Sx
namespace Go.Proofs.YtoalfimkkibpdaaGreatDoor.Sx
open Go
noncomputable section
theorem dropwf {nx key:Nat} {m:Mem} (h:Mem.wf nx m=true):Mem.wf nx (m.drop key)=true:=by
 induction m with
 | nil=>rfl
 | cons e r ih =>
   simp only[Mem.wf,Bool.and_eq_true] at h
   by_cases he:e.1=key
   ·rw[Mem.drop,if_pos he];exact ih h.2
   ·rw[Mem.drop,if_neg he];simp only[Mem.wf,Bool.and_eq_true];exact⟨h.1,ih h.2⟩
def srcCells (m:Mem)(s:Nat):SV→Option (List SV×Nat)
 | .nilslc=>some ([],0)
 | .slc key o n _ _=>(match m.get key with
   | some (.cells cs _ _)=>(match takeAt cs o (n*s)with
     | some l=>some (l,n)
     | none=>none)
   | _=>none)
 | _=>none
theorem srcCells_run {P:Program} {Γ E m nx w} (hs:SatM Γ E m nx w) {s:Nat} {x:SV} {l:List SV} {n:Nat} (h:srcCells m s x=some (l,n)) :
  (Builtin.lenOf (x.val E)).run P w=.ok n w∧(∀ j,j≤n→(Builtin.firstCells s j (x.val E)).run P w=.ok (SV.vals E (l.take (j*s))).toArray w)∧l.length=n*s:=by
 unfold srcCells at h
 split at h
 ·injection h with h;injection h with h1 h2;subst h1;subst h2
  refine⟨rfl,fun j hj=> ?_,by simp⟩
  obtain rfl:j=0:=by omega
  simp[SV.val,Builtin.firstCells,SV.vals]
 ·rename_i key o n' cl c
  split at h
  ·rename_i cs tot ty hk
   split at h
   ·rename_i l' hl
    injection h with h;injection h with h1 h2;subst h1;subst h2
    have hg:=takeAt_get hl
    obtain⟨ob,ho,c0,fr,rfl,_,h2,_⟩:=hs.blk key _ hk rfl
    refine⟨rfl,fun j hj=> ?_,hg.1⟩
    have hle:j*s≤n'*s:=Nat.mul_le_mul_right s hj
    have hrun:=run_loadCells (P:=P) (w:=w) ho o ((l'.take (j*s)).map (SV.val E)) (fun i v hi=>by
     rw[List.getElem?_map] at hi
     cases hil:(l'.take (j*s))[i]? with
     | none=>rw[hil] at hi;cases hi
     | some u =>
       rw[hil] at hi;injection hi with hi;subst hi
       have:l'[i]?=some u:=by
        rw[List.getElem?_take] at hil
        split at hil
        ·exact hil
        ·cases hil
       exact h2 _ _ (hg.2 i u this))
    have hlen:((l'.take (j*s)).map (SV.val E)).length=j*s:=by rw[List.length_map,List.length_take,hg.1];exact Nat.min_eq_left hle
    rw[hlen] at hrun
    simp only[SV.val,Builtin.firstCells,hrun,SV.vals_eq]
   ·cases h
  ·cases h
 ·cases h
def bytes (P:Program)(t:TypeId):Option Nat:=match P.info? t with | some i=>some i.bytes | none=>none
def grown (elem:TypeId)(need:Nat)(cs:List SV)(s:Nat)(m:Mem)(nx:Nat)(K:KL):VC :=
 .all Nat fun c=>.imp (need≤c) (K (some (.slc nx 0 need false c)) ((nx,.cells cs (c*s) elem)::m) (nx+1))
def lappendTo (P:Program)(elem:TypeId)(s:Nat)(b:SV)(new:List SV)(n:Nat)(m:Mem)(nx:Nat)(K:KL):VC :=
 match bytes P elem,zeroSV P elem,srcCells m s b with
 | some by_,some z,some (old,n0) =>
   if(z.plain&&allCells new&&SV.wfs nx new&&decide (z.cells.length=s)&&decide (2*(n0+n)*by_≤281474976710656)&&decide (n0+n<9223372036854775808))=true then
   (match b with
   | .nilslc=>(match n with
     | 0=>K (some .nilslc) m nx
     | n+1=>grown elem (n+1) new s m nx K)
   | .slc key o _ true c=>(match m.get key with
     | some (.cells cs tot ty)=>if n0+n≤c then(if o+n0*s+new.length≤cs.length then
        K (some (.slc key o (n0+n) true c)) (m.put key (.cells (setRange cs (o+n0*s) new) tot ty)) nx else .fail "append: cells that are not known")else
        grown elem (n0+n) (old++new) s m nx K
     | _=>.fail "append: no such block")
   | .slc key 0 _ false c=>(match m.get key with
     | some (.cells cs tot ty)=>if cs.length=n0*s∧ty=elem then .and (.atom (tot=c*s)) (.all Nat fun c'=>.imp (n0+n≤c') (K (some (.slc nx 0 (n0+n) false c')) ((nx,.cells (old++new) (c'*s) elem)::m.drop key) (nx+1)))
        else .fail "append: another block"
     | _=>.fail "append: no such block")
   | _=>.fail "append: to what")
   else .fail "append: sizes"
 | _,_,_=>.fail "append"
theorem nextcap_le (need c:Nat)(h:c<need):Builtin.nextslicecap need c≤2*need:=by
 unfold Builtin.nextslicecap
 split
 ·omega
 ·split
  ·omega
  ·rename_i h1 h2
   have key: ∀(r x:Nat),256≤x→x<need→Builtin.growBy need r x≤2*need:=by
    intro r
    induction r with
    | zero=>intro x h3 h4;simp only[Builtin.growBy];omega
    | succ r ih =>
      intro x h3 h4
      simp only[Builtin.growBy]
      rw[if_neg (by omega)]
      by_cases h5:x+(x+768) / 4<need
      ·exact ih _ (by omega) h5
      ·cases r with
       | zero=>simp only[Builtin.growBy];omega
       | succ r=>simp only[Builtin.growBy];rw[if_pos (by omega)];omega
   exact key 4 c (by omega) h
theorem run_drawn {w:World} {P:Program} {q:Question} (hq:q.forced=false):(choose q).run P w=.ok (q.cut (w.tape w.drawn q)) {w with drawn:=w.drawn+1}:=by
 rw[run_choose,hq];rfl
def notInt:TypeDesc→Bool
 | .slice _=>true
 | .string=>true
 | _=>false
section
variable {P : Program} {Γ : Base}
theorem append_grow {w:World} {ats:Array TypeId} {ty t0 t1 elem:TypeId} {d:TypeDesc} {s by_:Nat} {base:Option Addr} {n0 c n:Nat} {x z:Value} {old new:Array Value}
  (h0:ats[0]?=some t0) (h1:ats[1]?=some t1) (hd:P.underlying t0=some (.slice elem)) (hd1:P.underlying t1=some d) (hni:notInt d=true) (hs:sz P elem=some s) (hb:bytes P elem=some by_)
  (hz: ∀ w,(zeroValue elem).run P w=.ok z w) (hzs:z.cells.size=s) (hlen:(Builtin.lenOf x).run P w=.ok n w)
  (hold: ∀ k,(Builtin.firstCells s n0 (.slice base n0 c)).run P {w with drawn:=k}=.ok old {w with drawn:=k}) (hnew: ∀ k,(Builtin.firstCells s n x).run P {w with drawn:=k}=.ok new {w with drawn:=k})
  (hneed:c<n0+n) (hbound:2*(n0+n)*by_≤2^ 48) (hsmall:n0+n<2^ 63) :
  ∃ c' rest,n0+n≤c'∧rest.size=(c' - (n0+n))*s∧(Builtin.append_ ats ty #[.slice base n0 c,x]).run P w =
    .ok (.slice (some ⟨w.heap.size,0,none⟩) (n0+n) c') {w with drawn:=w.drawn+1,heap:=w.heap.push (.cells (old++new++rest) elem)}:=by
 have hby: ∃ i,P.info? elem=some i∧i.bytes=by_:=by
  unfold bytes at hb
  split at hb
  ·rename_i i hi;injection hb with hb;exact⟨i,hi,hb⟩
  ·cases hb
 obtain⟨i,hi,hib⟩:=hby
 have hcap:=nextcap_le (n0+n) c hneed
 have hmul:Builtin.nextslicecap (n0+n) c*by_≤2^ 48:=Nat.le_trans (Nat.mul_le_mul_right by_ hcap) hbound
 have h2: ¬ (n0+n≤c):=by omega
 have h3: ¬ (((n0+n:Nat):Int)>9223372036854775807):=by omega
 have h4: ¬ (Builtin.nextslicecap (n0+n) c*by_>2^ 48):=Nat.not_lt.2 hmul
 refine⟨(Question.appendCap (n0+n) c elem).cut (w.tape w.drawn (.appendCap (n0+n) c elem)),Builtin.zeroCells z.cells ((Question.appendCap (n0+n) c elem).cut (w.tape w.drawn (.appendCap (n0+n) c elem)) - (n0+n)),?_,?_,?_⟩
 ·simp only[Question.cut];omega
 ·simp[Builtin.zeroCells,hzs]
 ·cases d
  all_goals first | (cases hni;done) | skip
  all_goals
   simp only[Builtin.append_,h0,h1,List.getElem?_toArray,List.getElem?_cons_zero,List.getElem?_cons_succ,Sem.run_bind,run_und hd,Result.andThen_ok,run_sz hs,run_und hd1,Sem.run_pure,
    Bool.false_eq_true,if_false,hlen,Sem.run_ite,h2,run_info hi,hib,imax,h3,false_and,h4,run_drawn (q:=.appendCap (n0+n) c elem) rfl,run_askRoom,hold,Bool.not_false,if_true,hnew,hz,newRow,run_newObj]
theorem append_in {w w':World} {ats:Array TypeId} {ty t0 t1 elem:TypeId} {d:TypeDesc} {s:Nat} {b o:Nat} {n0 c n:Nat} {x:Value} {new:Array Value}
  (h0:ats[0]?=some t0) (h1:ats[1]?=some t1) (hd:P.underlying t0=some (.slice elem)) (hd1:P.underlying t1=some d) (hni:notInt d=true) (hs:sz P elem=some s)
  (hlen:(Builtin.lenOf x).run P w=.ok n w) (hnew:(Builtin.firstCells s n x).run P w=.ok new w) (hneed:n0+n≤c)
  (hst:(storeCells ⟨b,o+n0*s,none⟩ new.toList).run P w=.ok () w') :
  (Builtin.append_ ats ty #[.slice (some ⟨b,o,none⟩) n0 c,x]).run P w=.ok (.slice (some ⟨b,o,none⟩) (n0+n) c) w':=by
 cases d
 all_goals first | (cases hni;done) | skip
 all_goals
  simp only[Builtin.append_,h0,h1,List.getElem?_toArray,List.getElem?_cons_zero,List.getElem?_cons_succ,Sem.run_bind,run_und hd,Result.andThen_ok,run_sz hs,run_und hd1,Sem.run_pure,
   Bool.false_eq_true,if_false,hlen,Sem.run_ite,hneed,if_true,hnew,Bool.not_false,add_none,hst]
theorem append_nil {w:World} {ats:Array TypeId} {ty t0 t1 elem:TypeId} {d:TypeDesc} {s:Nat} {x:Value} {new:Array Value}
  (h0:ats[0]?=some t0) (h1:ats[1]?=some t1) (hd:P.underlying t0=some (.slice elem)) (hd1:P.underlying t1=some d) (hni:notInt d=true) (hs:sz P elem=some s)
  (hlen:(Builtin.lenOf x).run P w=.ok 0 w) (hnew:(Builtin.firstCells s 0 x).run P w=.ok new w) :
  (Builtin.append_ ats ty #[.slice none 0 0,x]).run P w=.ok (.slice none 0 0) w:=by
 cases d
 all_goals first | (cases hni;done) | skip
 all_goals
  simp only[Builtin.append_,h0,h1,List.getElem?_toArray,List.getElem?_cons_zero,List.getElem?_cons_succ,Sem.run_bind,run_und hd,Result.andThen_ok,run_sz hs,run_und hd1,Sem.run_pure,
   Bool.false_eq_true,if_false,hlen,Sem.run_ite,Nat.add_zero,Nat.le_refl,if_true,hnew,Bool.not_false]
theorem srcCells_slc {m:Mem} {s key o n c:Nat} {cl:Bool} {l:List SV} {n0:Nat} (h:srcCells m s (.slc key o n cl c)=some (l,n0)):n0=n:=by
 simp only[srcCells] at h
 split at h
 ·split at h
  ·injection h with h;injection h with _ h;exact h.symm
  ·cases h
 ·cases h
theorem After.grown {m:Mem} {nx:Nat} {K:KL} {Γ:Base} {E:Nat→Nat} {w:World} (hs:SatM Γ E m nx w)(hw:Mem.wf nx m=true) {elem:TypeId} {need s:Nat} {cs:List SV}
  (hcs:SV.wfs nx cs=true) (hl:cs.length=need*s) (h:(Sx.grown elem need cs s m nx K).holds) {c':Nat} (hc':need≤c') {rest:Array Value} (hr:rest.size=(c' - need)*s) {a:Array Value} (ha:a.toList=cs.map (SV.val E)) :
  After K Γ E nx (.slice (some ⟨w.heap.size,0,none⟩) need c') {w with drawn:=w.drawn+1,heap:=w.heap.push (.cells (a++rest) elem)}:=by
 have h':=h c' hc'
 have hs':=hs.drew (w.drawn+1)
 refine After.alloc (sv:=.slc nx 0 need false c') hs' hw hcs (fun i v hv=> ?_) ?_ h' (by simp[SV.val])
 ·have:=map_get (E:=E) ha i v hv
  rw[Array.getElem?_append_left (Array.getElem?_eq_some_iff.1 this).1];exact this
 ·rw[Array.size_append,map_size (E:=E) ha,hl,hr,← Nat.add_mul];congr 1;omega
theorem srcCells_wf {m:Mem} {nx s:Nat} (hw:Mem.wf nx m=true) {x:SV} {l:List SV} {n:Nat} (h:srcCells m s x=some (l,n)):SV.wfs nx l=true:=by
 unfold srcCells at h
 split at h
 ·injection h with h;injection h with h1 h2;subst h1;rfl
 ·split at h
  ·rename_i cs tot ty hk
   split at h
   ·rename_i l' hl
    injection h with h;injection h with h1 h2;subst h1
    have hwk:=Mem.wf_get hw hk
    simp only[SB.wf] at hwk
    have hg:=takeAt_get hl
    have: ∀(l':List SV),(∀(j:Nat) (v:SV),l'[j]?=some v→v.wf nx=true)→SV.wfs nx l'=true:=by
     intro l'
     induction l' with
     | nil=>intro _;rfl
     | cons x r ih=>intro hh;simp only[SV.wfs,Bool.and_eq_true];exact⟨hh 0 x rfl,ih fun j v hj=>hh (j+1) v (by simpa using hj)⟩
    exact this l' fun j v hj=>SV.wfs_get hwk (hg.2 j v hj)
   ·cases h
  ·cases h
 ·cases h
def lappend (P:Program)(ats:Array TypeId)(x y:SV)(m:Mem)(nx:Nat)(K:KL):VC :=
 match ats[0]?,ats[1]? with
 | some t0,some t1=>(match P.underlying t0,P.underlying t1 with
   | some (.slice elem),some d=>(match sz P elem with
     | some s=>(match srcCells m s y with
       | some (new,n)=>if notInt d=true then lappendTo P elem s x new n m nx K else .fail "append: make"
       | none=>.fail "append: of what")
     | none=>.fail "append")
   | _,_=>.fail "append")
 | _,_=>.fail "append"
theorem lappend_ok {m:Mem} {nx:Nat} {ats:Array TypeId} {ty:TypeId} {x y:SV} {K:KL} {Γ:Base} {E:Nat→Nat} {w:World}
  (h:(lappend P ats x y m nx K).holds) (hs:SatM Γ E m nx w) (hw:Mem.wf nx m=true) :
  ∃ r w',(Builtin.append_ ats ty #[x.val E,y.val E]).run P w=.ok r w'∧After K Γ E nx r w':=by
 unfold lappend at h
 split at h
 ·rename_i t0 t1 h0 h1
  split at h
  ·rename_i elem d hd hd1
   split at h
   ·rename_i s hsz
    split at h
    ·rename_i new n hy
     split at h
     ·rename_i hni
      obtain⟨ylen,ycells,ynum⟩:=srcCells_run (P:=P) hs hy
      have hynew:=ycells n (Nat.le_refl _)
      rw[List.take_of_length_le (by omega)] at hynew
      unfold lappendTo at h
      split at h
      ·rename_i by_ z old n0 hby hz hx
       split at h
       ·rename_i hc
        simp only[Bool.and_eq_true,decide_eq_true_eq] at hc
        obtain⟨⟨⟨⟨⟨g1,g2⟩,g3⟩,g4⟩,g5⟩,g6⟩:=hc
        have hzr: ∀ w:World,(zeroValue elem).run P w=.ok (z.val E) w:=fun w=>zeroSV_run hz
        have hzs:(z.val E).cells.size=s:=by rw[SV.cells_val g1];simp[g4]
        have hdraw: ∀ k,SatM Γ E m nx {w with drawn:=k}:=fun k=>hs.drew k
        have ydraw: ∀ k,(Builtin.firstCells s n (y.val E)).run P {w with drawn:=k}=.ok (SV.vals E new).toArray {w with drawn:=k}:=fun k=>by
         have:=(srcCells_run (P:=P) (hdraw k) hy).2.1 n (Nat.le_refl _)
         rw[List.take_of_length_le (by omega)] at this;exact this
        have oldwf:=srcCells_wf hw hx
        obtain⟨xlen,xcells,xnum⟩:=srcCells_run (P:=P) hs hx
        have xdraw: ∀ k,(Builtin.firstCells s n0 (x.val E)).run P {w with drawn:=k}=.ok (SV.vals E old).toArray {w with drawn:=k}:=fun k=>by
         have:=(srcCells_run (P:=P) (hdraw k) hx).2.1 n0 (Nat.le_refl _)
         rw[List.take_of_length_le (by omega)] at this;exact this
        split at h
        ·
         simp only[srcCells] at hx
         injection hx with hx;injection hx with e1 e2;subst e1;subst e2
         split at h
         ·exact⟨_,_,append_nil h0 h1 hd hd1 hni hsz ylen hynew,E,some .nilslc,m,nx,fun _ _=>rfl,Nat.le_refl _,fun v hv=>by injection hv with hv;subst hv;rfl,hs,h⟩
         ·rename_i n'
          obtain⟨c',rest,q1,q2,q3⟩:=append_grow (w:=w) (ty:=ty) (base:=none) (n0:=0) (c:=0) h0 h1 hd hd1 hni hsz hby hzr hzs ylen xdraw ydraw (by omega) (by omega) (by omega)
          refine⟨_,_,q3,?_⟩
          rw[Nat.zero_add] at q1 q2 ⊢
          exact After.grown hs hw g3 ynum h q1 q2 (by simp[SV.vals_eq,SV.vals])
        ·
         rename_i key o _ c
         have e0:=srcCells_slc hx
         subst e0
         split at h
         ·rename_i cs tot ty' hk
          split at h
          ·rename_i hle
           split at h
           ·rename_i hin
            obtain⟨w',hrun,haft⟩:=After.write (P:=P) (sv:=some (.slc key o (n0+n) true c)) (r:=.slice (some ⟨E key,o,none⟩) (n0+n) c) hs hk (allCells_mem g2) hin
             (fun v hv=>by injection hv with hv;subst hv;rfl) h
            exact⟨_,w',append_in h0 h1 hd hd1 hni hsz ylen hynew hle hrun,haft⟩
           ·exact h.elim
          ·rename_i hle
           obtain⟨c',rest,q1,q2,q3⟩:=append_grow (w:=w) (ty:=ty) (base:=some ⟨E key,o,none⟩) (n0:=n0) (c:=c) h0 h1 hd hd1 hni hsz hby hzr hzs ylen xdraw ydraw (by omega) (by omega) (by omega)
           exact⟨_,_,q3,After.grown hs hw (wfs_append oldwf g3) (by simp[xnum,ynum,Nat.add_mul]) h q1 q2 (by simp[SV.vals_eq])⟩
         ·exact h.elim
        ·
         rename_i key _ c
         have e0:=srcCells_slc hx
         subst e0
         split at h
         ·rename_i cs tot ty' hk
          split at h
          ·rename_i hcond
           obtain⟨hcl,rfl⟩:=hcond
           obtain⟨htot,h⟩:=h
           have htot:tot=c*s:=htot
           by_cases hle:n0+n≤c
           ·
            obtain⟨ob,ho,ca,fr,rfl,hf1,hf2,hf3⟩:=hs.blk key _ hk rfl
            have hcap:n0*s+new.length≤ca.size:=by rw[hf3,htot,ynum,← Nat.add_mul];exact Nat.mul_le_mul_right s hle
            have hrun:=storeCells_run (P:=P) (o:=0+n0*s) (SV.vals E new) 0 w ca ho hf1 (by simp[SV.vals_eq];omega) (fun v hv'=>by
             rw[SV.vals_eq,List.mem_map] at hv'
             obtain⟨u,hu,rfl⟩:=hv'
             exact SV.isCell_one (allCells_mem g2 u hu))
            refine⟨_,_,append_in (o:=0) h0 h1 hd hd1 hni hsz ylen hynew hle hrun,?_⟩
            have hold:old=cs:=by
             simp only[srcCells,hk] at hx
             split at hx
             ·rename_i l hl
              injection hx with hx;injection hx with e1 _;subst e1
              have hg:=takeAt_get hl
              apply List.ext_getElem?
              intro j
              by_cases hj:j<l.length
              ·have:=hg.2 j l[j] (List.getElem?_eq_getElem hj)
               rw[Nat.zero_add] at this
               rw[this,List.getElem?_eq_getElem hj]
              ·rw[List.getElem?_eq_none (by omega),List.getElem?_eq_none (by rw[hcl,← hg.1];omega)]
             ·cases hx
            have hkn:=hs.lt key _ hk
            refine⟨fun j=>if j=nx then E key else E j,some (.slc nx 0 (n0+n) false c),_,_,fun k hk'=>by simp[Nat.ne_of_lt hk'],Nat.le_succ _,fun v hv=>by injection hv with hv;subst hv;simp[SV.val],
             hs.move hw hk rfl rfl (B':=.cells (old++new) (c*s) ty') ?_,h c hle⟩
            refine⟨_,fr,rfl,by rw[setArr_size];exact hf1,fun i v hi=> ?_,by rw[setArr_size,hf3,htot]⟩
            have hcong:v.val (fun j=>if j=nx then E key else E j)=v.val E:=SV.val_congr (nx:=nx) (fun k hk'=>by simp[Nat.ne_of_lt hk']) v (SV.wfs_get (wfs_append oldwf g3) hi)
            rw[hcong,← Array.getElem?_toList,setArr_toList]
            have hcat: ∀(vs:List Value) (pre post:List Value),vs.length≤post.length→setRange (pre++post) pre.length vs=pre++(vs++post.drop vs.length):=by
             intro vs
             induction vs with
             | nil=>intro pre post _;simp[setRange]
             | cons u r ih =>
               intro pre post hp
               cases post with
               | nil=>simp at hp
               | cons q qs =>
                 rw[setRange]
                 have:(pre++q::qs).set pre.length u=(pre++[u])++qs:=by simp
                 rw[this]
                 have:=ih (pre++[u]) qs (by simpa using hp)
                 simp only[List.length_append,List.length_singleton] at this
                 rw[this];simp
            have hsplit:ca.toList=ca.toList.take (n0*s)++ca.toList.drop (n0*s):=(List.take_append_drop _ _).symm
            have hpl:(ca.toList.take (n0*s)).length=n0*s:=by rw[List.length_take,Array.length_toList];omega
            rw[hsplit,show 0+n0*s+0=(ca.toList.take (n0*s)).length by rw[hpl];omega,hcat _ _ _ (by simp[SV.vals_eq];omega)]
            rw[List.getElem?_append] at hi ⊢
            rw[hold,hcl] at hi
            rw[hpl]
            split
            ·rename_i hlt
             rw[if_pos hlt] at hi
             rw[List.getElem?_take,if_pos hlt,Array.getElem?_toList]
             exact hf2 i v hi
            ·rename_i hge
             rw[if_neg hge] at hi
             have hil:i - n0*s<new.length:=(List.getElem?_eq_some_iff.1 hi).1
             rw[List.getElem?_append_left (by simpa [SV.vals_eq] using hil),SV.vals_eq,List.getElem?_map,hi];rfl
           ·obtain⟨c',rest,q1,q2,q3⟩:=append_grow (w:=w) (ty:=ty) (base:=some ⟨E key,0,none⟩) (n0:=n0) (c:=c) h0 h1 hd hd1 hni hsz hby hzr hzs ylen xdraw ydraw (by omega) (by omega) (by omega)
            refine⟨_,_,q3,?_⟩
            have hsub:SatM Γ E (m.drop key) nx w:=hs.sub (fun k B hk=>(Mem.get_drop hk).2) (fun k B hk=>hs.lt k B (Mem.get_drop hk).2) (.inl (Nat.le_refl _))
            refine After.grown (m:=m.drop key) hsub (dropwf hw) (wfs_append oldwf g3) (by simp[xnum,ynum,Nat.add_mul]) ?_ q1 q2 (by simp[SV.vals_eq])
            exact h
          ·exact h.elim
         ·exact h.elim
        ·exact h.elim
       ·exact h.elim
      ·exact h.elim
     ·exact h.elim
    ·exact h.elim
   ·exact h.elim
  ·exact h.elim
 ·exact h.elim
end
end
end Go.Proofs.YtoalfimkkibpdaaGreatDoor.Sx
