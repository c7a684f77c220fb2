/-
  The framework's eleventh part, ahead of calls: append on rows whose length is not known.
-/
import Derived.Test.YtoalfimkkibpdaaGreatDoorMd
namespace Go.Proofs.YtoalfimkkibpdaaGreatDoor.Sx
open Go
noncomputable section
structure RowsOf (E:Nat→Nat)(s:Nat)(cols:List Col)(n:Nat)(l:List Value):Prop where
 len:l.length=n*s
 wide:cols.length=s
 get: ∀ i k col,i<n→cols[k]?=some col→l[i*s+k]?=some ((col.at i).val E)
def Col.flat:Col→Bool
 | .raw _=>false
 | _=>true
def flats:List Col→Bool
 | []=>true
 | c::r=>c.flat&&flats r
theorem flats_get: ∀ {l:List Col},flats l=true→∀ {k:Nat} {c:Col},l[k]?=some c→c.flat=true
 | [],_,k,c,h=>by simp at h
 | x::r,h,k,c,hk=>by
   simp only[flats,Bool.and_eq_true] at h
   cases k with
   | zero=>simp at hk;subst hk;exact h.1
   | succ k=>exact flats_get h.2 (by simpa using hk)
theorem Col.flat_one {c:Col} (h:c.flat=true)(E:Nat→Nat)(i:Nat):((c.at i).val E).oneCell'=true:=by
 cases c<;>first | (cases h;done) | rfl
theorem Col.flat_val {c:Col} (h:c.flat=true)(E E':Nat→Nat)(i:Nat):(c.at i).val E=(c.at i).val E':=by
 cases c<;>first | (cases h;done) | rfl
theorem RowsOf.one {E:Nat→Nat} {s:Nat} {cols:List Col} {n:Nat} {l:List Value} (h:RowsOf E s cols n l)(hf:flats cols=true): ∀ v∈ l,v.oneCell'=true:=by
 intro v hv
 obtain⟨q,hq⟩:=List.getElem?_of_mem hv
 have hql:=(List.getElem?_eq_some_iff.1 hq).1
 rw[h.len] at hql
 have hs:0<s:=by
  rcases Nat.eq_zero_or_pos s with e | e
  ·subst e;simp at hql
  ·exact e
 have h1:q / s<n:=(Nat.div_lt_iff_lt_mul hs).2 hql
 have h2:q% s<cols.length:=by rw[h.wide];exact Nat.mod_lt _ hs
 have h3:=h.get (q / s) (q% s) cols[q% s] h1 (List.getElem?_eq_getElem h2)
 rw[show q / s*s+q% s=q by rw[Nat.mul_comm];exact Nat.div_add_mod q s,hq] at h3
 injection h3 with h3
 rw[h3]
 exact Col.flat_one (flats_get hf (List.getElem?_eq_getElem h2)) E _
def Col.shift (i:Nat):Col→Col
 | .int k f=>.int k (fun j=>f (i+j))
 | .bool f=>.bool (fun j=>f (i+j))
 | .str f=>.str (fun j=>f (i+j))
 | .raw f=>.raw (fun j=>f (i+j))
theorem Col.shift_at (i j:Nat)(c:Col):(c.shift i).at j=c.at (i+j):=by cases c<;>rfl
def shiftCols (i:Nat)(cols:List Col):List Col:=match i with
 | 0=>cols
 | i+1=>cols.map (Col.shift (i+1))
theorem shiftCols_get {i:Nat} {cols:List Col} {k:Nat} {c:Col} (h:(shiftCols i cols)[k]?=some c): ∃ d,cols[k]?=some d∧∀ j,c.at j=d.at (i+j):=by
 cases i with
 | zero=>exact⟨c,h,fun j=>by rw[Nat.zero_add]⟩
 | succ i =>
   simp only[shiftCols,List.getElem?_map] at h
   cases hc:cols[k]? with
   | none=>rw[hc] at h;cases h
   | some d=>rw[hc] at h;injection h with h;subst h;exact⟨d,rfl,fun j=>Col.shift_at _ _ _⟩
theorem shiftCols_len {i:Nat} {cols:List Col}:(shiftCols i cols).length=cols.length:=by cases i<;>simp[shiftCols]
theorem shift_flat {i:Nat} {c:Col}:(c.shift i).flat=c.flat:=by cases c<;>rfl
theorem shiftCols_flat {i:Nat} {cols:List Col}:flats (shiftCols i cols)=flats cols:=by
 cases i with
 | zero=>rfl
 | succ i =>
   simp only[shiftCols]
   induction cols with
   | nil=>rfl
   | cons c r ih=>simp only[List.map_cons,flats,shift_flat,ih]
def nths (w k:Nat):Nat→List SV→Option (List SV)
 | 0,_=>some []
 | n+1,l=>match l[k]?,nths w k n (l.drop w)with
   | some v,some r=>some (v::r)
   | _,_=>none
theorem nths_get {w k:Nat}: ∀ {n:Nat} {l r:List SV},nths w k n l=some r→r.length=n∧∀(i:Nat),i<n→∃ v,r[i]?=some v∧l[i*w+k]?=some v
 | 0,l,r,h=>by simp[nths] at h;subst h;exact⟨rfl,fun i hi=>by omega⟩
 | n+1,l,r,h=>by
   simp only[nths] at h
   split at h
   ·rename_i v r' hv hr
    injection h with h;subst h
    obtain⟨h1,h2⟩:=nths_get hr
    refine⟨by simp[h1],fun i hi=> ?_⟩
    cases i with
    | zero=>exact⟨v,rfl,by simpa using hv⟩
    | succ i =>
      obtain⟨u,hu1,hu2⟩:=h2 i (by omega)
      refine⟨u,by simpa using hu1,?_⟩
      rw[List.getElem?_drop] at hu2
      rw[show(i+1)*w+k=w+(i*w+k)by rw[Nat.add_mul];omega];exact hu2
   ·cases h
def boolsAt:List SV→Option (List Bool)
 | []=>some []
 | .bool _ s::r=>(match boolsAt r with
   | some l=>some (s::l)
   | none=>none)
 | _::_=>none
def selB (l:List Bool)(i:Nat):Bool:=l.getD i false
theorem boolsAt_get: ∀ {cs:List SV} {l:List Bool},boolsAt cs=some l→∀(i:Nat)(v:SV),cs[i]?=some v→∃ b,v=.bool b (selB l i)
 | [],l,h,i,v,hv=>by simp at hv
 | .bool b s::r,l,h,i,v,hv=>by
   simp only[boolsAt] at h
   split at h
   ·rename_i l' hl
    injection h with h;subst h
    cases i with
    | zero=>simp at hv;subst hv;exact⟨b,rfl⟩
    | succ i=>obtain⟨b',hb⟩:=boolsAt_get hl i v (by simpa using hv);exact⟨b',by rw[hb];rfl⟩
   ·cases h
def colOf:List SV→Option Col
 | .int k b n::r=>(match intsAt k (.int k b n::r)with
   | some l=>some (.int k (sel l))
   | none=>none)
 | .str b s::r=>(match strsAt (.str b s::r)with
   | some l=>some (.str (selS l))
   | none=>none)
 | .bool b s::r=>(match boolsAt (.bool b s::r)with
   | some l=>some (.bool (selB l))
   | none=>none)
 | _=>none
theorem colOf_get {l:List SV} {c:Col} (h:colOf l=some c):c.flat=true∧∀(E:Nat→Nat)(i:Nat)(v:SV),l[i]?=some v→v.val E=(c.at i).val E:=by
 unfold colOf at h
 split at h
 ·split at h
  ·rename_i hl
   injection h with h;subst h
   refine⟨rfl,fun E i v hv=> ?_⟩
   obtain⟨b,hb⟩:=(intsAt_get hl).2 i v hv
   rw[hb];rfl
  ·cases h
 ·split at h
  ·rename_i hl
   injection h with h;subst h
   refine⟨rfl,fun E i v hv=> ?_⟩
   obtain⟨b,hb⟩:=strsAt_get hl i v hv
   rw[hb];rfl
  ·cases h
 ·split at h
  ·rename_i hl
   injection h with h;subst h
   refine⟨rfl,fun E i v hv=> ?_⟩
   obtain⟨b,hb⟩:=boolsAt_get hl i v hv
   rw[hb];rfl
  ·cases h
 ·cases h
def colsOf (w n:Nat)(cs:List SV):Nat→Option (List Col)
 | 0=>some []
 | r+1=>match nths w (w - (r+1)) n cs with
   | some l=>(match colOf l,colsOf w n cs r with
     | some c,some cols=>some (c::cols)
     | _,_=>none)
   | none=>none
theorem colsOf_get {w n:Nat} {cs:List SV}: ∀ {r:Nat} {cols:List Col},r≤w→colsOf w n cs r=some cols→cols.length=r∧flats cols=true ∧
  ∀(E:Nat→Nat) (i j:Nat) (col:Col),i<n→cols[j]?=some col→∃ v,cs[i*w+(w - r+j)]?=some v∧v.val E=(col.at i).val E
 | 0,cols,_,h=>by simp[colsOf] at h;subst h;exact⟨rfl,rfl,fun E i j col _ hj=>by simp at hj⟩
 | r+1,cols,hw,h=>by
   simp only[colsOf] at h
   split at h
   ·rename_i l hl
    split at h
    ·rename_i c cols' hc hr
     injection h with h;subst h
     obtain⟨h1,h2,h3⟩:=colsOf_get (by omega) hr
     obtain⟨g1,g2⟩:=colOf_get hc
     refine⟨by simp[h1],by simp[flats,g1,h2],fun E i j col hi hj=> ?_⟩
     cases j with
     | zero =>
       simp at hj;subst hj
       obtain⟨v,hv1,hv2⟩:=(nths_get hl).2 i hi
       exact⟨v,by simpa using hv2,g2 E i v hv1⟩
     | succ j =>
       obtain⟨v,hv1,hv2⟩:=h3 E i j col hi (by simpa using hj)
       exact⟨v,by rw[show w - (r+1)+(j+1)=w - r+j by omega];exact hv1,hv2⟩
    ·cases h
   ·cases h
def srcRows (m:Mem)(s:Nat):SV→Option (Prop×Nat×Option (List Col))
 | .nilslc=>some (True,0,none)
 | .slc key o n _ _=>(match n with
   | 0=>some (True,0,none)
   | n+1=>(match m.get key with
     | some (.cells cs _ _)=>(match takeAt cs o ((n+1)*s)with
       | some l=>(match colsOf s (n+1) l s with
         | some cols=>some (True,n+1,some cols)
         | none=>none)
       | none=>none)
     | _=>none))
 | .rslc key w _ i n _=>(match m.get key with
   | some (.rows _ nb cols _ _ _)=>if w=s∧cols.length=s∧flats cols=true then some (i+n≤nb,n,some (shiftCols i cols))else none
   | _=>none)
 | .str _ l=>if s=1 then some (True,l.length,some [.int .u8 (fun j=>((l.getD j 0).toNat:Int))])else none
 | _=>none
theorem beq0 {n:Nat}:Nat.beq n 0=true↔n=0:=by cases n<;>simp
theorem srcRows_run {P:Program} {Γ E m nx w} (hs:SatM Γ E m nx w) {s:Nat} {x:SV} {p:Prop} {n:Nat} {oc:Option (List Col)} (h:srcRows m s x=some (p,n,oc))(hp:p) :
  ∃ l:List Value,(Builtin.lenOf (x.val E)).run P w=.ok n w∧(∀ k,(Builtin.firstCells s n (x.val E)).run P {w with drawn:=k}=.ok l.toArray {w with drawn:=k})∧l.length=n*s ∧
    (∀ cols,oc=some cols→RowsOf E s cols n l∧flats cols=true)∧(oc=none→n=0):=by
 unfold srcRows at h
 split at h
 ·injection h with h;injection h with h1 h2;injection h2 with h2 h3;subst h2;subst h3
  exact⟨[],rfl,fun k=>by simp[SV.val,Builtin.firstCells],by simp,(fun _ h=>by cases h),fun _=>rfl⟩
 ·rename_i key o n' cl c
  split at h
  ·injection h with h;injection h with h1 h2;injection h2 with h2 h3;subst h2;subst h3
   refine⟨[],rfl,fun k=> ?_,by simp,(fun _ h=>by cases h),fun _=>rfl⟩
   simp[SV.val,Builtin.firstCells,loadCells,loadCellsFrom]
  ·rename_i n'
   split at h
   ·rename_i cs tot ty hk
    split at h
    ·rename_i l hl
     split at h
     ·rename_i cols hc
      injection h with h;injection h with h1 h2;injection h2 with h2 h3;subst h2;subst h3
      have hg:=takeAt_get hl
      obtain⟨ob,ho,c0,fr,rfl,_,h2,_⟩:=hs.blk key _ hk rfl
      obtain⟨q1,q2,q3⟩:=colsOf_get (Nat.le_refl s) hc
      refine⟨l.map (SV.val E),rfl,fun k=> ?_,by rw[List.length_map,hg.1],fun cols' hc'=> ?_,fun h=>by cases h⟩
      ·have:=run_loadCells (P:=P) (w:={w with drawn:=k}) (b:=E key) (c:=c0) ho o (l.map (SV.val E)) (fun i v hi=>by
        rw[List.getElem?_map] at hi
        cases hil:l[i]? with
        | none=>rw[hil] at hi;cases hi
        | some u=>rw[hil] at hi;injection hi with hi;subst hi;exact h2 _ _ (hg.2 i u hil))
       rw[List.length_map,hg.1] at this
       simp only[SV.val,Builtin.firstCells,this]
      ·injection hc' with hc';subst hc'
       refine⟨⟨by rw[List.length_map,hg.1],q1,fun i k col hi hk=> ?_⟩,q2⟩
       obtain⟨v,hv1,hv2⟩:=q3 E i k col hi hk
       rw[Nat.sub_self,Nat.zero_add] at hv1
       rw[List.getElem?_map,hv1,← hv2];rfl
     ·cases h
    ·cases h
   ·cases h
 ·rename_i key w' z i n' c
  split at h
  ·rename_i zb nb cols ro tot ty hk
   split at h
   ·rename_i hc
    obtain⟨rfl,hcl,hf⟩:=hc
    injection h with h;injection h with h1 h2;injection h2 with h2 h3;subst h1;subst h2;subst h3
    rcases Nat.eq_zero_or_pos n' with e | e
    ·subst e
     refine⟨[],rfl,fun k=> ?_,by simp,fun cols' hc'=> ?_,fun h=>by cases h⟩
     ·simp only[SV.val]
      cases z<;>simp[Builtin.firstCells,loadCells,loadCellsFrom]
     ·injection hc' with hc';subst hc'
      exact⟨⟨by simp,by rw[shiftCols_len];exact hcl,fun i k col hi _=>by omega⟩,by rw[shiftCols_flat];exact hf⟩
    ·have hno:(SB.rows zb nb cols ro tot ty).no=false:=SB.no_rows (i:=0) (by omega)
     obtain⟨ob,ho,c0,fr,rfl,_,h1,_,h2⟩:=hs.blk key _ hk hno
     rw[hcl] at h1 h2
     have hle:i*w'+n'*w'≤c0.size:=by
      rw[← Nat.add_mul]
      exact Nat.le_trans (Nat.mul_le_mul_right w' hp) h1
     have hbeq:Nat.beq n' 0=false:=by cases n' with
      | zero=>omega
      | succ n=>rfl
     have hlen:((c0.toList.drop (i*w')).take (n'*w')).length=n'*w':=by
      rw[List.length_take,List.length_drop,Array.length_toList];omega
     refine⟨(c0.toList.drop (i*w')).take (n'*w'),rfl,fun k=> ?_,hlen,fun cols' hc'=> ?_,fun h=>by cases h⟩
     ·have:=run_loadCells (P:=P) (w:={w with drawn:=k}) (b:=E key) (c:=c0) ho (i*w') ((c0.toList.drop (i*w')).take (n'*w')) (fun j v hj=>by
       rw[List.getElem?_take] at hj
       split at hj
       ·rw[List.getElem?_drop,Array.getElem?_toList] at hj;exact hj
       ·cases hj)
      rw[hlen] at this
      simp only[SV.val,hbeq,Bool.and_false,cond_false,Builtin.firstCells,this]
     ·injection hc' with hc';subst hc'
      refine⟨⟨hlen,by rw[shiftCols_len];exact hcl,fun j k col hj hk=> ?_⟩,by rw[shiftCols_flat];exact hf⟩
      obtain⟨d,hd1,hd2⟩:=shiftCols_get hk
      have hkl:k<w':=by have:=(List.getElem?_eq_some_iff.1 hd1).1;omega
      have hlt:j*w'+k<n'*w':=by
       have:(j+1)*w'≤n'*w':=Nat.mul_le_mul_right w' hj
       rw[Nat.add_mul] at this;omega
      rw[hd2,List.getElem?_take,if_pos hlt,List.getElem?_drop,Array.getElem?_toList]
      have:=h2 (i+j) k d (by omega) hd1
      rw[Nat.add_mul] at this
      rw[← Nat.add_assoc];exact this
   ·cases h
  ·cases h
 ·rename_i l s'
  split at h
  ·rename_i e;subst e
   injection h with h;injection h with h1 h2;injection h2 with h2 h3;subst h2;subst h3
   refine⟨s'.map fun b=>Value.int .u8 b.toNat,by simp[SV.val,Builtin.lenOf,ByteArray.size],fun k=> ?_,by simp,fun cols' hc'=> ?_,fun h=>by cases h⟩
   ·simp only[SV.val,Builtin.firstCells,Sem.run_pure]
    congr 1
    have:(ByteArray.mk s'.toArray).extract 0 s'.length=ByteArray.mk s'.toArray:=by
     rw[show s'.length=(ByteArray.mk s'.toArray).size by simp[ByteArray.size]]
     exact ByteArray.extract_zero_size
    rw[this];simp
   ·injection hc' with hc';subst hc'
    refine⟨⟨by simp,rfl,fun i k col hi hk=> ?_⟩,rfl⟩
    cases k with
    | succ k=>simp at hk
    | zero =>
      simp at hk;subst hk
      simp[Col.at,SV.val,hi]
  ·cases h
 ·cases h
def Col.cat (n:Nat):Col→Col→Option Col
 | .int k f,.int k' g=>if k=k' then some (.int k (fun j=>if j<n then f j else g (j - n)))else none
 | .str f,.str g=>some (.str (fun j=>if j<n then f j else g (j - n)))
 | .bool f,.bool g=>some (.bool (fun j=>if j<n then f j else g (j - n)))
 | _,_=>none
theorem Col.cat_at {n:Nat} {c d e:Col} (h:Col.cat n c d=some e):e.flat=true∧∀ j,e.at j=if j<n then c.at j else d.at (j - n):=by
 unfold Col.cat at h
 split at h
 ·split at h
  ·rename_i hk;subst hk;injection h with h;subst h
   exact⟨rfl,fun j=>by simp only[Col.at];split<;>rfl⟩
  ·cases h
 ·injection h with h;subst h;exact⟨rfl,fun j=>by simp only[Col.at];split<;>rfl⟩
 ·injection h with h;subst h;exact⟨rfl,fun j=>by simp only[Col.at];split<;>rfl⟩
 ·cases h
def catCols (n:Nat):List Col→List Col→Option (List Col)
 | [],[]=>some []
 | c::cs,d::ds=>(match Col.cat n c d,catCols n cs ds with
   | some e,some es=>some (e::es)
   | _,_=>none)
 | _,_=>none
theorem catCols_get {n:Nat}: ∀ {c d e:List Col},catCols n c d=some e→e.length=c.length∧e.length=d.length∧flats e=true ∧
  ∀(k:Nat) (col:Col),e[k]?=some col→∃ a b,c[k]?=some a∧d[k]?=some b∧∀ j,col.at j=if j<n then a.at j else b.at (j - n)
 | [],[],e,h=>by simp[catCols] at h;subst h;exact⟨rfl,rfl,rfl,fun k col hk=>by simp at hk⟩
 | c::cs,d::ds,e,h=>by
   simp only[catCols] at h
   split at h
   ·rename_i x es hx hes
    injection h with h;subst h
    obtain⟨h1,h2,h3,h4⟩:=catCols_get hes
    obtain⟨g1,g2⟩:=Col.cat_at hx
    refine⟨by simp[h1],by simp[h2],by simp[flats,g1,h3],fun k col hk=> ?_⟩
    cases k with
    | zero=>simp at hk;subst hk;exact⟨c,d,rfl,rfl,g2⟩
    | succ k=>exact h4 k col (by simpa using hk)
   ·cases h
 | [],_::_,_,h=>by cases h
 | _::_,[],_,h=>by cases h
theorem RowsOf.cat {E:Nat→Nat} {s n1 n2:Nat} {c1 c2 c:List Col} {l1 l2:List Value} (h1:RowsOf E s c1 n1 l1)(h2:RowsOf E s c2 n2 l2)(h:catCols n1 c1 c2=some c) :
  RowsOf E s c (n1+n2) (l1++l2):=by
 obtain⟨g1,g2,g3,g4⟩:=catCols_get h
 refine⟨by rw[List.length_append,h1.len,h2.len,Nat.add_mul],by rw[g1,h1.wide],fun i k col hi hk=> ?_⟩
 obtain⟨a,b,ha,hb,hat⟩:=g4 k col hk
 have hks:k<s:=by have:=(List.getElem?_eq_some_iff.1 hk).1;rw[g1,h1.wide] at this;exact this
 rw[hat,List.getElem?_append,h1.len]
 by_cases hlt:i<n1
 ·have:(i+1)*s≤n1*s:=Nat.mul_le_mul_right s hlt
  rw[Nat.add_mul] at this
  rw[if_pos hlt,if_pos (by omega)]
  exact h1.get i k a hlt ha
 ·have:n1*s≤i*s:=Nat.mul_le_mul_right s (by omega)
  rw[if_neg hlt,if_neg (by omega)]
  have:=h2.get (i - n1) k b (by omega) hb
  rw[Nat.sub_mul] at this
  rw[← this];congr 1;omega
def joinCols (n:Nat):Option (List Col)→Option (List Col)→Option (List Col)
 | some c,some d=>catCols n c d
 | some c,none=>some c
 | none,some d=>some d
 | none,none=>none
theorem joinCols_rows {E:Nat→Nat} {s n1 n2:Nat} {o1 o2:Option (List Col)} {c:List Col} {l1 l2:List Value} (h:joinCols n1 o1 o2=some c)
  (h1: ∀ cols,o1=some cols→RowsOf E s cols n1 l1∧flats cols=true) (h1':o1=none→n1=0) (e1:l1.length=n1*s)
  (h2: ∀ cols,o2=some cols→RowsOf E s cols n2 l2∧flats cols=true) (h2':o2=none→n2=0) (e2:l2.length=n2*s):RowsOf E s c (n1+n2) (l1++l2)∧flats c=true:=by
 unfold joinCols at h
 split at h
 ·exact⟨RowsOf.cat (h1 _ rfl).1 (h2 _ rfl).1 h,(catCols_get h).2.2.1⟩
 ·injection h with h;subst h
  have:=h2' rfl;subst this
  have:l2=[]:=List.eq_nil_of_length_eq_zero (by simpa using e2)
  subst this
  rw[List.append_nil,Nat.add_zero];exact h1 _ rfl
 ·injection h with h;subst h
  have:=h1' rfl;subst this
  have:l1=[]:=List.eq_nil_of_length_eq_zero (by simpa using e1)
  subst this
  rw[List.nil_append,Nat.zero_add];exact h2 _ rfl
 ·cases h
def rowsK (elem:TypeId)(s:Nat)(z:Bool)(n:Nat)(cols:List Col)(m:Mem)(nx:Nat)(K:KL):VC :=
 .all Nat fun c=>.imp (n≤c) (K (some (.rslc nx s z 0 n c)) ((nx,.rows z n cols false (c*s) elem)::m) (nx+1))
def baseRows (elem:TypeId)(s:Nat)(x:SV)(n0 n:Nat)(cols:List Col)(m:Mem)(nx:Nat)(K:KL):VC :=
 match x with
 | .nilslc=>rowsK elem s true n cols m nx K
 | .slc key 0 _ _ c=>(match m.get key with
   | some (.cells cs tot ty)=>if cs.length=n0*s∧ty=elem then .and (.atom (tot=c*s)) (rowsK elem s false n cols (m.drop key) nx K)else .fail "append: another block"
   | _=>.fail "append: no such block")
 | .rslc key _ z 0 _ c=>(match m.get key with
   | some (.rows zb _ _ false tot ty)=>if zb=z∧ty=elem then .and (.atom (tot=c*s)) (rowsK elem s z n cols (m.drop key) nx K)else .fail "append: another row"
   | _=>.fail "append: no row")
 | _=>.fail "append: to what"
def lappendRows (P:Program)(elem:TypeId)(s:Nat)(x y:SV)(m:Mem)(nx:Nat)(K:KL):VC :=
 match bytes P elem,zeroSV P elem,srcRows m s x,srcRows m s y with
 | some by_,some z,some (p0,n0,o0),some (p1,n1,o1)=>(match joinCols n0 o0 o1 with
   | some cols=>if(z.plain&&decide (z.cells.length=s)&&decide (s≠0))=true then
      .and (.atom (p0∧p1∧2*(n0+n1)*by_≤281474976710656∧n0+n1<9223372036854775808)) (baseRows elem s x n0 (n0+n1) cols m nx K)else .fail "append: sizes"
   | none=>.fail "append: no columns")
 | _,_,_,_=>.fail "append: rows"
section
variable {P : Program} {Γ : Base}
theorem getSet (c:Array Value)(off:Nat)(vs:List Value)(h:off+vs.length≤c.size)(q:Nat) :
  (setArr c off vs)[q]?=if off≤q∧q<off+vs.length then vs[q - off]? else c[q]?:=by
 rw[← Array.getElem?_toList,setArr_toList]
 have key: ∀(vs l:List Value) (off:Nat),off+vs.length≤l.length→(setRange l off vs)[q]?=if off≤q∧q<off+vs.length then vs[q - off]? else l[q]?:=by
  intro vs
  induction vs with
  | nil=>intro l off h;simp only[setRange,List.length_nil,Nat.add_zero];rw[if_neg (by omega)]
  | cons v r ih =>
    intro l off h
    simp only[List.length_cons] at h ⊢
    simp only[setRange]
    rw[ih _ _ (by simp;omega)]
    by_cases h1:off+1≤q∧q<off+1+r.length
    ·rw[if_pos h1,if_pos (by omega),show q - off=(q - (off+1))+1 by omega,List.getElem?_cons_succ]
    ·rw[if_neg h1,List.getElem?_set]
     by_cases h2:off=q
     ·subst h2;rw[if_pos rfl,if_pos (by omega),if_pos (by omega),Nat.sub_self];rfl
     ·rw[if_neg h2,if_neg (by omega)]
 have e:c.toList[q]?=c[q]?:=Array.getElem?_toList
 rw[key _ _ _ (by simpa using h),e]
theorem rowsGrow {Γ E m nx w} (hs:SatM Γ E m nx w)(hw:Mem.wf nx m=true) {K:KL} {elem:TypeId} {s:Nat} {z:Bool} {n:Nat} {cols:List Col} {m':Mem} (hsub: ∀ k B,m'.get k=some B→m.get k=some B)(hk:(rowsK elem s z n cols m' nx K).holds)
  {l:List Value} (hl:RowsOf E s cols n l) (hf:flats cols=true) {c:Nat} (hc:n≤c) (hpos:0<n) {a rest:Array Value} (ha:a=l.toArray) (hr:rest.size=(c - n)*s) :
  After K Γ E nx (.slice (some ⟨w.heap.size,0,none⟩) n c) {w with drawn:=w.drawn+1,heap:=w.heap.push (.cells (a++rest) elem)}:=by
 subst ha
 have hb:Nat.beq n 0=false:=by cases n with
  | zero=>omega
  | succ n=>rfl
 have hs':=hs.drew (w.drawn+1)
 refine⟨fun k=>if k=nx then w.heap.size else E k,some (.rslc nx s z 0 n c),_,_,fun k hk=>by simp[Nat.ne_of_lt hk],Nat.le_succ _,fun v hv=>by injection hv with hv;subst hv;simp[SV.val,hb],?_,hk c hc⟩
 refine hs'.push hw hsub (fun k X hk hn=> ?_) (fun i hi hlt=> ?_) ⟨hs.ext.os,hs.ext.tape,hs.ext.output,?_,fun k hk hm=> ?_⟩ (fun _ _=>.inr hs.ext.size) (fun D hD=>Nat.ne_of_lt (Array.getElem?_eq_some_iff.1 (hs.kp D hD)).1) fun _=>⟨_,by simp;rfl,?_⟩
 ·obtain⟨o',ho,_⟩:=hs.blk k X (hsub k X hk) hn
  exact Nat.ne_of_lt (Array.getElem?_eq_some_iff.1 ho).1
 ·show(w.heap.push _)[i]?=_
  rw[Array.getElem?_push,if_neg hi]
 ·have:=hs.ext.size;simp;omega
 ·show(w.heap.push _)[k]?=_
  have:=hs.ext.size
  rw[Array.getElem?_push,if_neg (by omega)];exact hs.ext.block k hk hm
 ·refine⟨l.toArray++rest,(0,0),rfl,fun _ i=>.inr (by simp),?_,?_,fun i k col hi hk=> ?_⟩
  ·simp[hl.len,hl.wide]
  ·simp only[Array.size_append,List.size_toArray,hl.len,hr,← Nat.add_mul];congr 1;omega
  ·rw[hl.wide,Col.flat_val (flats_get hf hk) _ E]
   have:=hl.get i k col hi hk
   rw[Array.getElem?_append_left (by simpa using (List.getElem?_eq_some_iff.1 this).1)]
   simpa using this
theorem rowsIn {Γ E m nx w} (hs:SatM Γ E m nx w)(hw:Mem.wf nx m=true) {K:KL} {elem:TypeId} {s:Nat} {z:Bool} {n0 n1:Nat} {cols:List Col} {key:Nat} {B:SB} (hk:m.get key=some B)(hn:B.no=false)(hro:B.ro=false)
  (h:(rowsK elem s z (n0+n1) cols (m.drop key) nx K).holds) {old new:List Value} (hl:RowsOf E s cols (n0+n1) (old++new)) (hol:old.length=n0*s) (hnl:new.length=n1*s) (hf:flats cols=true)
  {c0:Array Value} {fr:Nat×Nat} (ho:w.heap[E key]?=some (.cells c0 elem fr)) (hfr: ∀ i,c0.size≤i∨¬ (fr.1≤i∧i<fr.2)) {c:Nat} (hc:n0+n1≤c) (hsz:c0.size=c*s)
  (hold: ∀ q,q<n0*s→c0[q]?=old[q]?) (hz:(z&&Nat.beq (n0+n1) 0)=false) :
  ∃ w',(storeCells ⟨E key,n0*s,none⟩ new).run P w=.ok () w'∧After K Γ E nx (.slice (some ⟨E key,0,none⟩) (n0+n1) c) w':=by
 have hcs:n0*s+n1*s≤c0.size:=by rw[hsz,← Nat.add_mul];exact Nat.mul_le_mul_right s hc
 have hrun:=storeCells_run (P:=P) (o:=n0*s) new 0 w c0 ho hfr (by omega) (fun v hv=>hl.one hf v (List.mem_append_right _ hv))
 refine⟨_,hrun,fun j=>if j=nx then E key else E j,some (.rslc nx s z 0 (n0+n1) c),_,_,fun k hk'=>by simp[Nat.ne_of_lt hk'],Nat.le_succ _,
  fun v hv=>by injection hv with hv;subst hv;simp[SV.val,hz],hs.move hw hk hn hro ?_,h c hc⟩
 refine⟨_,fr,rfl,fun _=>by rw[setArr_size];exact hfr,?_,?_,fun i k col hi hk=> ?_⟩
 ·rw[setArr_size,hl.wide,Nat.add_mul];exact hcs
 ·rw[setArr_size];exact hsz
 ·rw[hl.wide,Col.flat_val (flats_get hf hk) _ E]
  have hg:=hl.get i k col hi hk
  rw[getSet _ _ _ (by omega),← hg,List.getElem?_append,hol,Nat.add_zero]
  by_cases hlt:i*s+k<n0*s
  ·rw[if_pos hlt,if_neg (by omega)];exact hold _ hlt
  ·rw[if_neg hlt,if_pos]
   refine⟨by omega,?_⟩
   have:=(List.getElem?_eq_some_iff.1 hg).1
   rw[List.length_append,hol] at this;omega
theorem lappendRows_ok {m:Mem} {nx:Nat} {ats:Array TypeId} {ty t0 t1 elem:TypeId} {d:TypeDesc} {s:Nat} (h0:ats[0]?=some t0)(h1:ats[1]?=some t1)(hd:P.underlying t0=some (.slice elem))(hd1:P.underlying t1=some d)(hni:notInt d=true)
  (hsz:sz P elem=some s) {x y:SV} {K:KL} {Γ:Base} {E:Nat→Nat} {w:World}
  (h:(lappendRows P elem s x y m nx K).holds) (hs:SatM Γ E m nx w) (hw:Mem.wf nx m=true) :
  ∃ r w',(Builtin.append_ ats ty #[x.val E,y.val E]).run P w=.ok r w'∧After K Γ E nx r w':=by
 unfold lappendRows at h
 split at h
 ·rename_i by_ z p0 n0 o0 p1 n1 o1 hby hz hx hy
  split at h
  ·rename_i cols hcols
   split at h
   ·rename_i hc
    simp only[Bool.and_eq_true,decide_eq_true_eq] at hc
    obtain⟨⟨g1,g2⟩,g3⟩:=hc
    obtain⟨⟨hp0,hp1,hb1,hb2⟩,h⟩:=h
    obtain⟨old,xlen,xrun,xl,xc,xn⟩:=srcRows_run (P:=P) hs hx hp0
    obtain⟨new,ylen,yrun,yl,yc,yn⟩:=srcRows_run (P:=P) hs hy hp1
    obtain⟨hrows,hflat⟩:=joinCols_rows hcols xc xn xl yc yn yl
    have hzr: ∀ w:World,(zeroValue elem).run P w=.ok (z.val E) w:=fun w=>zeroSV_run hz
    have hzs:(z.val E).cells.size=s:=by rw[SV.cells_val g1];simp[g2]
    have hnew:(Builtin.firstCells s n1 (y.val E)).run P w=.ok new.toArray w:=yrun w.drawn
    have grow: ∀(base:Option Addr) (c:Nat) (z:Bool) (m':Mem),x.val E=.slice base n0 c→(∀ k B,m'.get k=some B→m.get k=some B)→c<n0+n1→(rowsK elem s z (n0+n1) cols m' nx K).holds →
      ∃ r w',(Builtin.append_ ats ty #[x.val E,y.val E]).run P w=.ok r w'∧After K Γ E nx r w':=by
     intro base c z m' hxv hsub hlt hk
     rw[hxv] at xrun ⊢
     obtain⟨c',rest,q1,q2,q3⟩:=append_grow (w:=w) (ty:=ty) (base:=base) (n0:=n0) (c:=c) h0 h1 hd hd1 hni hsz hby hzr hzs ylen xrun yrun hlt (by omega) (by omega)
     exact⟨_,_,q3,rowsGrow hs hw hsub hk hrows hflat q1 (by omega) (by simp) q2⟩
    unfold baseRows at h
    split at h
    ·
     by_cases hn:n1=0
     ·subst hn
      simp only[srcRows] at hx
      injection hx with hx;injection hx with e1 e2;injection e2 with e2 e3;subst e2
      have hnn:(SB.rows true (0+0) cols false (0*s) elem).no=true:=rfl
      refine⟨_,_,append_nil h0 h1 hd hd1 hni hsz ylen hnew,fun k=>if k=nx then w.heap.size else E k,some (.rslc nx s true 0 (0+0) 0),_,_,fun k hk=>by simp[Nat.ne_of_lt hk],Nat.le_succ _,fun v hv=>by injection hv with hv;subst hv;rfl,
       hs.push hw (fun _ _ h=>h) (fun k X hk hn=> ?_) (fun i _ _=>rfl) hs.ext (fun hn=>by rw[hnn] at hn;cases hn) (fun D hD=>Nat.ne_of_lt (Array.getElem?_eq_some_iff.1 (hs.kp D hD)).1) (fun hn=>by rw[hnn] at hn;cases hn),h 0 (Nat.le_refl _)⟩
      obtain⟨o',ho,_⟩:=hs.blk k X hk hn
      exact Nat.ne_of_lt (Array.getElem?_eq_some_iff.1 ho).1
     ·simp only[srcRows] at hx
      injection hx with hx;injection hx with e1 e2;injection e2 with e2 e3;subst e2
      exact grow none 0 true m rfl (fun _ _ h=>h) (by omega) h
    ·
     rename_i key n' cl c
     have hn':n'=n0:=by
      simp only[srcRows] at hx
      split at hx
      ·injection hx with hx;injection hx with _ hx;injection hx with hx _
      ·split at hx
       ·split at hx
        ·split at hx
         ·injection hx with hx;injection hx with _ hx;injection hx with hx _
         ·cases hx
        ·cases hx
       ·cases hx
     subst hn'
     split at h
     ·rename_i cs tot ty' hk
      split at h
      ·rename_i hcs
       obtain⟨hcl,rfl⟩:=hcs
       obtain⟨htot,h⟩:=h
       have htot:tot=c*s:=htot
       by_cases hle:n'+n1≤c
       ·obtain⟨ob,ho,c0,fr,rfl,f1,f2,f3⟩:=hs.blk key _ hk rfl
        have hf0:=xrun w.drawn
        have hold: ∀ q,q<n'*s→c0[q]?=old[q]?:=by
         have hr:=run_loadCells (P:=P) (w:={w with drawn:=w.drawn}) (b:=E key) (c:=c0) ho 0 ((cs.map (SV.val E))) (fun j v hj=>by
          rw[List.getElem?_map] at hj
          cases hjl:cs[j]? with
          | none=>rw[hjl] at hj;cases hj
          | some u=>rw[hjl] at hj;injection hj with hj;subst hj;rw[Nat.zero_add];exact f2 j u hjl)
         rw[List.length_map,hcl] at hr
         simp only[SV.val,Builtin.firstCells] at hf0
         rw[hr] at hf0
         injection hf0 with hf0
         have hol:old=cs.map (SV.val E):=by
          have:=congrArg Array.toList hf0
          simpa using this.symm
         intro q hq
         have hql:q<cs.length:=by omega
         rw[hol,List.getElem?_map,List.getElem?_eq_getElem hql,f2 q _ (List.getElem?_eq_getElem hql)];rfl
        obtain⟨w',hrun,haft⟩:=rowsIn (P:=P) hs hw hk rfl rfl h hrows xl yl hflat ho f1 hle (by rw[f3,htot]) hold rfl
        exact⟨_,w',append_in (o:=0) h0 h1 hd hd1 hni hsz ylen hnew hle (by rw[Nat.zero_add];exact hrun),haft⟩
       ·exact grow _ c false (m.drop key) rfl (fun _ _ h=>(Mem.get_drop h).2) (by omega) h
      ·exact h.elim
     ·exact h.elim
    ·
     rename_i key w' z' n' c
     split at h
     ·rename_i zb nb cols' tot ty' hk
      split at h
      ·rename_i hcs
       obtain⟨rfl,rfl⟩:=hcs
       obtain⟨htot,h⟩:=h
       have htot:tot=c*s:=htot
       simp only[srcRows,hk] at hx
       split at hx
       ·rename_i hw'
        obtain⟨rfl,hwl,hwf⟩:=hw'
        injection hx with hx;injection hx with e1 e2;injection e2 with e2 e3;subst e1;subst e2;subst e3
        cases hzn:zb&&Nat.beq n' 0 with
        | true =>
          simp only[Bool.and_eq_true,beq0] at hzn
          obtain⟨rfl,rfl⟩:=hzn
          by_cases hn1:n1=0
          ·subst hn1
           have hnn:(SB.rows true (0+0) cols false (0*w') ty').no=true:=rfl
           refine⟨_,_,append_nil h0 h1 hd hd1 hni hsz ylen hnew,fun k=>if k=nx then w.heap.size else E k,some (.rslc nx w' true 0 (0+0) 0),_,_,fun k hk=>by simp[Nat.ne_of_lt hk],Nat.le_succ _,fun v hv=>by injection hv with hv;subst hv;rfl,
            hs.push hw (fun _ _ h=>(Mem.get_drop h).2) (fun k X hk hn=> ?_) (fun i _ _=>rfl) hs.ext (fun hn=>by rw[hnn] at hn;cases hn) (fun D hD=>Nat.ne_of_lt (Array.getElem?_eq_some_iff.1 (hs.kp D hD)).1) (fun hn=>by rw[hnn] at hn;cases hn),h 0 (Nat.le_refl _)⟩
           obtain⟨o',ho,_⟩:=hs.blk k X (Mem.get_drop hk).2 hn
           exact Nat.ne_of_lt (Array.getElem?_eq_some_iff.1 ho).1
          ·exact grow none 0 true (m.drop key) rfl (fun _ _ h=>(Mem.get_drop h).2) (by omega) h
        | false =>
          have hxv:(SV.rslc key w' zb 0 n' c).val E=.slice (some ⟨E key,0,none⟩) n' c:=by simp[SV.val,hzn]
          have hno:(SB.rows zb nb cols' false tot ty').no=false:=by
           cases zb with
           | false=>rfl
           | true =>
             simp only[Bool.true_and] at hzn
             have:n'≠0:=fun e=>by rw[e] at hzn;cases hzn
             exact SB.no_rows (i:=0) (by omega)
          by_cases hle:n'+n1≤c
          ·obtain⟨ob,ho,c0,fr,rfl,f1,f2,f3,f4⟩:=hs.blk key _ hk hno
           have hf0:=xrun w.drawn
           rw[hxv] at hf0
           rw[hwl] at f2
           have hnb:n'*w'≤c0.size:=Nat.le_trans (Nat.mul_le_mul_right w' (by omega)) f2
           have hold: ∀ q,q<n'*w'→c0[q]?=old[q]?:=by
            have hr:=run_loadCells (P:=P) (w:={w with drawn:=w.drawn}) (b:=E key) (c:=c0) ho 0 (c0.toList.take (n'*w')) (fun j v hj=>by
             rw[List.getElem?_take] at hj
             split at hj
             ·rw[Nat.zero_add];rw[Array.getElem?_toList] at hj;exact hj
             ·cases hj)
            rw[List.length_take,Array.length_toList,Nat.min_eq_left hnb] at hr
            simp only[Builtin.firstCells] at hf0
            rw[hr] at hf0
            injection hf0 with hf0
            have hol:old=c0.toList.take (n'*w'):=by
             have:=congrArg Array.toList hf0
             simpa using this.symm
            intro q hq
            rw[hol,List.getElem?_take,if_pos hq,Array.getElem?_toList]
           have hz2:(zb&&Nat.beq (n'+n1) 0)=false:=by
            cases zb with
            | false=>rfl
            | true =>
              simp only[Bool.true_and] at hzn ⊢
              cases n' with
              | zero=>cases hzn
              | succ n=>rw[show n+1+n1=(n+n1)+1 by omega];rfl
           obtain⟨w2,hrun,haft⟩:=rowsIn (P:=P) hs hw hk hno rfl h hrows xl yl hflat ho (f1 rfl) hle (by rw[f3,htot]) hold hz2
           rw[hxv]
           exact⟨_,w2,append_in (o:=0) h0 h1 hd hd1 hni hsz ylen hnew hle (by rw[Nat.zero_add];exact hrun),haft⟩
          ·exact grow _ c zb (m.drop key) hxv (fun _ _ h=>(Mem.get_drop h).2) (by omega) h
       ·cases hx
      ·exact h.elim
     ·exact h.elim
    ·exact h.elim
   ·exact h.elim
  ·exact h.elim
 ·exact h.elim
def isRow:SV→Bool
 | .rslc .. =>true
 | _=>false
def lappend2 (P:Program)(ats:Array TypeId)(x y:SV)(m:Mem)(nx:Nat)(K:KL):VC :=
 match isRow x||isRow y with
 | false=>lappend P ats x y m nx K
 | true=>(match ats[0]?,ats[1]? with
   | some t0,some t1=>(match P.underlying t0,P.underlying t1 with
     | some (.slice elem),some d=>(match sz P elem with
       | some s=>if notInt d=true then lappendRows P elem s x y m nx K else .fail "append: make"
       | none=>.fail "append")
     | _,_=>.fail "append")
   | _,_=>.fail "append")
theorem lappend2_ok {m:Mem} {nx:Nat} {ats:Array TypeId} {ty:TypeId} {x y:SV} {K:KL} {Γ:Base} {E:Nat→Nat} {w:World}
  (h:(lappend2 P ats x y m nx K).holds) (hs:SatM Γ E m nx w) (hw:Mem.wf nx m=true) :
  ∃ r w',(Builtin.append_ ats ty #[x.val E,y.val E]).run P w=.ok r w'∧After K Γ E nx r w':=by
 unfold lappend2 at h
 split at h
 ·exact lappend_ok h hs hw
 ·split at h
  ·rename_i t0 t1 h0 h1
   split at h
   ·rename_i elem d hd hd1
    split at h
    ·rename_i s hsz
     split at h
     ·rename_i hni
      exact lappendRows_ok h0 h1 hd hd1 hni hsz h hs hw
     ·exact h.elim
    ·exact h.elim
   ·exact h.elim
  ·exact h.elim
theorem rowsK_mono {elem:TypeId} {s:Nat} {z:Bool} {n:Nat} {cols:List Col} {m:Mem} {nx:Nat} {K K':KL} (hK: ∀ u m nx,(K u m nx).holds→(K' u m nx).holds) :
  (rowsK elem s z n cols m nx K).holds→(rowsK elem s z n cols m nx K').holds:=fun h c hc=>hK _ _ _ (h c hc)
theorem lappendRows_mono {elem:TypeId} {s:Nat} {x y:SV} {m:Mem} {nx:Nat} {K K':KL} (hK: ∀ u m nx,(K u m nx).holds→(K' u m nx).holds) :
  (lappendRows P elem s x y m nx K).holds→(lappendRows P elem s x y m nx K').holds:=by
 unfold lappendRows
 split
 ·split
  ·split
   ·refine fun x=>⟨x.1,?_⟩
    have x2:=x.2
    unfold baseRows at x2 ⊢
    split at x2
    ·exact rowsK_mono hK x2
    ·split at x2
     ·split at x2
      ·rename_i hh;rw[if_pos hh];exact⟨x2.1,rowsK_mono hK x2.2⟩
      ·exact x2.elim
     ·exact x2.elim
    ·split at x2
     ·split at x2
      ·rename_i hh;rw[if_pos hh];exact⟨x2.1,rowsK_mono hK x2.2⟩
      ·exact x2.elim
     ·exact x2.elim
    ·exact x2.elim
   ·exact id
  ·exact id
 ·exact id
end
end
end Go.Proofs.YtoalfimkkibpdaaGreatDoor.Sx
