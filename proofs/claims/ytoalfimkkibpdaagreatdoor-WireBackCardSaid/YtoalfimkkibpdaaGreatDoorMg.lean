/-
  The framework's eleventh part: copy, make, calls; 'lop'.
-/
import Derived.Test.YtoalfimkkibpdaaGreatDoorMe
import Derived.Test.YtoalfimkkibpdaaGreatDoorMf
namespace Go.Proofs.YtoalfimkkibpdaaGreatDoor.Sx
open Go
noncomputable section
section
variable {P : Program} {Γ : Base} {σ : Operand → Option SV} {m : Mem} {nx : Nat}
def u8Front:List SV→List Int
 | .int .u8 _ n::r=>n::u8Front r
 | _=>[]
def u8Run:Nat→List SV→Option (Nat×List Int)
 | _,[]=>none
 | a,v::r=>match v with
   | .int .u8 _ n=>some (a,n::u8Front r)
   | _=>u8Run (a+1) r
theorem u8Front_get: ∀(cs:List SV)(j:Nat),j<(u8Front cs).length→∃ b,cs[j]?=some (.int .u8 b (sel (u8Front cs) j))
 | [],j,h=>by simp[u8Front] at h
 | v::r,j,h=>by
   unfold u8Front at h ⊢
   split at h
   ·rename_i b n r' e
    injection e with e1 e2;subst e1;subst e2
    cases j with
    | zero=>exact⟨b,rfl⟩
    | succ j =>
      obtain⟨b',hb⟩:=u8Front_get r j (by simpa using h)
      exact⟨b',by simpa [sel] using hb⟩
   ·simp at h
theorem u8Run_get: ∀(cs:List SV)(a a0:Nat)(zs:List Int),u8Run a cs=some (a0,zs)→a≤a0∧a0 - a+zs.length≤cs.length∧∀ j,j<zs.length→∃ b,cs[a0 - a+j]?=some (.int .u8 b (sel zs j))
 | [],a,a0,zs,h=>by cases h
 | v::r,a,a0,zs,h=>by
   have rec':u8Run (a+1) r=some (a0,zs)→a≤a0∧a0 - a+zs.length≤(v::r).length∧∀ j,j<zs.length→∃ b,(v::r)[a0 - a+j]?=some (.int .u8 b (sel zs j)):=fun h=>by
    obtain⟨g1,g2,g3⟩:=u8Run_get r (a+1) a0 zs h
    refine⟨by omega,by simp only[List.length_cons];omega,fun j hj=> ?_⟩
    obtain⟨b,hb⟩:=g3 j hj
    exact⟨b,by rw[show a0 - a+j=(a0 - (a+1)+j)+1 by omega];simpa using hb⟩
   unfold u8Run at h
   split at h
   ·rename_i b n
    injection h with h;injection h with h1 h2;subst h1;subst h2
    have hf:=u8Front_get (.int .u8 b n::r)
    have e:u8Front (.int .u8 b n::r)=n::u8Front r:=rfl
    rw[e] at hf
    have hl: ∀ l:List SV,(u8Front l).length≤l.length:=by
     intro l
     induction l with
     | nil=>simp[u8Front]
     | cons v r ih =>
       unfold u8Front
       split
       ·rename_i e;injection e with _ e;subst e;simpa using ih
       ·simp
    refine⟨Nat.le_refl _,by have:=hl r;simp only[List.length_cons,Nat.sub_self];omega,fun j hj=> ?_⟩
    rw[Nat.sub_self,Nat.zero_add]
    exact hf j hj
   ·exact rec' h
def mixB (off cnt:Nat)(s:List UInt8):Nat→List Int→List SV
 | _,[]=>[]
 | j,z::r=>.int .u8 false (if off≤j∧j<off+cnt then((s.getD (j - off) 0).toNat:Int)else z)::mixB off cnt s (j+1) r
theorem mixB_len {off cnt:Nat} {s:List UInt8}: ∀ {l:List Int} {j:Nat},(mixB off cnt s j l).length=l.length
 | [],_=>rfl
 | _::r,j=>by simp[mixB,mixB_len (l:=r)]
theorem mixB_get {off cnt:Nat} {s:List UInt8}: ∀ {l:List Int} {j q:Nat} {x:SV},(mixB off cnt s j l)[q]?=some x→x=.int .u8 false (if off≤j+q∧j+q<off+cnt then((s.getD (j+q - off) 0).toNat:Int)else sel l q)
 | [],_,_,_,h=>by simp[mixB] at h
 | z::r,j,0,x,h=>by simp[mixB] at h;subst h;simp[sel]
 | z::r,j,q+1,x,h=>by
   simp only[mixB,List.getElem?_cons_succ] at h
   rw[mixB_get h,show j+1+q=j+(q+1)by omega]
   simp[sel]
def lcopyStr (key i n:Nat)(y:SV)(m:Mem)(nx:Nat)(K:KL):VC :=
 match y,m.get key with
 | .str _ s,some (.cells cs tot ty)=>(match u8Run 0 cs with
   | some (a,zs)=>.and (.atom (a≤i∧i+n≤a+zs.length)) (K (some (.int .i64 false (min s.length n:Nat))) (m.put key (.cells (setRange cs a (mixB (i - a) (min s.length n) s 0 zs)) tot ty)) nx)
   | none=>.fail "copy: no bytes")
 | _,_=>.fail "copy: blocks"
theorem firstCells_str (P:Program)(w:World)(s:List UInt8)(n:Nat):(Builtin.firstCells 1 n (.string ⟨s.toArray⟩)).run P w=.ok ((s.take n).map fun b=>Value.int .u8 b.toNat).toArray w:=by
 have e:((ByteArray.mk s.toArray).extract 0 n)=⟨(s.take n).toArray⟩:=by
  have:=bytes_extract s 0 n
  simpa using this
 show Result.ok _ w=_
 rw[e];simp
theorem lcopyStr_ok {Γ:Base} {E:Nat→Nat} {w:World} {m:Mem} {nx:Nat} {K:KL} {key i n:Nat} {y:SV} (P:Program)(h:(lcopyStr key i n y m nx K).holds)(hs:SatM Γ E m nx w) :
  ∃ s,y.val E=.string ⟨List.toArray s⟩∧∃ w',(storeCells ⟨E key,i,none⟩ ((s.take (min s.length n)).map fun b=>Value.int .u8 b.toNat)).run P w=.ok () w'∧After K Γ E nx (.int .i64 ((min s.length n:Nat):Int)) w':=by
 unfold lcopyStr at h
 split at h
 ·rename_i lt s cs tot ty hk
  split at h
  ·rename_i a zs hrun8
   obtain⟨⟨ha,hin⟩,h⟩:=h
   obtain⟨_,u2,u3⟩:=u8Run_get cs 0 a zs hrun8
   rw[Nat.sub_zero] at u2
   refine⟨s,rfl,?_⟩
   obtain⟨ob,ho,c,fr,rfl,h1,h2,h3⟩:=hs.blk key _ hk rfl
   generalize hc:min s.length n=cnt at *
   have hcs:cnt≤s.length:=by omega
   have hcn:cnt≤n:=by omega
   have hlen:((s.take cnt).map fun b=>Value.int .u8 b.toNat).length=cnt:=by rw[List.length_map,List.length_take];omega
   have hcl:cs.length≤c.size:=by
    cases hcs:cs.length with
    | zero=>omega
    | succ q =>
      have:=h2 q _ (List.getElem?_eq_getElem (by omega))
      have:=(Array.getElem?_eq_some_iff.1 this).1
      omega
   have hrun:=storeCells_run (P:=P) (o:=i) ((s.take cnt).map fun b=>Value.int .u8 b.toNat) 0 w c ho h1 (by rw[hlen];omega) (fun u hu=>by
    rw[List.mem_map] at hu
    obtain⟨b,_,rfl⟩:=hu
    rfl)
   refine⟨_,hrun,E,some (.int .i64 false (cnt:Int)),_,_,fun _ _=>rfl,Nat.le_refl _,fun v hv=>by injection hv with hv;subst hv;rfl,hs.write hk rfl rfl (B':=.cells (setRange cs a (mixB (i - a) cnt s 0 zs)) tot ty) ?_ rfl,h⟩
   refine⟨_,fr,rfl,by rw[setArr_size];exact h1,fun q u hq=> ?_,by rw[setArr_size];exact h3⟩
   have hsa: ∀ v,(if i≤q∧q<i+cnt then((s.take cnt).map fun b=>Value.int .u8 b.toNat)[q - i]? else c[q]?)=some v→(setArr c (i+0) ((s.take cnt).map fun b=>Value.int .u8 b.toNat))[q]?=some v:=by
    intro v hv
    rw[← Array.getElem?_toList,setArr_toList,Nat.add_zero]
    have hqs:q<c.size:=by
     split at hv
     ·omega
     ·exact(Array.getElem?_eq_some_iff.1 hv).1
    have hsl:(setRange c.toList i ((s.take cnt).map fun b=>Value.int .u8 b.toNat)).length=c.size:=by
     rw[← setArr_toList];simp[setArr_size]
    obtain⟨x,hx⟩: ∃ x,(setRange c.toList i ((s.take cnt).map fun b=>Value.int .u8 b.toNat))[q]?=some x:=⟨_,List.getElem?_eq_getElem (by rw[hsl];exact hqs)⟩
    rcases setRange_get _ _ _ _ _ hx (by rw[hlen,Array.length_toList];omega)with ⟨g1,g2,g3⟩ | ⟨g1,g2⟩
    ·rw[hlen] at g2
     rw[if_pos ⟨g1,g2⟩] at hv
     rw[hx,← g3];exact hv
    ·rw[hlen] at g1
     rw[if_neg (by omega)] at hv
     rw[hx,← g2,Array.getElem?_toList];exact hv
   apply hsa
   rcases setRange_get _ _ _ _ _ hq (by rw[mixB_len];omega)with ⟨g1,g2,g3⟩ | ⟨g1,g2⟩
   ·have hu:=mixB_get g3
    subst hu
    rw[mixB_len] at g2
    by_cases e:i≤q∧q<i+cnt
    ·rw[if_pos e,if_pos (by omega),List.getElem?_map,List.getElem?_take_of_lt (by omega),List.getElem?_eq_getElem (by omega)]
     simp only[Option.map_some,SV.val,Nat.zero_add]
     rw[show q - a - (i - a)=q - i by omega,List.getD_eq_getElem?_getD,List.getElem?_eq_getElem (by omega)]
     rfl
    ·rw[if_neg e,if_neg (by omega)]
     obtain⟨b,hb⟩:=u3 (q - a) (by omega)
     rw[show a - 0+(q - a)=q by omega] at hb
     have:=h2 _ _ hb
     exact this
   ·rw[mixB_len] at g1
    rw[if_neg (by omega)];exact h2 q u g2
  ·exact h.elim
 ·exact h.elim
def lcopy (P:Program)(ats:Array TypeId)(x y:SV)(m:Mem)(nx:Nat)(K:KL):VC :=
 match ats[0]? with
 | some t0=>(match P.underlying t0 with
   | some (.slice elem)=>(match sz P elem,x with
     | some s,.slc key o n _ _=>(match srcCells m s y,m.get key with
       | some (l,n'),some (.cells cs tot ty)=>if(allCells (l.take (min n' n*s))&&decide (o+(l.take (min n' n*s)).length≤cs.length))=true then
          K (some (.int .i64 true (min n' n:Nat))) (m.put key (.cells (setRange cs o (l.take (min n' n*s))) tot ty)) nx else .fail "copy: cells"
       | _,_=>.fail "copy: blocks")
     | some 1,.rslc key 1 false i n _=>lcopyStr key i n y m nx K
     | _,_=>.fail "copy: to what")
   | _=>.fail "copy")
 | none=>.fail "copy"
theorem lcopy_ok {ats:Array TypeId} {ty:TypeId} {x y:SV} {K:KL} {Γ:Base} {E:Nat→Nat} {w:World}
  (h:(lcopy P ats x y m nx K).holds) (hs:SatM Γ E m nx w) :
  ∃ r w',(Builtin.copy_ ats ty #[x.val E,y.val E]).run P w=.ok r w'∧After K Γ E nx r w':=by
 unfold lcopy at h
 split at h
 ·rename_i t0 h0
  split at h
  ·rename_i elem hd
   split at h
   ·rename_i s key o n cl c hsz
    split at h
    ·rename_i l n' cs tot ty' hy hk
     split at h
     ·rename_i hc
      simp only[Bool.and_eq_true,decide_eq_true_eq] at hc
      obtain⟨ylen,ycells,ynum⟩:=srcCells_run (P:=P) hs hy
      have hyc:=ycells (min n' n) (Nat.min_le_left _ _)
      obtain⟨w',hrun,haft⟩:=After.write (P:=P) (r:=.int .i64 ((min n' n:Nat):Int)) hs hk (allCells_mem hc.1) hc.2 (fun v hv=>by injection hv with hv;subst hv;rfl) h
      refine⟨_,w',?_,haft⟩
      simp only[SV.val,Builtin.copy_,h0,List.getElem?_toArray,List.getElem?_cons_zero,List.getElem?_cons_succ,Sem.run_bind,run_und hd,Result.andThen_ok,ylen,run_sz hsz]
      rw[show n'.min n=min n' n from rfl,hyc]
      simp only[Result.andThen_ok,hrun,Sem.run_pure,goInt]
     ·exact h.elim
    ·exact h.elim
   ·rename_i key i n c hsz
    obtain⟨s,hy,w',hrun,haft⟩:=lcopyStr_ok P h hs
    refine⟨_,w',?_,haft⟩
    have hl:(ByteArray.mk s.toArray).size=s.length:=by simp[ByteArray.size]
    rw[hy]
    simp only[SV.val,Bool.false_and,cond_false,Nat.mul_one,Builtin.copy_,h0,List.getElem?_toArray,List.getElem?_cons_zero,List.getElem?_cons_succ,Sem.run_bind,run_und hd,Result.andThen_ok,Builtin.lenOf,Sem.run_pure,run_sz hsz,hl]
    rw[show s.length.min n=min s.length n from rfl,firstCells_str]
    simp only[Result.andThen_ok,hrun,goInt]
   ·exact h.elim
  ·exact h.elim
 ·exact h.elim
def constCol:SV→Option Col
 | .int k _ n=>some (.int k fun _=>n)
 | .bool _ b=>some (.bool fun _=>b)
 | .str _ s=>some (.str fun _=>s)
 | _=>none
def constCols:List SV→Option (List Col)
 | []=>some []
 | v::r=>(match constCol v,constCols r with
   | some c,some l=>some (c::l)
   | _,_=>none)
theorem constCols_get: ∀ {cs:List SV} {cols:List Col},constCols cs=some cols→cols.length=cs.length∧∀(k:Nat)(col:Col),cols[k]?=some col→∃ v,cs[k]?=some v∧∀ i E,(col.at i).val E=v.val E
 | [],cols,h=>by simp[constCols] at h;subst h;exact⟨rfl,fun k c hc=>by simp at hc⟩
 | v::r,cols,h=>by
   simp only[constCols] at h
   split at h
   ·rename_i c l hc hl
    injection h with h;subst h
    obtain⟨g1,g2⟩:=constCols_get hl
    refine⟨by simp[g1],fun k col hk=> ?_⟩
    cases k with
    | zero =>
      simp at hk;subst hk
      refine⟨v,rfl,fun i E=> ?_⟩
      unfold constCol at hc
      split at hc<;>first | (injection hc with hc;subst hc;rfl) | cases hc
    | succ k=>exact g2 k col (by simpa using hk)
   ·cases h
theorem times_at {zs:List SV}: ∀ {n i k:Nat} {v:SV},i<n→zs[k]?=some v→(times n zs)[i*zs.length+k]?=some v
 | 0,_,_,_,h,_=>absurd h (Nat.not_lt_zero _)
 | n+1,i,k,v,h,hk=>by
   have hkl:=(List.getElem?_eq_some_iff.1 hk).1
   simp only[times]
   cases i with
   | zero=>rw[Nat.zero_mul,Nat.zero_add,List.getElem?_append_left hkl];exact hk
   | succ i =>
     rw[Nat.add_mul,Nat.one_mul,List.getElem?_append_right (by omega),show i*zs.length+zs.length+k - zs.length=i*zs.length+k by omega]
     exact times_at (by omega) hk
def lmake (P:Program)(t:TypeId)(x y:SV)(m:Mem)(nx:Nat)(K:KL):VC :=
 match P.underlying t,x,y with
 | some (.slice e),.int .i64 true n,.int .i64 l c=>(match sz P e,zeroSV P e,bytes P e with
   | some s,some z,some by_=>if(z.plain&&decide (z.cells.length=s)&&decide (s≠0)&&decide (0≤n))=true then
      chk l (n≤c∧by_*c≤140737488355328∧c≤9223372036854775807) (K (some (.slc nx 0 n.toNat l c.toNat)) ((nx,.cells (times (bif l then c.toNat else n.toNat) z.cells) (c.toNat*s) e)::m) (nx+1))else .fail "make: size"
   | _,_,_=>.fail "make")
 | some (.slice e),.int .i64 false n,.int .i64 _ c=>(match sz P e,zeroSV P e,bytes P e with
   | some s,some z,some by_=>(match constCols z.cells with
     | some cols=>if(z.plain&&decide (z.cells.length=s)&&decide (s≠0))=true then
       .and (.atom (c=n∧0≤n∧by_*n≤140737488355328∧n≤9223372036854775807)) (K (some (.rslc nx s false 0 n.toNat n.toNat)) ((nx,.rows false n.toNat cols false (n.toNat*s) e)::m) (nx+1))else .fail "make: size"
     | none=>.fail "make: columns")
   | _,_,_=>.fail "make")
 | _,_,_=>.fail "make: a length that is not known"
theorem lmake_lit {dst:Option Tmp} {t type:TypeId} {pos:String} {after:Array Edge} {guard:Option (Nat×Bool)} {x y:Operand} :
  ∀ {a b:SV},(∀ n,a=.int .i64 false n→False)→∀(K:KL) (E:Nat→Nat) (w:World) (ρ:Operand→Value),(lmake P t a b m nx K).holds→SatM Γ E m nx w→Mem.wf nx m=true→ρ x=a.val E→ρ y=b.val E →
    Out P (After K Γ E nx) ((execOp ρ ⟨dst,.makeSlice t x y,type,pos,after,guard⟩).run P w):=by
 intro a b hnl K E w ρ h hs hw ha hb
 unfold lmake at h
 split at h
 ·rename_i e n l c hd
  split at h
  ·rename_i s z by_ hsz hz hby
   split at h
   ·rename_i hc
    simp only[Bool.and_eq_true,decide_eq_true_eq] at hc
    obtain⟨⟨⟨h1,h2⟩,h3⟩,h4⟩:=hc
    have hk:(n≤c∧by_*c≤140737488355328∧c≤9223372036854775807)∧(K (some (.slc nx 0 n.toNat l c.toNat)) ((nx,.cells (times (bif l then c.toNat else n.toNat) z.cells) (c.toNat*s) e)::m) (nx+1)).holds:=by
     unfold Sx.chk at h
     split at h
     ·split at h
      ·rename_i hh;exact⟨hh,h⟩
      ·exact h.elim
     ·exact h
    obtain⟨⟨k1,k2,k3⟩,hk⟩:=hk
    have hwc:IntKind.i64.wrap c=c:=wrap_in (k:=.i64) ⟨by simp only[lo];omega,by simp only[hi];omega⟩
    have hwn:IntKind.i64.wrap n=n:=wrap_in (k:=.i64) ⟨by simp only[lo];omega,by simp only[hi];omega⟩
    have hby': ∃ i,P.info? e=some i∧i.bytes=by_:=by
     unfold bytes at hby
     split at hby
     ·rename_i i hi;injection hby with hby;exact⟨i,hi,hby⟩
     ·cases hby
    obtain⟨i,hi,hib⟩:=hby'
    have hzc:=SV.cells_val (E:=E) h1
    have hzs:(z.val E).cells.size=s:=by rw[hzc];simp[h2]
    have hnl: ¬ (c<0):=by omega
    have hbig: ¬ (((by_:Nat):Int)*c>2^ 48):=by
     have:(2:Int)^ 48=281474976710656:=by decide
     omega
    have hcond:((decide (c<0)||decide (((by_:Nat):Int)*c>2^ 48))||decide (n<0)||decide (n>c))=false:=by
     simp only[Bool.or_eq_false_iff,decide_eq_false_iff_not]
     exact⟨⟨⟨hnl,hbig⟩,by omega⟩,by omega⟩
    have fin: ∀ z':Array Value,((Array.range (c.toNat*s)).map fun i=>z'[i% z'.size]!)=(SV.vals E (times c.toNat z.cells)).toArray →
      Out P (After K Γ E nx) (((newRow e ((Array.range (c.toNat*s)).map fun i=>z'[i% z'.size]!) >>= fun a=>pure (Value.slice (some a) n.toNat c.toNat):Sem Value).run P w).andThen fun a w'=>(pure (Next.value a):Sem Next).run P w'):=by
     intro z' hz'
     rw[hz']
     simp only[newRow,Sem.run_bind,run_newObj,Result.andThen_ok,Sem.run_pure,Out]
     have g: ∀ k:Nat,(times k z.cells).length=k*s:=by
      intro k
      induction k with
      | zero=>simp[times]
      | succ k ih=>rw[times,List.length_append,ih,h2,Nat.add_mul];omega
     refine After.alloc hs hw (times_wf (cells_wf (zeroSV_wf hz)) _) (fun i v hv=> ?_) (by simp[SV.vals_eq,g]) hk (by simp[SV.val])
     ·generalize hq:(bif l then c.toNat else n.toNat)=q at hv
      have hqc:q≤c.toNat:=by cases l<;>simp at hq<;>omega
      have hsplit:times c.toNat z.cells=times q z.cells++times (c.toNat - q) z.cells:=by
       have g: ∀ a b:Nat,times (a+b) z.cells=times a z.cells++times b z.cells:=by
        intro a b
        induction a with
        | zero=>simp[times]
        | succ a ih=>rw[show a+1+b=(a+b)+1 by omega,times,ih,times,List.append_assoc]
       rw[← g];congr 1;omega
      have:=(List.getElem?_eq_some_iff.1 hv).1
      rw[SV.vals_eq,List.getElem?_toArray,List.getElem?_map,hsplit,List.getElem?_append_left this,hv];rfl
    simp only[execOp,Instr.makeSlice,ha,hb,SV.val,asInt,asIntOf,Sem.run_bind,run_und hd,Result.andThen_ok,Sem.run_pure,run_info hi,hib,hwc,hwn]
    rw[hcond]
    simp only[Bool.false_eq_true,if_false,Sem.run_bind,run_askRoom,Result.andThen_ok,run_sz hsz,Sem.run_ite]
    by_cases h0:c.toNat*s=0
    ·rw[if_pos h0]
     simp only[Sem.run_pure,Result.andThen_ok]
     refine fin #[] ?_
     have:c.toNat=0:=by rcases Nat.mul_eq_zero.1 h0 with h | h;exact h;exact absurd h h3
     rw[this];simp[times,SV.vals]
    ·rw[if_neg h0]
     simp only[zeroSV_run (E:=E) hz,Sem.run_pure,Result.andThen_ok]
     refine fin _ ?_
     apply Array.ext'
     have:=times_range (E:=E) (zs:=z.cells) (z:=(z.val E).cells) (by rw[hzc]) (by rw[hzs];exact h3) c.toNat
     rw[hzs] at this
     rw[SV.vals_eq]
     simpa [hzs] using this
   ·exact h.elim
  ·exact h.elim
 ·exact(hnl _ rfl).elim
 ·exact h.elim
theorem lmake_ok {dst:Option Tmp} {t type:TypeId} {pos:String} {after:Array Edge} {guard:Option (Nat×Bool)} {x y:Operand} :
  LOp P Γ σ m nx ⟨dst,.makeSlice t x y,type,pos,after,guard⟩ (fun K=>need (σ x) (fun a=>need (σ y) (fun b=>lmake P t a b m nx K))):=by
 refine LOp.need fun a ha=>LOp.need fun b hb=> ?_
 intro K E w ρ h hs hw hσ hr
 by_cases hl: ∃ n,a=.int .i64 false n
 ·obtain⟨n,rfl⟩:=hl
  unfold lmake at h
  split at h
  ·rename_i e;cases e
  ·rename_i e n' l' c hd heq
   injection heq with _ _ heq
   subst heq
   split at h
   ·rename_i s z by_ hsz hz hby
    split at h
    ·rename_i cols hcols
     split at h
     ·rename_i hc
      obtain⟨⟨rfl,k1,k2,k3⟩,h⟩:=h
      have hc':=hc
      simp only[Bool.and_eq_true,decide_eq_true_eq] at hc'
      obtain⟨⟨h1,h2⟩,h3⟩:=hc'
      let K0:KL:=fun sv m' nx'=>.atom (sv=some (.slc nx 0 c.toNat true c.toNat)∧m'=(nx,.cells (times c.toNat z.cells) (c.toNat*s) e)::m∧nx'=nx+1)
      have hk0:(lmake P t (.int .i64 true c) (.int .i64 true c) m nx K0).holds:=by
       simp only[lmake,hd,hsz,hz,hby]
       rw[if_pos (by simp[h1,h2,h3,k1])]
       simp only[Sx.chk,cond_true]
       rw[if_pos ⟨Int.le_refl _,k2,k3⟩]
       exact⟨rfl,rfl,rfl⟩
      have ho:=lmake_lit (P:=P) (Γ:=Γ) (m:=m) (nx:=nx) (dst:=dst) (type:=type) (pos:=pos) (after:=after) (guard:=guard) (t:=t) (x:=x) (y:=y) (a:=.int .i64 true c) (b:=.int .i64 true c) (fun _ h=>by cases h) K0 E w ρ hk0 hs hw (by have:=hr x _ ha;exact this) (by have:=hr y _ hb;exact this)
      refine ho.mono ?_ (fun _ _ h=>h)
      rintro r w' ⟨E',sv,m',nx',g1,g2,g3,g4,rfl,rfl,rfl⟩
      obtain⟨q1,q2⟩:=constCols_get hcols
      refine⟨E',some (.rslc nx s false 0 c.toNat c.toNat),_,_,g1,g2,fun v hv=> ?_,?_,h⟩
      ·injection hv with hv;subst hv
       rw[g3 _ rfl];simp[SV.val]
      ·
       have hblk: ∀ o,BlkOk E' (.cells (times c.toNat z.cells) (c.toNat*s) e) o→BlkOk E' (.rows false c.toNat cols false (c.toNat*s) e) o:=by
        rintro o ⟨c0,fr,rfl,f1,f2,f3⟩
        refine⟨c0,fr,rfl,fun _=>f1,by rw[q1,h2,f3];exact Nat.le_refl _,f3,fun i k col hi hk=> ?_⟩
        obtain⟨v,hv1,hv2⟩:=q2 k col hk
        rw[hv2,q1]
        exact f2 _ _ (times_at hi hv1)
       refine⟨fun k B hk hn=> ?_,fun k k' B B' hk hn hk' hn' hr' he=> ?_,fun k B hk=> ?_,fun k B hk hn hro=> ?_,g4.ext,g4.cx,g4.kp⟩
       ·rcases Mem.get_cons hk with ⟨rfl,rfl⟩ | ⟨hne,hk⟩
        ·obtain⟨o,ho,hb⟩:=g4.blk k _ (if_pos rfl) rfl
         exact⟨o,ho,hblk o hb⟩
        ·exact g4.blk k B (by rw[Mem.get,if_neg (fun e=>hne e.symm)];exact hk) hn
       ·have conv: ∀ {k B},Mem.get k ((nx,SB.rows false c.toNat cols false (c.toNat*s) e)::m)=some B→B.no=false→∃ B2,Mem.get k ((nx,SB.cells (times c.toNat z.cells) (c.toNat*s) e)::m)=some B2∧B2.no=false∧B2.ro=B.ro:=by
         intro k B hk hn
         rcases Mem.get_cons hk with ⟨rfl,rfl⟩ | ⟨hne,hk⟩
         ·exact⟨_,if_pos rfl,rfl,rfl⟩
         ·exact⟨B,by rw[Mem.get,if_neg (fun e=>hne e.symm)];exact hk,hn,rfl⟩
        obtain⟨B2,a1,a2,a3⟩:=conv hk hn
        obtain⟨B3,b1,b2,b3⟩:=conv hk' hn'
        exact g4.inj k k' B2 B3 a1 a2 b1 b2 (by rw[a3,b3];exact hr') he
       ·rcases Mem.get_cons hk with ⟨rfl,rfl⟩ | ⟨hne,hk⟩
        ·exact g4.lt k _ (if_pos rfl)
        ·exact g4.lt k B (by rw[Mem.get,if_neg (fun e=>hne e.symm)];exact hk)
       ·rcases Mem.get_cons hk with ⟨rfl,rfl⟩ | ⟨hne,hk⟩
        ·exact g4.own k _ (if_pos rfl) rfl rfl
        ·exact g4.own k B (by rw[Mem.get,if_neg (fun e=>hne e.symm)];exact hk) hn hro
     ·exact h.elim
    ·exact h.elim
   ·exact h.elim
  ·exact h.elim
 ·exact lmake_lit (fun n e=>hl ⟨n,e⟩) K E w ρ h hs hw (hr x _ ha) (hr y _ hb)
abbrev PT:=List SV→Mem→Nat→(SV→Mem→Nat→VC)→VC
def lift (K:SV→Mem→Nat→VC):KL:=fun v m nx=>match v with
 | some v=>K v m nx
 | none=>.fail "a call's result that is not known"
def CallOk (P:Program)(f:FuncId)(pt:PT):Prop :=
 ∀ args m nx K,(pt args m nx K).holds→Mem.wf nx m=true→SV.wfs nx args=true→∀ Γ E w,SatM Γ E m nx w →
   Out P (After (lift K) Γ E nx) ((callFunc f (SV.vals E args).toArray).run P w)
inductive Cal where
 | fn (f:FuncId)
 | yield (key:Nat)
 | panic
def Cal.sem (E:Nat→Nat):Cal→Array Value→Sem Next
 | .fn f,args=>callFunc f args
 | .yield key,args=>Instr.yield (E key) args
 | .panic,args=>do pure (.value (← Instr.panic (args.getD 0 undef)))
def COk (P:Program)(Γ:Base)(KP:PK)(c:Cal)(pt:PT):Prop :=
 ∀ Δ,Γ.le Δ→∀ args m nx K,(pt args m nx K).holds→Mem.wf nx m=true→SV.wfs nx args=true→∀ E w,SatM Δ E m nx w →
   Out P (After (lift K) Δ E nx) ((c.sem E (SV.vals E args).toArray).run P w) (AfterP KP Δ E nx)
theorem CallOk.cok {P:Program} {f:FuncId} {pt:PT} (h:CallOk P f pt)(Γ:Base)(KP:PK):COk P Γ KP (.fn f) pt:=fun Δ _ args m nx K h1 h2 h3 E w hs=>(h args m nx K h1 h2 h3 Δ E w hs).dull
theorem COk.mono {P:Program} {Γ Δ:Base} {KP:PK} {c:Cal} {pt:PT} (h:COk P Γ KP c pt)(hle:Γ.le Δ):COk P Δ KP c pt:=fun Θ h'=>h Θ (Base.le_trans hle h')
def LOpP (P:Program)(Γ:Base)(KP:PK)(σ:Operand→Option SV)(m:Mem)(nx:Nat)(o:Oper)(t:KL→VC):Prop :=
 ∀ K E w ρ,(t K).holds→SatM Γ E m nx w→Mem.wf nx m=true→WfS nx σ→Reads E σ ρ→Out P (After K Γ E nx) ((execOp ρ o).run P w) (AfterP KP Γ E nx)
theorem LOp.dull {P:Program} {Γ:Base} {KP:PK} {σ:Operand→Option SV} {m:Mem} {nx:Nat} {o:Oper} {t:KL→VC} (h:LOp P Γ σ m nx o t):LOpP P Γ KP σ m nx o t:=fun K E w ρ h1 h2 h3 h4 h5=>(h K E w ρ h1 h2 h3 h4 h5).dull
def isPtrD:TypeDesc→Bool
 | .pointer _=>true
 | _=>false
def findVia (P:Program)(t:TypeId)(v:SV)(name:String):Option (FuncId×SV) :=
 match P.info? t with
 | some i=>(match i.methods.find? (·.name==name)with
   | some mt=>(match mt.func,mt.path.toList with
     | some (g,p),[]=>(match P.underlying t with
       | some d=>if isPtrD d=p then some (g,v)else none
       | none=>none)
     | some (g,p),[s]=>(match s.deref,P.underlying s.struct,v with
       | false,some (.struct fs),.agg cs=>(match fs[s.index]? with
         | some f=>(match partOf P f.type cs f.offset,P.underlying f.type with
           | some u,some d=>if isPtrD d=p then some (g,u)else none
           | _,_=>none)
         | none=>none)
       | _,_,_=>none)
     | _,_=>none)
   | none=>none)
 | none=>none
def lcall (P:Program)(call:Cal→PT)(σ:Operand→Option SV)(c:Call)(m:Mem)(nx:Nat)(K:KL):VC :=
 match c.callee,evs σ c.args.toList with
 | .value f,some args=>(match σ f with
   | some (.func (.func g) first captured)=>call (.fn g) (first++args++captured) m nx (fun v m nx=>K (some v) m nx)
   | some (.yield key)=>call (.yield key) args m nx (fun v m nx=>K (some v) m nx)
   | _=>.fail "call: of what")
 | .invoke r name,some args=>(match σ r with
   | some (.iface t v)=>(match findVia P t v name with
     | some (g,u)=>(match u.wf nx with
       | true=>call (.fn g) (u::args) m nx (fun v m nx=>K (some v) m nx)
       | false=>.fail "call: receiver")
     | none=>.fail "call: no such method")
   | _=>.fail "call: of what")
 | .builtin .append,some [x,y]=>lappend2 P c.argTypes x y m nx K
 | .builtin .copy,some [x,y]=>lcopy P c.argTypes x y m nx K
 | .builtin .delete,some [x,y]=>ldelete P c.argTypes x y m nx K
 | _,_=>.fail "call"
theorem After.of_lift {K:KL} {Γ:Base} {E:Nat→Nat} {r:Value} {w:World} (h:After (lift fun v m nx=>K (some v) m nx) Γ E nx r w):After K Γ E nx r w:=by
 obtain⟨E',sv,m',nx',h1,h2,h3,h4,h5⟩:=h
 cases sv with
 | none=>exact h5.elim
 | some v=>exact⟨E',some v,m',nx',h1,h2,h3,h4,h5⟩
def lpanic (call:Cal→PT)(x:Option SV)(m:Mem)(nx:Nat):VC :=
 match x with
 | some (.iface t v)=>call .panic [.iface t v] m nx (fun _ _ _=>.fail "a panic")
 | _=>.fail "a panic of what"
theorem lpanic_ok {KP:PK} {call:Cal→PT} (hcall: ∀ c,COk P Γ KP c (call c)) {dst:Option Tmp} {type:TypeId} {pos:String} {after:Array Edge} {guard:Option (Nat×Bool)} {x:Operand} :
  LOpP P Γ KP σ m nx ⟨dst,.panic x,type,pos,after,guard⟩ (fun _=>lpanic call (σ x) m nx):=by
 intro K E w ρ h hs hw hσ hr
 unfold lpanic at h
 split at h
 ·rename_i t v hx
  have hv:=hσ _ _ hx
  have:=hcall .panic Γ Γ.le_refl [.iface t v] m nx _ h hw (by simp only[SV.wfs,hv,Bool.and_self]) E w hs
  have hrun:(execOp ρ ⟨dst,.panic x,type,pos,after,guard⟩).run P w=((Cal.panic).sem E (SV.vals E [.iface t v]).toArray).run P w:=by
   simp only[execOp,hr x _ hx,Cal.sem,SV.vals]
   rfl
  rw[hrun]
  refine this.mono (fun r w' hh=> ?_) (fun _ _ h=>h)
  obtain⟨E',sv,m',nx',h1,h2,h3,h4,h5⟩:=hh
  cases sv<;>exact h5.elim
 ·exact h.elim
theorem evs_wf {nx:Nat} {σ:Operand→Option SV} (hσ:WfS nx σ): ∀ {xs:List Operand} {l:List SV},evs σ xs=some l→SV.wfs nx l=true
 | [],l,h=>by simp[evs] at h;subst h;rfl
 | x::r,l,h=>by
   simp only[evs] at h
   split at h
   ·rename_i v l' hv hl
    injection h with h;subst h
    simp only[SV.wfs,Bool.and_eq_true];exact⟨hσ x v hv,evs_wf hσ hl⟩
   ·cases h
theorem findVia_run {E:Nat→Nat} {w:World} {t:TypeId} {v u:SV} {name:String} {g:FuncId} (h:findVia P t v name=some (g,u))(fuel:Nat) :
  (method (fuel+1) t (v.val E) name).run P w=.ok (g,u.val E) w:=by
 unfold findVia at h
 split at h
 ·rename_i i hi
  split at h
  ·rename_i mt hm
   split at h
   ·rename_i g' p hfn hpl
    split at h
    ·rename_i d hd
     split at h
     ·rename_i hp
      injection h with h;injection h with e1 e2;subst e1;subst e2
      simp only[method,Sem.run_bind,run_info hi,Result.andThen_ok,hm,hpl,follow,Sem.run_pure,hfn]
      cases d<;>simp only[isPtrD] at hp<;>subst hp<;>simp only[receiverAt,Sem.run_bind,run_und hd,Result.andThen_ok,Place.get,Sem.run_pure]
     ·cases h
    ·cases h
   ·rename_i g' p s hfn hpl
    split at h
    ·rename_i fs cs hder hst
     split at h
     ·rename_i f hf
      split at h
      ·rename_i u' d hu hd
       split at h
       ·rename_i hp
        injection h with h;injection h with e1 e2;subst e1;subst e2
        simp only[method,Sem.run_bind,run_info hi,Result.andThen_ok,hm,hpl,follow,run_und hst,hf,hder,Bool.false_eq_true,if_false,SV.val,partOf_run hu,Sem.run_pure,hfn]
        cases d<;>simp only[isPtrD] at hp<;>subst hp<;>simp only[receiverAt,Sem.run_bind,run_und hd,Result.andThen_ok,Place.get,Sem.run_pure]
       ·cases h
      ·cases h
     ·cases h
    ·cases h
   ·cases h
  ·cases h
 ·cases h
theorem vals_append (E:Nat→Nat)(a b:List SV):SV.vals E (a++b)=SV.vals E a++SV.vals E b:=by simp[SV.vals_eq]
theorem lcall_ok {KP:PK} {call:Cal→PT} (hcall: ∀ c,COk P Γ KP c (call c)) {dst:Option Tmp} {type:TypeId} {pos:String} {after:Array Edge} {guard:Option (Nat×Bool)} {c:Call} :
  LOpP P Γ KP σ m nx ⟨dst,.call c,type,pos,after,guard⟩ (lcall P call σ c m nx):=by
 intro K E w ρ h hs hw hσ hr
 obtain⟨callee,args,ats⟩:=c
 unfold lcall at h
 split at h
 ·rename_i f avs hca hargs
  simp only at hca;subst hca
  split at h
  ·rename_i g first captured hf
   have hfw:=hσ _ _ hf
   simp only[SV.wf,Bool.and_eq_true] at hfw
   have:=hcall (.fn g) Γ Γ.le_refl (first++avs++captured) m nx _ h hw (wfs_append (wfs_append hfw.1 (evs_wf hσ hargs)) hfw.2) E w hs
   have hrun:(execOp ρ ⟨dst,.call ⟨.value f,args,ats⟩,type,pos,after,guard⟩).run P w=(callFunc g (SV.vals E (first++avs++captured)).toArray).run P w:=by
    simp only[execOp,resolve,hr _ _ hf,SV.val,Deferred.ofValue,Sem.run_bind,Sem.run_pure,Result.andThen_ok,invoke]
    rw[evs_arr hr hargs,vals_append,vals_append]
    simp
   rw[hrun]
   exact this.mono (fun r w' h=>h.of_lift) (fun _ _ h=>h)
  ·rename_i key hf
   have:=hcall (.yield key) Γ Γ.le_refl avs m nx _ h hw (evs_wf hσ hargs) E w hs
   have hrun:(execOp ρ ⟨dst,.call ⟨.value f,args,ats⟩,type,pos,after,guard⟩).run P w=(Instr.yield (E key) (SV.vals E avs).toArray).run P w:=by
    simp only[execOp,resolve,hr _ _ hf,SV.val,Deferred.ofValue,Sem.run_bind,Sem.run_pure,Result.andThen_ok,invoke]
    rw[evs_arr hr hargs]
    simp
   rw[hrun]
   exact this.mono (fun r w' h=>h.of_lift) (fun _ _ h=>h)
  ·exact h.elim
 ·rename_i r name avs hca hargs
  simp only at hca;subst hca
  split at h
  ·rename_i t v hrv
   split at h
   ·rename_i g u hm
    split at h
    ·rename_i huw
     have:=hcall (.fn g) Γ Γ.le_refl (u::avs) m nx _ h hw (by simp only[SV.wfs,Bool.and_eq_true];exact⟨huw,evs_wf hσ hargs⟩) E w hs
     have hrun:(execOp ρ ⟨dst,.call ⟨.invoke r name,args,ats⟩,type,pos,after,guard⟩).run P w=(callFunc g (SV.vals E (u::avs)).toArray).run P w:=by
      simp only[execOp,resolve,hr _ _ hrv,SV.val,Sem.run_bind,Sem.run_pure,Result.andThen_ok,invoke]
      rw[evs_arr hr hargs]
      simp only[Array.getElem?_append_left,List.size_toArray,List.length_singleton,Nat.lt_one_iff,List.getElem?_toArray,List.getElem?_cons_zero,callMethod,Sem.run_bind,run_program,Result.andThen_ok]
      have hfm:=findVia_run (E:=E) (w:=w) hm (P.types.size+Made.depth - 1)
      have hpos:0<Made.depth:=by decide
      rw[show P.types.size+Made.depth - 1+1=P.types.size+Made.depth by omega] at hfm
      rw[hfm]
      simp only[Result.andThen_ok]
      congr 2
      simp[SV.vals]
     rw[hrun]
     exact this.mono (fun r w' h=>h.of_lift) (fun _ _ h=>h)
    ·exact h.elim
   ·exact h.elim
  ·exact h.elim
 ·rename_i x y hca hargs
  simp only at hca;subst hca
  obtain⟨r,w',hrun,haft⟩:=lappend2_ok (P:=P) (ty:=type) h hs hw
  rw[BigFrame.execOp_builtin,BigFrame.builtin_append,evs_arr hr hargs]
  simp only[SV.vals,Sem.run_bind]
  rw[hrun]
  exact haft
 ·rename_i x y hca hargs
  simp only at hca;subst hca
  obtain⟨r,w',hrun,haft⟩:=lcopy_ok (P:=P) (ty:=type) h hs
  rw[BigFrame.execOp_builtin,BigFrame.builtin_copy,evs_arr hr hargs]
  simp only[SV.vals,Sem.run_bind]
  rw[hrun]
  exact haft
 ·rename_i x y hca hargs
  simp only at hca;subst hca
  obtain⟨r,w',hrun,haft⟩:=ldelete_ok (P:=P) (ty:=type) h hs
  rw[BigFrame.execOp_builtin,BigFrame.builtin_delete,evs_arr hr hargs]
  simp only[SV.vals,Sem.run_bind]
  rw[hrun]
  exact haft
 ·exact h.elim
end
end
end Go.Proofs.YtoalfimkkibpdaaGreatDoor.Sx
namespace Go.Proofs.YtoalfimkkibpdaaGreatDoor.Sx
open Go
noncomputable section
structure St where
 tmps:List (Option SV)
 m:Mem
 nx:Nat
def slot (tmps:List (Option SV))(i:Nat):Option SV :=
 match tmps,i with
 | [],_=>none
 | v::_,0=>v
 | _::r,i+1=>slot r i
theorem slot_eq: ∀ {tmps:List (Option SV)} {i:Nat} {v:SV},slot tmps i=some v→tmps[i]?=some (some v)
 | [],_,_,h=>by simp[slot] at h
 | x::_,0,v,h=>by simp[slot] at h;simp[h]
 | _::r,i+1,v,h=>by simp[slot] at h;simpa using slot_eq h
def ev (tmps:List (Option SV)):Operand→Option SV
 | .tmp i=>slot tmps i
 | .const v=>SV.ofConst v
 | .global g=>some (.raw (.pointer (some ⟨g,0,none⟩)))
 | .func f=>some (.func (.func f) [] [])
def wfTmps (nx:Nat):List (Option SV)→Bool
 | []=>true
 | none::r=>wfTmps nx r
 | some v::r=>v.wf nx&&wfTmps nx r
theorem wfTmps_get {nx:Nat}: ∀ {l:List (Option SV)},wfTmps nx l=true→∀ {i:Nat} {v:SV},l[i]?=some (some v)→v.wf nx=true
 | none::r,h,0,v,hv=>by simp at hv
 | some x::r,h,0,v,hv=>by simp at hv;subst hv;simp only[wfTmps,Bool.and_eq_true] at h;exact h.1
 | none::r,h,i+1,v,hv=>wfTmps_get (l:=r) (by simpa [wfTmps] using h) (i:=i) (by simpa using hv)
 | some x::r,h,i+1,v,hv=>wfTmps_get (l:=r) (by simp only[wfTmps,Bool.and_eq_true] at h;exact h.2) (i:=i) (by simpa using hv)
structure TmpsOk (E:Nat→Nat)(tmps:List (Option SV))(a:Act):Prop where
 size:a.tmps.size=tmps.length
 val: ∀(i:Nat) (v:SV),tmps[i]?=some (some v)→a.tmps[i]?=some (v.val E)
theorem TmpsOk.reads {E:Nat→Nat} {tmps:List (Option SV)} {a:Act} (h:TmpsOk E tmps a):Reads E (ev tmps) a.eval:=by
 intro x v hx
 cases x with
 | tmp i =>
   have:=h.val i v (slot_eq hx)
   simp[Act.eval,Array.getD_eq_getD_getElem?,this]
 | const c=>exact(SV.ofConst_val hx).symm
 | global g=>simp[ev] at hx;subst hx;rfl
 | func f=>simp[ev] at hx;subst hx;rfl
theorem TmpsOk.wf {nx:Nat} {tmps:List (Option SV)} (h:wfTmps nx tmps=true):WfS nx (ev tmps):=by
 intro x v hx
 cases x with
 | tmp i=>exact wfTmps_get h (slot_eq hx)
 | const c=>exact ofConst_wf hx
 | global g=>simp[ev] at hx;subst hx;rfl
 | func f=>simp[ev] at hx;subst hx;rfl
theorem TmpsOk.congr {E E':Nat→Nat} {nx:Nat} {tmps:List (Option SV)} {a:Act} (h:TmpsOk E tmps a)(hw:wfTmps nx tmps=true)(hE: ∀ k,k<nx→E' k=E k):TmpsOk E' tmps a :=
 ⟨h.size,fun i v hv=>by rw[SV.val_congr hE v (wfTmps_get hw hv)];exact h.val i v hv⟩
def setSlot (tmps:List (Option SV))(dst:Option Nat)(v:Option SV):List (Option SV) :=
 match dst with
 | none=>tmps
 | some d=>tmps.set d v
theorem TmpsOk.put {E:Nat→Nat} {tmps:List (Option SV)} {a:Act} (h:TmpsOk E tmps a) {dst:Option Nat} {sv:Option SV} {r:Value} (hr: ∀ v,sv=some v→r=v.val E) :
  TmpsOk E (setSlot tmps dst sv) (a.put dst r):=by
 cases dst with
 | none=>exact h
 | some d =>
   refine⟨by simp[Act.put,setSlot,h.size],fun i v hv=> ?_⟩
   simp only[setSlot] at hv
   rw[List.getElem?_set] at hv
   simp only[Act.put]
   rw[Array.getElem?_setIfInBounds]
   split at hv
   ·rename_i e;subst e
    split at hv
    ·rename_i hlt
     injection hv with hv
     rw[if_pos rfl,if_pos (by rw[h.size];exact hlt),hr v hv]
    ·cases hv
   ·rename_i e
    rw[if_neg e];exact h.val i v hv
theorem wfTmps_set {nx:Nat}: ∀ {l:List (Option SV)} {d:Nat} {v:Option SV},wfTmps nx l=true→(∀ u,v=some u→u.wf nx=true)→wfTmps nx (l.set d v)=true
 | [],_,_,h,_=>h
 | none::r,0,none,h,hv=>h
 | none::r,0,some u,h,hv=>by simp only[List.set_cons_zero,wfTmps,Bool.and_eq_true];exact⟨hv u rfl,h⟩
 | some x::r,0,none,h,hv=>by simp only[wfTmps,Bool.and_eq_true] at h;exact h.2
 | some x::r,0,some u,h,hv=>by simp only[wfTmps,Bool.and_eq_true,List.set_cons_zero] at h ⊢;exact⟨hv u rfl,h.2⟩
 | none::r,d+1,v,h,hv=>wfTmps_set (l:=r) h hv
 | some x::r,d+1,v,h,hv=>by simp only[wfTmps,Bool.and_eq_true,List.set_cons_succ] at h ⊢;exact⟨h.1,wfTmps_set h.2 hv⟩
theorem wfTmps_mono {n m:Nat} (h:n≤m): ∀ {l:List (Option SV)},wfTmps n l=true→wfTmps m l=true
 | [],_=>rfl
 | none::r,hl=>wfTmps_mono h (l:=r) hl
 | some x::r,hl=>by simp only[wfTmps,Bool.and_eq_true] at hl ⊢;exact⟨SV.wf_mono h x hl.1,wfTmps_mono h hl.2⟩
theorem wfTmps_setSlot {nx:Nat} {l:List (Option SV)} {dst:Option Nat} {v:Option SV} (h:wfTmps nx l=true)(hv: ∀ u,v=some u→u.wf nx=true):wfTmps nx (setSlot l dst v)=true:=by
 cases dst with
 | none=>exact h
 | some d=>exact wfTmps_set h hv
def wfO (nx:Nat):Option SV→Bool
 | none=>true
 | some v=>v.wf nx
theorem wfO_spec {nx:Nat} {v:Option SV} (h:wfO nx v=true): ∀ u,v=some u→u.wf nx=true:=by rintro u rfl;exact h
def markOf (D:Nat):Deferred:={target:=.collected D,args:=#[]}
def Marks (Γ:Base)(ds:List Deferred)(w:World):Prop :=
 ∃ Ds:List Nat,ds=Ds.map markOf++Γ.tail∧Ds.Nodup∧(∀ D∈ Ds,w.heap[D]?=some (.deferred (some []))∧D∉ Γ.keep∧Γ.w0.heap.size≤D)∧(Γ.rf=false→Ds=[])
theorem Marks.nil (Γ:Base)(w:World)(ht:Γ.tail=[]):Marks Γ [] w:=⟨[],by rw[ht];rfl,List.nodup_nil,(fun D h=>by cases h),fun _=>rfl⟩
structure Sat (Γ:Base)(E:Nat→Nat)(st:St)(a:Act)(w:World):Prop where
 tm:TmpsOk E st.tmps a
 wt:wfTmps st.nx st.tmps=true
 df:Marks Γ a.defers w
 mm:SatM Γ E st.m st.nx w
theorem SatM.weaken {Γ Δ:Base} (hle:Γ.le Δ) {E:Nat→Nat} {m:Mem} {nx:Nat} {w:World} (h:SatM Δ E m nx w):SatM Γ E m nx w :=
 ⟨h.blk,h.inj,h.lt,fun k B hk hn hr=>by have:=h.own k B hk hn hr;rw[hle.m,hle.w] at this;exact this,by have:=h.ext;rw[hle.m,hle.w] at this;exact this,
  ⟨Nat.le_trans hle.nx h.cx.1,fun k hk=>(h.cx.2 k (Nat.lt_of_lt_of_le hk hle.nx)).trans (hle.e k hk)⟩,fun D hD=>h.kp D (hle.keep D hD)⟩
def Base.more (Γ:Base)(Ds:List Nat):Base:={Γ with keep:=Ds++Γ.keep}
theorem Base.le_more (Γ:Base)(Ds:List Nat):Γ.le (Γ.more Ds):=⟨rfl,rfl,Nat.le_refl _,fun _ _=>rfl,fun _D h=>List.mem_append_right _ h⟩
theorem SatM.more {Γ:Base} {E:Nat→Nat} {m:Mem} {nx:Nat} {w:World} (h:SatM Γ E m nx w) {Ds:List Nat} (hD: ∀ D∈ Ds,w.heap[D]?=some (.deferred (some []))):SatM (Γ.more Ds) E m nx w :=
 ⟨h.blk,h.inj,h.lt,h.own,h.ext,h.cx,fun D hm=>by rcases List.mem_append.1 hm with h1 | h1;exact hD D h1;exact h.kp D h1⟩
theorem Marks.kept {Γ:Base} {Ds:List Nat} {ds:List Deferred} (he:ds=Ds.map markOf++Γ.tail)(hn:Ds.Nodup)(hk: ∀ D∈ Ds,D∉ Γ.keep∧Γ.w0.heap.size≤D)(hrf:Γ.rf=false→Ds=[]) {E:Nat→Nat} {m:Mem} {nx:Nat} {w:World} (h:SatM (Γ.more Ds) E m nx w):Marks Γ ds w :=
 ⟨Ds,he,hn,fun D hD=>⟨h.kp D (List.mem_append_left _ hD),hk D hD⟩,hrf⟩
def guardOf (ops:Array Oper)(o:Oper)(tmps:List (Option SV)):Option Bool :=
 match o.guard with
 | none=>some true
 | some (j,want)=>(match ops[j]? with
   | some oj=>(match oj.dst with
     | some d=>(match slot tmps d with
       | some (.bool true b)=>some (b==want)
       | some (.tup [])=>some false
       | _=>none)
     | none=>none)
   | none=>none)
theorem guardOf_wanted {E:Nat→Nat} {ops:Array Oper} {o:Oper} {tmps:List (Option SV)} {a:Act} (h:TmpsOk E tmps a) {b:Bool} (hg:guardOf ops o tmps=some b) :
  Region.wanted o (yielded ops a.tmps)=b:=by
 unfold guardOf at hg
 unfold Region.wanted
 split at hg
 ·rename_i e;rw[e];injection hg
 ·rename_i j want e
  rw[e]
  split at hg
  ·rename_i oj hj
   split at hg
   ·rename_i d hd
    split at hg
    ·rename_i c hc
     have:=h.val d _ (slot_eq hc)
     injection hg with hg;subst hg
     simp[yielded,hj,hd,this,SV.val]
    ·rename_i hc
     have:=h.val d _ (slot_eq hc)
     injection hg with hg;subst hg
     simp[yielded,hj,hd,this,SV.val]
    ·cases hg
   ·cases hg
  ·cases hg
def isGuard (ops:Array Oper)(j:Nat):Bool:=ops.toList.any fun o=>match o.guard with
 | some (i,_)=>Nat.beq i j
 | none=>false
def putV (g:Bool)(v:Option SV)(nx:Nat)(k:Option SV→VC):VC :=
 match g,v with
 | true,some (.bool false b)=>fork b (fun c=>k (some (.bool true c)))
 | _,v=>match wfO nx v with
   | true=>k v
   | false=>.fail "a key out of bounds"
def putK (g:Bool)(dst:Option Nat)(v:Option SV)(tmps:List (Option SV))(m:Mem)(nx:Nat)(K:St→VC):VC :=
 putV g v nx (fun v=>K ⟨setSlot tmps dst v,m,nx⟩)
theorem putV_iff (g:Bool)(v:Option SV)(nx:Nat): ∃(p:Prop)(u:Option SV),(∀ k,(putV g v nx k).holds↔p∧(k u).holds)∧(p→wfO nx u=true)∧(∀(E:Nat→Nat)(r:Value),(∀ x,v=some x→r=x.val E)→∀ x,u=some x→r=x.val E):=by
 unfold putV
 split
 ·rename_i b
  exact⟨True,some (.bool true b),fun k=>by rw[fork_iff];exact⟨fun h=>⟨trivial,h⟩,fun h=>h.2⟩,fun _=>rfl,fun E r h x hx=>by injection hx with hx;subst hx;exact h (.bool false b) rfl⟩
 ·cases hw:wfO nx v with
  | true=>exact⟨True,v,fun k=>⟨fun h=>⟨trivial,h⟩,fun h=>h.2⟩,fun _=>hw,fun E r h=>h⟩
  | false=>exact⟨False,none,fun k=>⟨fun h=>h.elim,fun h=>h.1.elim⟩,fun h=>h.elim,fun E r h x hx=>by cases hx⟩
def lop (P:Program)(call:Cal→PT)(σ:Operand→Option SV)(m:Mem)(nx:Nat)(o:Op)(K:KL):VC :=
 match o with
 | .alloc t=>(match zeroSV P t with
   | some z=>lnew t z m nx K
   | none=>.fail "alloc")
 | .box t x=>need (σ x) (fun v=>lnew t v m nx K)
 | .buildSlice t len parts=>lbuildSlice P σ t len parts.toList m nx K
 | .makeSlice t x y=>need (σ x) (fun a=>need (σ y) (fun b=>lmake P t a b m nx K))
 | .store t a x=>lstore P t (σ a) (σ x) m nx K
 | .call c=>lcall P call σ c m nx K
 | .makeMap t r=>lmakeMap P t (r.map σ) m nx K
 | .mapUpdate t x k v=>lmapUpdate P t (σ x) (σ k) (σ v) m nx K
 | .insert t x k v=>lmapUpdate P t (σ x) (σ k) (σ v) m nx K
 | .mapEntry t x k=>lmapEntry P t (σ x) (σ k) m nx K
 | .entryStore _ x s v=>lentryStore (σ x) (σ s) (σ v) m nx K
 | .range t x=>lrange P t (σ x) m nx K
 | .next x b=>lnext (σ x) b m nx K
 | .panic x=>lpanic call (σ x) m nx
 | _=>.fail "no such operation"
theorem lop_ok {P:Program} {Γ:Base} {KP:PK} {call:Cal→PT} (hcall: ∀ c,COk P Γ KP c (call c)) {σ:Operand→Option SV} {m:Mem} {nx:Nat} (o:Oper):LOpP P Γ KP σ m nx o (lop P call σ m nx o.op):=by
 obtain⟨dst,op,type,pos,after,guard⟩:=o
 cases op
 case alloc t=>exact LOp.dull lalloc_ok
 case box t x=>exact LOp.dull lbox_ok
 case buildSlice t len parts=>exact LOp.dull lbuildSlice_ok
 case makeSlice t x y=>exact LOp.dull lmake_ok
 case store t a x=>exact LOp.dull lstore_ok
 case call c=>exact lcall_ok hcall
 case makeMap t r=>exact LOp.dull lmakeMap_ok
 case mapUpdate t x k v=>exact LOp.dull lmapUpdate_ok
 case insert t x k v=>exact LOp.dull linsert_ok
 case mapEntry t x k=>exact LOp.dull lmapEntry_ok
 case entryStore t x s v=>exact LOp.dull lentryStore_ok
 case range t x=>exact LOp.dull lrange_ok
 case next x b=>exact LOp.dull lnext_ok
 case panic x=>exact lpanic_ok hcall
 all_goals exact LOp.dull (LOp.fail _)
def stepOp (P:Program)(call:Cal→PT)(ops:Array Oper)(j:Nat)(o:Oper)(K:St→VC)(st:St):VC :=
 match guardOf ops o st.tmps with
 | some true=>(match isQuiet P o.op with
   | true=>qop P (fun k=>st.m.get k) (ev st.tmps) o.op (fun v=>putK (isGuard ops j) o.dst v st.tmps st.m st.nx K)
   | false=>(match Mem.wf st.nx st.m with
     | true=>lop P call (ev st.tmps) st.m st.nx o.op (fun v m nx=>putK (isGuard ops j) o.dst v st.tmps m nx K)
     | false=>.fail "a key out of bounds"))
 | some false=>K ⟨setSlot st.tmps o.dst (some (.tup [])),st.m,st.nx⟩
 | none=>.fail "a guard that is not known"
def Behind (K:St→VC)(Γ:Base)(E:Nat→Nat)(nx:Nat)(a:Act)(w:World):Prop :=
 ∃ E' st',(∀ k,k<nx→E' k=E k)∧nx≤st'.nx∧Sat Γ E' st' a w∧(K st').holds
theorem Behind.trans {K K':St→VC} {Γ:Base} {E:Nat→Nat} {nx:Nat} {a:Act} {w:World} (h:Behind K Γ E nx a w)
  (hk: ∀ E' st',nx≤st'.nx→Sat Γ E' st' a w→(K st').holds→Behind K' Γ E' st'.nx a w):Behind K' Γ E nx a w:=by
 obtain⟨E',st',h1,h2,h3,h4⟩:=h
 obtain⟨E'',st'',k1,k2,k3,k4⟩:=hk E' st' h2 h3 h4
 exact⟨E'',st'',fun k hk=>(k1 k (Nat.lt_of_lt_of_le hk h2)).trans (h1 k hk),Nat.le_trans h2 k2,k3,k4⟩
theorem putK_sound {K:St→VC} {Γ:Base} {E:Nat→Nat} {nx:Nat} {g:Bool} {dst:Option Nat} {sv:Option SV} {tmps:List (Option SV)} {m:Mem} {a:Act} {w:World} {r:Value}
  (h:(putK g dst sv tmps m nx K).holds) (ht:TmpsOk E tmps a) (hw:wfTmps nx tmps=true) (hd:Marks Γ a.defers w) (hm:SatM Γ E m nx w) (hr: ∀ v,sv=some v→r=v.val E) :
  Behind K Γ E nx (a.put dst r) w:=by
 have hdf:Marks Γ (a.put dst r).defers w:=by cases dst<;>exact hd
 obtain⟨p,u,h1,h2,h3⟩:=putV_iff g sv nx
 obtain⟨hp,hk⟩:=(h1 _).1 h
 exact⟨E,_,fun _ _=>rfl,Nat.le_refl _,⟨ht.put (h3 E r hr),wfTmps_setSlot hw (wfO_spec (h2 hp)),hdf,hm⟩,hk⟩
theorem quiet_noDefer {P:Program} {o:Oper} (h:isQuiet P o.op=true):noDefer o=true:=by
 unfold noDefer
 cases ho:o.op<;>first | rfl | (rw[ho] at h;cases h)
theorem lop_noDefer {P:Program} {call:Cal→PT} {σ:Operand→Option SV} {m:Mem} {nx:Nat} {o:Oper} {K:KL} (h:(lop P call σ m nx o.op K).holds):noDefer o=true:=by
 unfold noDefer
 cases ho:o.op<;>first | rfl | (rw[ho] at h;exact h.elim)
def BehindP (KP:PK)(Γ:Base)(E:Nat→Nat)(nx:Nat)(e:Exit)(a:Act)(w:World):Prop :=
 ∃ ch,e=.panic ch∧Marks Γ a.defers w∧AfterP KP Γ E nx ch w
theorem stepOp_sound {P:Program} {Γ:Base} {ro:Option Nat} {KP:PK} {call:Cal→PT} (hcall: ∀ c,COk P Γ KP c (call c)) {ops:Array Oper} {j:Nat} {o:Oper} {K:St→VC} {st:St} (h:(stepOp P call ops j o K st).holds)
  {E:Nat→Nat} {a:Act} {w:World} (hs:Sat Γ E st a w) (Q:Exit→Act→World→Prop) (hP: ∀ e w,BehindP KP Γ E st.nx e a w→Q e a w) :
  if Region.wanted o (yielded ops a.tmps)then o.wpIn (Fr ro) 0 P a w (fun a' w'=>(∃ r,a'=a.put o.dst r)∧Behind K Γ E st.nx a' w') Q else Behind K Γ E st.nx (a.put o.dst undef) w:=by
 unfold stepOp at h
 split at h
 ·rename_i hg
  rw[guardOf_wanted hs.tm hg,if_pos rfl]
  split at h
  ·rename_i hq
   obtain⟨obl,sv,h1,h2⟩:=qop_ok (P:=P) (look:=fun k=>st.m.get k) (σ:=ev st.tmps) o
   obtain⟨hobl,hk⟩:=(h1 _).1 h
   obtain⟨r,hrun,hv⟩:=h2 E w a.eval ⟨hs.mm.blk,hs.mm.glob⟩ hs.tm.reads hobl
   refine Out.wp (quiet_noDefer hq) (R:=fun v w'=>w'=w∧v=r) (RP:=fun _ _=>False) ?_ ?_ (fun _ _ h=>h.elim)
   ·rw[hrun];exact⟨rfl,rfl⟩
   ·rintro v w' ⟨rfl,rfl⟩
    exact⟨⟨_,rfl⟩,putK_sound hk hs.tm hs.wt hs.df hs.mm hv⟩
  ·split at h
   ·rename_i hwf
    obtain⟨Ds,d1,d2,d3,d4⟩:=hs.df
    have hm:=hs.mm.more fun D hD=>(d3 D hD).1
    have:=lop_ok (fun c=>(hcall c).mono (Γ.le_more Ds)) o _ E w a.eval h hm hwf (TmpsOk.wf hs.wt) hs.tm.reads
    refine Out.wp (lop_noDefer h) this ?_ ?_
    rotate_left
    ·rintro ch w' ⟨E',v,m',nx',g1,g2,g3,gw,g4,g5⟩
     exact hP _ _ ⟨ch,rfl,Marks.kept d1 d2 (fun D hD=>(d3 D hD).2) d4 g4,E',v,m',nx',g1,g2,g3,gw,g4.weaken (Γ.le_more Ds),g5⟩
    rintro r w' ⟨E',sv,m',nx',g1,g2,g3,g4,g5⟩
    have ht:=hs.tm.congr hs.wt g1
    obtain⟨E'',st',k1,k2,k3,k4⟩:=putK_sound g5 ht (wfTmps_mono g2 hs.wt) (Marks.kept d1 d2 (fun D hD=>(d3 D hD).2) d4 g4) (g4.weaken (Γ.le_more Ds)) g3
    exact⟨⟨_,rfl⟩,E'',st',fun k hk=>(k1 k (Nat.lt_of_lt_of_le hk g2)).trans (g1 k hk),Nat.le_trans g2 k2,k3,k4⟩
   ·exact h.elim
 ·rename_i hg
  rw[guardOf_wanted hs.tm hg]
  simp only[Bool.false_eq_true,if_false]
  exact⟨E,⟨setSlot st.tmps o.dst (some (.tup [])),st.m,st.nx⟩,fun _ _=>rfl,Nat.le_refl _,⟨hs.tm.put (sv:=some (.tup [])) (r:=undef) (fun v hv=>by injection hv with hv;subst hv;rfl),wfTmps_setSlot hs.wt (fun u hu=>by injection hu with hu;subst hu;rfl),by cases o.dst<;>exact hs.df,hs.mm⟩,h⟩
 ·exact h.elim
def seqOps (P:Program)(call:Cal→PT)(ops:Array Oper):List Nat→(St→VC)→St→VC
 | [],K,st=>K st
 | j::r,K,st=>match ops[j]? with
   | some o=>stepOp P call ops j o (seqOps P call ops r K) st
   | none=>.fail "no operation"
def unsure (ops:Array Oper)(tmps:List (Option SV)):List (Option SV):=ops.toList.foldl (fun t o=>setSlot t o.dst none) tmps
theorem setSlot_none {tmps:List (Option SV)} {d:Option Nat} {i:Nat} {v:SV} (h:(setSlot tmps d none)[i]?=some (some v)):tmps[i]?=some (some v)∧d≠some i:=by
 cases d with
 | none=>exact⟨h,fun e=>by cases e⟩
 | some d =>
   simp only[setSlot,List.getElem?_set] at h
   split at h
   ·split at h<;>cases h
   ·rename_i e;exact⟨h,fun x=>e (by injection x)⟩
theorem unsure_get {ops:Array Oper} {tmps:List (Option SV)} {i:Nat} {v:SV} (h:(unsure ops tmps)[i]?=some (some v)):tmps[i]?=some (some v)∧∀ o∈ ops.toList,o.dst≠some i:=by
 unfold unsure at h
 generalize ops.toList=l at h
 induction l generalizing tmps with
 | nil=>exact⟨h,fun o ho=>by cases ho⟩
 | cons x r ih =>
   obtain⟨h1,h2⟩:=ih h
   obtain⟨h3,h4⟩:=setSlot_none h1
   exact⟨h3,fun o ho=>by rcases List.mem_cons.1 ho with rfl | ho;exact h4;exact h2 o ho⟩
theorem unsure_len {ops:Array Oper} {tmps:List (Option SV)}:(unsure ops tmps).length=tmps.length:=by
 unfold unsure
 generalize ops.toList=l
 induction l generalizing tmps with
 | nil=>rfl
 | cons x r ih =>
   rw[List.foldl_cons,ih]
   cases x.dst<;>simp[setSlot]
theorem TmpsOk.unsure {E:Nat→Nat} {ops:Array Oper} {tmps:List (Option SV)} {a:Act} (h:TmpsOk E tmps a):TmpsOk E (unsure ops tmps) a :=
 ⟨by rw[unsure_len];exact h.size,fun i v hv=>h.val i v (unsure_get hv).1⟩
theorem TmpsOk.unsure_put {E:Nat→Nat} {ops:Array Oper} {tmps:List (Option SV)} {a:Act} (h:TmpsOk E (Sx.unsure ops tmps) a) {o:Oper} (ho:o∈ ops.toList)(r:Value):TmpsOk E (Sx.unsure ops tmps) (a.put o.dst r):=by
 cases hd:o.dst with
 | none=>exact h
 | some d =>
   refine⟨by simp[Act.put,h.size],fun i v hv=> ?_⟩
   simp only[Act.put]
   rw[Array.getElem?_setIfInBounds,if_neg (fun e=>(unsure_get hv).2 o ho (by rw[hd,e]))]
   exact h.val i v hv
theorem unsure_wf {nx:Nat} {ops:Array Oper} {tmps:List (Option SV)} (h:wfTmps nx tmps=true):wfTmps nx (unsure ops tmps)=true:=by
 unfold unsure
 generalize ops.toList=l
 induction l generalizing tmps with
 | nil=>exact h
 | cons x r ih=>exact ih (wfTmps_setSlot h fun u hu=>by cases hu)
theorem BehindP.weaken {KP:PK} {Γ:Base} {E E':Nat→Nat} {nx nx':Nat} {e:Exit} {a:Act} {w:World} (h:BehindP KP Γ E' nx' e a w)(hE: ∀ k,k<nx→E' k=E k)(hn:nx≤nx'):BehindP KP Γ E nx e a w:=by
 obtain⟨ch,h1,h2,h3⟩:=h
 exact⟨ch,h1,h2,h3.weaken hE hn⟩
theorem seqOps_sound {P:Program} {Γ:Base} {ro:Option Nat} {KP:PK} {call:Cal→PT} (hcall: ∀ c,COk P Γ KP c (call c)) {ops:Array Oper} {Q:Exit→Act→World→Prop} {K:St→VC} {E0:Nat→Nat} {nx0:Nat} {T0:List (Option SV)} (hT0:wfTmps nx0 T0=true)
  (hP: ∀ e a w,TmpsOk E0 (unsure ops T0) a→BehindP KP Γ E0 nx0 e a w→Q e a w) :
  ∀(l:List Nat) {st:St} {E:Nat→Nat} {a:Act} {w:World},(seqOps P call ops l K st).holds→Sat Γ E st a w→TmpsOk E0 (unsure ops T0) a→(∀ k,k<nx0→E k=E0 k)→nx0≤st.nx →
   (∀ a w,Behind K Γ E st.nx a w→Q .normal a w)→wpOpsIn (Fr ro) 0 P ops Q l a w
 | [],st,E,a,w,h,hs,_,_,_,hQ=>hQ _ _ ⟨E,st,fun _ _=>rfl,Nat.le_refl _,hs,h⟩
 | j::r,st,E,a,w,h,hs,hF,hE0,hn0,hQ=>by
   rw[wpOpsIn_cons]
   unfold wpOpIn
   simp only[seqOps] at h
   cases ho:ops[j]? with
   | none=>rw[ho] at h;exact h.elim
   | some o =>
     rw[ho] at h
     simp only
     have hmem:o∈ ops.toList:=by rw[← Array.getElem?_toList] at ho;exact List.mem_of_getElem? ho
     have hstep:=stepOp_sound (ro:=ro) hcall h hs Q (fun e w hb=>hP e a w hF (hb.weaken hE0 hn0))
     have go: ∀ a' w',((∃ r,a'=a.put o.dst r)∧Behind (seqOps P call ops r K) Γ E st.nx a' w')→wpOpsIn (Fr ro) 0 P ops Q r a' w':=by
      rintro a' w' ⟨⟨rr,ha⟩,E',st',g1,g2,g3,g4⟩
      refine seqOps_sound hcall hT0 hP r g4 g3 (ha▸ TmpsOk.unsure_put hF hmem rr) (fun k hk=>(g1 k (Nat.lt_of_lt_of_le hk hn0)).trans (hE0 k hk)) (Nat.le_trans hn0 g2) fun a'' w'' hb=>hQ a'' w'' ?_
      obtain⟨E'',st'',k1,k2,k3,k4⟩:=hb
      exact⟨E'',st'',fun k hk=>(k1 k (Nat.lt_of_lt_of_le hk g2)).trans (g1 k hk),Nat.le_trans g2 k2,k3,k4⟩
     split
     ·rename_i hw
      rw[if_pos hw] at hstep
      exact Oper.wpIn_mono go hstep
     ·rename_i hw
      rw[if_neg hw] at hstep
      exact⟨about_fr ro,go _ _ ⟨⟨_,rfl⟩,hstep⟩⟩
end
end Go.Proofs.YtoalfimkkibpdaaGreatDoor.Sx
