/-
  Rlp: which types are asked of internal/reflectlite.
-/
import Derived.Test.YtoalfimkkibpdaaGreatDoorProg
import Derived.KernelRfl
import Derived.Calls
import Derived.RangeFuncIn
import Derived.RangeFuncLeaves
import Derived.RangeFuncCalls
import Derived.OrdersIn
import Derived.Orders
import Derived.Laws.Sem
import Derived.Below
import Derived.MapKept
import Derived.Laws.StructEq
namespace Go.Proofs.YtoalfimkkibpdaaGreatDoor
open Go
def hB:Nat:=3
noncomputable def kindTab:List (Nat×Nat):=[(27,2),(272,22),(275,20),(276,22),(83,22),(98,22),(99,22),(213,22),(176,22)]
noncomputable def elemTab:List (Nat×Nat):=[(276,275),(83,27),(99,98)]
noncomputable def compTab:List (Nat×Bool):=[(27,true)]
noncomputable def implTab:List (Nat×Nat×Bool):=[(98,80,true),(27,80,true)]
noncomputable def assignTab:List (Nat×Nat×Bool):=[(213,27,false),(98,98,true),(27,27,true),
 (272,27,false),(272,275,true)]
noncomputable def noTab:List (Nat×Nat×Bool):=[(27,275,false)]
noncomputable def setTab:List (Nat×Nat×Bool):=[(98,98,false),(27,27,false),(275,272,true)]
end Go.Proofs.YtoalfimkkibpdaaGreatDoor
namespace Go.Proofs.YtoalfimkkibpdaaGreatDoor.Sx
open Go
noncomputable def globList:List (Nat×Array Value) :=
 (0,#[.iface 201 (.agg #[.pointer (some ⟨Tryz.prog.globals.size,80,none⟩)])]) ::
 (1,#[.int .u32 1116352408,.int .u32 1899447441,.int .u32 3049323471,.int .u32 3921009573,.int .u32 961987163,.int .u32 1508970993,.int .u32 2453635748,.int .u32 2870763221,.int .u32 3624381080,.int .u32 310598401,.int .u32 607225278,.int .u32 1426881987,.int .u32 1925078388,.int .u32 2162078206,.int .u32 2614888103,.int .u32 3248222580,.int .u32 3835390401,.int .u32 4022224774,.int .u32 264347078,.int .u32 604807628,.int .u32 770255983,.int .u32 1249150122,.int .u32 1555081692,.int .u32 1996064986,.int .u32 2554220882,.int .u32 2821834349,.int .u32 2952996808,.int .u32 3210313671,.int .u32 3336571891,.int .u32 3584528711,.int .u32 113926993,.int .u32 338241895,.int .u32 666307205,.int .u32 773529912,.int .u32 1294757372,.int .u32 1396182291,.int .u32 1695183700,.int .u32 1986661051,.int .u32 2177026350,.int .u32 2456956037,.int .u32 2730485921,.int .u32 2820302411,.int .u32 3259730800,.int .u32 3345764771,.int .u32 3516065817,.int .u32 3600352804,.int .u32 4094571909,.int .u32 275423344,.int .u32 430227734,.int .u32 506948616,.int .u32 659060556,.int .u32 883997877,.int .u32 958139571,.int .u32 1322822218,.int .u32 1537002063,.int .u32 1747873779,.int .u32 1955562222,.int .u32 2024104815,.int .u32 2227730452,.int .u32 2361852424,.int .u32 2428436474,.int .u32 2756734187,.int .u32 3204031479,.int .u32 3329325298]) ::
 []
end Go.Proofs.YtoalfimkkibpdaaGreatDoor.Sx
namespace Go.Proofs.YtoalfimkkibpdaaGreatDoor.Sx
open Go
inductive VC:Type 1 where
 | tt
 | fail (why:String)
 | atom (p:Prop)
 | and (a b:VC)
 | imp (p:Prop) (a:VC)
 | all (α:Type) (f:α→VC)
 | ex (α:Type) (f:α→VC)
def VC.holds:VC→Prop
 | .tt=>True
 | .fail _=>False
 | .atom p=>p
 | .and a b=>a.holds∧b.holds
 | .imp p a=>p→a.holds
 | .all α f=>∀ x:α,(f x).holds
 | .ex α f=>∃ x:α,(f x).holds
def fork (b:Bool)(f:Bool→VC):VC:=.and (.imp (b=true) (f true)) (.imp (b=false) (f false))
theorem fork_iff {b:Bool} {f:Bool→VC}:(fork b f).holds↔(f b).holds:=by
 constructor
 ·intro h;cases b
  ·exact h.2 rfl
  ·exact h.1 rfl
 ·intro h;cases b
  ·exact⟨fun e=>absurd e (by decide),fun _=>h⟩
  ·exact⟨fun _=>h,fun e=>absurd e (by decide)⟩
inductive SV where
 | int (k:IntKind) (l:Bool) (n:Int)
 | bool (l:Bool) (b:Bool)
 | str (l:Bool) (s:List UInt8)
 | ptr (key:Nat) (ol:Bool) (o:Nat)
 | eptr (key w i k:Nat)
 | aptr (key base n i:Nat)
 | nilptr
 | slc (key:Nat) (o n:Nat) (cl:Bool) (c:Nat)
 | rslc (key w:Nat) (z:Bool) (i n c:Nat)
 | vslc (key w:Nat) (z:Bool) (o i n c:Nat)
 | veptr (key w o i k:Nat)
 | nilslc
 | agg (cs:List SV)
 | tup (vs:List SV)
 | iface (t:TypeId) (v:SV)
 | niliface
 | func (fn:Fn) (first captured:List SV)
 | nilfunc
 | yield (key:Nat)
 | map (key:Nat)
 | nilmap
 | raw (v:Value)
mutual
def SV.val (E:Nat→Nat):SV→Value
 | .int k _ n=>.int k n
 | .bool _ b=>.bool b
 | .str _ s=>.string ⟨s.toArray⟩
 | .ptr key _ o=>.pointer (some ⟨E key,o,none⟩)
 | .eptr key w i k=>.pointer (some ⟨E key,i*w+k,none⟩)
 | .aptr key base _ i=>.pointer (some ⟨E key,base+i,none⟩)
 | .nilptr=>.pointer none
 | .slc key o n _ c=>.slice (some ⟨E key,o,none⟩) n c
 | .rslc key w z i n c=>.slice (bif z&&Nat.beq n 0 then none else some ⟨E key,i*w,none⟩) n (bif z&&Nat.beq n 0 then 0 else c)
 | .vslc key w z o i n c=>.slice (bif z&&Nat.beq n 0 then none else some ⟨E key,o+i*w,none⟩) n (bif z&&Nat.beq n 0 then 0 else c)
 | .veptr key w o i k=>.pointer (some ⟨E key,o+i*w+k,none⟩)
 | .nilslc=>.slice none 0 0
 | .agg cs=>.agg (SV.vals E cs).toArray
 | .tup vs=>.tuple (SV.vals E vs).toArray
 | .iface t v=>.iface t (v.val E)
 | .niliface=>.nilIface
 | .func fn a b=>.func fn (SV.vals E a).toArray (SV.vals E b).toArray
 | .nilfunc=>.nilFunc
 | .yield key=>.func (.yield (E key)) #[] #[]
 | .map key=>.map (some (E key))
 | .nilmap=>.map none
 | .raw v=>v
def SV.vals (E:Nat→Nat):List SV→List Value
 | []=>[]
 | x::r=>x.val E::SV.vals E r
end
theorem SV.vals_eq (E:Nat→Nat)(l:List SV):SV.vals E l=l.map (SV.val E):=by
 induction l with
 | nil=>rfl
 | cons x r ih=>simp[SV.vals,ih]
mutual
def SV.wf (nx:Nat):SV→Bool
 | .ptr key _ _=>Nat.blt key nx
 | .eptr key _ _ _=>Nat.blt key nx
 | .aptr key _ _ _=>Nat.blt key nx
 | .slc key _ _ _ _=>Nat.blt key nx
 | .rslc key _ _ _ _ _=>Nat.blt key nx
 | .vslc key _ _ _ _ _ _=>Nat.blt key nx
 | .veptr key _ _ _ _=>Nat.blt key nx
 | .map key=>Nat.blt key nx
 | .yield key=>Nat.blt key nx
 | .agg cs=>SV.wfs nx cs
 | .tup vs=>SV.wfs nx vs
 | .iface _ v=>v.wf nx
 | .func _ a b=>SV.wfs nx a&&SV.wfs nx b
 | _=>true
def SV.wfs (nx:Nat):List SV→Bool
 | []=>true
 | x::r=>x.wf nx&&SV.wfs nx r
end
mutual
theorem SV.val_congr {E E':Nat→Nat} {nx:Nat} (h: ∀ k,k<nx→E' k=E k):(v:SV)→v.wf nx=true→v.val E'=v.val E
 | .int ..,_=>rfl
 | .bool ..,_=>rfl
 | .str ..,_=>rfl
 | .ptr key _ _,hw=>by simp[SV.wf,Nat.blt_eq] at hw;simp[SV.val,h key hw]
 | .eptr key _ _ _,hw=>by simp[SV.wf,Nat.blt_eq] at hw;simp[SV.val,h key hw]
 | .aptr key _ _ _,hw=>by simp[SV.wf,Nat.blt_eq] at hw;simp[SV.val,h key hw]
 | .nilptr,_=>rfl
 | .slc key _ _ _ _,hw=>by simp[SV.wf,Nat.blt_eq] at hw;simp[SV.val,h key hw]
 | .rslc key _ _ _ _ _,hw=>by simp[SV.wf,Nat.blt_eq] at hw;simp[SV.val,h key hw]
 | .vslc key _ _ _ _ _ _,hw=>by simp[SV.wf,Nat.blt_eq] at hw;simp[SV.val,h key hw]
 | .veptr key _ _ _ _,hw=>by simp[SV.wf,Nat.blt_eq] at hw;simp[SV.val,h key hw]
 | .nilslc,_=>rfl
 | .agg cs,hw=>by simp only[SV.wf] at hw;simp only[SV.val,SV.vals_congr h cs hw]
 | .tup vs,hw=>by simp only[SV.wf] at hw;simp only[SV.val,SV.vals_congr h vs hw]
 | .iface _ v,hw=>by simp only[SV.wf] at hw;simp only[SV.val,SV.val_congr h v hw]
 | .niliface,_=>rfl
 | .func _ a b,hw=>by simp only[SV.wf,Bool.and_eq_true] at hw;simp only[SV.val,SV.vals_congr h a hw.1,SV.vals_congr h b hw.2]
 | .nilfunc,_=>rfl
 | .map key,hw=>by simp[SV.wf,Nat.blt_eq] at hw;simp[SV.val,h key hw]
 | .yield key,hw=>by simp[SV.wf,Nat.blt_eq] at hw;simp[SV.val,h key hw]
 | .nilmap,_=>rfl
 | .raw _,_=>rfl
theorem SV.vals_congr {E E':Nat→Nat} {nx:Nat} (h: ∀ k,k<nx→E' k=E k):(l:List SV)→SV.wfs nx l=true→SV.vals E' l=SV.vals E l
 | [],_=>rfl
 | x::r,hw=>by simp only[SV.wfs,Bool.and_eq_true] at hw;simp only[SV.vals,SV.val_congr h x hw.1,SV.vals_congr h r hw.2]
end
mutual
theorem SV.wf_mono {n m:Nat} (h:n≤m):(v:SV)→v.wf n=true→v.wf m=true
 | .int ..,_=>rfl
 | .bool ..,_=>rfl
 | .str ..,_=>rfl
 | .ptr key _ _,hw=>by simp[SV.wf,Nat.blt_eq] at hw ⊢;omega
 | .eptr key _ _ _,hw=>by simp[SV.wf,Nat.blt_eq] at hw ⊢;omega
 | .aptr key _ _ _,hw=>by simp[SV.wf,Nat.blt_eq] at hw ⊢;omega
 | .nilptr,_=>rfl
 | .slc key _ _ _ _,hw=>by simp[SV.wf,Nat.blt_eq] at hw ⊢;omega
 | .rslc key _ _ _ _ _,hw=>by simp[SV.wf,Nat.blt_eq] at hw ⊢;omega
 | .vslc key _ _ _ _ _ _,hw=>by simp[SV.wf,Nat.blt_eq] at hw ⊢;omega
 | .veptr key _ _ _ _,hw=>by simp[SV.wf,Nat.blt_eq] at hw ⊢;omega
 | .nilslc,_=>rfl
 | .agg cs,hw=>by simp only[SV.wf] at hw ⊢;exact SV.wfs_mono h cs hw
 | .tup vs,hw=>by simp only[SV.wf] at hw ⊢;exact SV.wfs_mono h vs hw
 | .iface _ v,hw=>by simp only[SV.wf] at hw ⊢;exact SV.wf_mono h v hw
 | .niliface,_=>rfl
 | .func _ a b,hw=>by simp only[SV.wf,Bool.and_eq_true] at hw ⊢;exact⟨SV.wfs_mono h a hw.1,SV.wfs_mono h b hw.2⟩
 | .nilfunc,_=>rfl
 | .map key,hw=>by simp[SV.wf,Nat.blt_eq] at hw ⊢;omega
 | .yield key,hw=>by simp[SV.wf,Nat.blt_eq] at hw ⊢;omega
 | .nilmap,_=>rfl
 | .raw _,_=>rfl
theorem SV.wfs_mono {n m:Nat} (h:n≤m):(l:List SV)→SV.wfs n l=true→SV.wfs m l=true
 | [],_=>rfl
 | x::r,hw=>by simp only[SV.wfs,Bool.and_eq_true] at hw ⊢;exact⟨SV.wf_mono h x hw.1,SV.wfs_mono h r hw.2⟩
end
def SV.isCell:SV→Bool
 | .agg _ | .tup _=>false
 | .raw (.pointer _)=>true
 | .raw _=>false
 | _=>true
theorem SV.isCell_one {E:Nat→Nat} {v:SV} (h:v.isCell=true):(v.val E).oneCell'=true:=by
 cases v
 case raw u=>cases u<;>simp_all [SV.isCell,SV.val,Value.oneCell']
 all_goals simp_all [SV.isCell,SV.val,Value.oneCell']
def SV.cells:SV→List SV
 | .agg cs=>cs
 | v=>[v]
def SV.plain:SV→Bool
 | .raw (.pointer _)=>true
 | .raw _=>false
 | _=>true
theorem SV.cells_val {E:Nat→Nat} {v:SV} (h:v.plain=true):(v.val E).cells=(v.cells.map (SV.val E)).toArray:=by
 cases v
 case raw u=>cases u<;>simp_all [SV.plain,SV.cells,SV.val,Value.cells]
 all_goals simp_all [SV.plain,SV.cells,SV.val,Value.cells,SV.vals_eq]
def SV.ofCell:Value→Option SV
 | .int k n=>some (.int k true n)
 | .bool b=>some (.bool true b)
 | .string s=>some (.str true s.data.toList)
 | .pointer none=>some .nilptr
 | .slice none 0 0=>some .nilslc
 | .map none=>some .nilmap
 | .nilFunc=>some .nilfunc
 | .nilIface=>some .niliface
 | _=>none
def SV.ofCells:List Value→Option (List SV)
 | []=>some []
 | v::r=>match SV.ofCell v,SV.ofCells r with
   | some x,some l=>some (x::l)
   | _,_=>none
def SV.ofConst:Value→Option SV
 | .agg cs=>match SV.ofCells cs.toList with
   | some l=>some (.agg l)
   | none=>none
 | v=>SV.ofCell v
theorem SV.ofCell_val {E:Nat→Nat} {v:Value} {x:SV} (h:SV.ofCell v=some x):x.val E=v:=by
 unfold SV.ofCell at h
 split at h<;>first | (injection h with h;subst h;simp[SV.val];done) | cases h
theorem SV.ofCells_val {E:Nat→Nat} {l:List Value} {xs:List SV} (h:SV.ofCells l=some xs):xs.map (SV.val E)=l:=by
 induction l generalizing xs with
 | nil=>simp[SV.ofCells] at h;subst h;rfl
 | cons v r ih =>
   simp only[SV.ofCells] at h
   split at h
   ·rename_i x l' hx hl
    injection h with h;subst h
    simp[SV.ofCell_val hx,ih hl]
   ·cases h
theorem SV.ofConst_val {E:Nat→Nat} {v:Value} {x:SV} (h:SV.ofConst v=some x):x.val E=v:=by
 unfold SV.ofConst at h
 split at h
 ·split at h
  ·rename_i cs l hl
   injection h with h;subst h
   have:=SV.ofCells_val (E:=E) hl
   simp[SV.val,SV.vals_eq,this]
  ·cases h
 ·exact SV.ofCell_val h
inductive Col where
 | int (k:IntKind) (f:Nat→Int)
 | bool (f:Nat→Bool)
 | str (f:Nat→List UInt8)
 | raw (f:Nat→Value)
def Col.at (i:Nat):Col→SV
 | .int k f=>.int k false (f i)
 | .bool f=>.bool false (f i)
 | .str f=>.str false (f i)
 | .raw f=>.raw (f i)
theorem Col.at_wf (i nx:Nat)(c:Col):(c.at i).wf nx=true:=by cases c<;>rfl
inductive FCol where
 | int (k:IntKind) (g:List UInt8→Int)
 | raw (g:List UInt8→Value)
def FCol.val (s:List UInt8):FCol→Value
 | .int k g=>.int k (g s)
 | .raw g=>g s
def strV (s:List UInt8):Value:=.string ⟨s.toArray⟩
structure FmOk (d:List UInt8→Bool)(c:FCol)(pend:Option (List UInt8×Int))(es:Array MapEntry)(clock:Nat):Prop where
 st:MapKept.Stamped es clock
 ks: ∀ x∈ es.toList,MapKept.IsKey .string x.key
 has: ∀ s,d s=true→∃ e∈ es.toList,e.key=strV s∧e.val=c.val s
 no: ∀ s,d s=false→∀ e∈ es.toList,e.key≠strV s
 pd: ∀ s b,pend=some (s,b)→∃ e∈ es.toList,(e.born:Int)=b∧e.key=strV s
inductive SB where
 | cells (cs:List SV) (tot:Nat) (ty:TypeId)
 | rows (z:Bool) (n:Nat) (cols:List Col) (ro:Bool) (tot:Nat) (ty:TypeId)
 | view (z:Bool) (o n:Nat) (cols:List Col)
 | loop (st:LoopState) (pend:Option Code) (R:Loop)
 | map (es:List (Nat×SV×SV)) (clock:Nat)
 | fmap (d:List UInt8→Bool) (c:FCol) (pend:Option (List UInt8×Int))
 | mit (mp:Option Nat) (since:Nat) (seen:List Nat) (last:Nat)
def esWf (nx:Nat):List (Nat×SV×SV)→Bool
 | []=>true
 | e::r=>e.2.1.wf nx&&e.2.2.wf nx&&esWf nx r
def SB.ro:SB→Bool
 | .cells .. =>false
 | .rows _ _ _ ro _ _=>ro
 | .view .. =>true
 | _=>false
def SB.no:SB→Bool
 | .cells .. =>false
 | .rows z n _ _ _ _=>z&&Nat.beq n 0
 | .view z _ n _=>z&&Nat.beq n 0
 | _=>false
theorem SB.no_rows {z:Bool} {n:Nat} {cols:List Col} {ro:Bool} {tot:Nat} {ty:TypeId} {i:Nat} (h:i<n):(SB.rows z n cols ro tot ty).no=false:=by
 have:Nat.beq n 0=false:=by cases n with
  | zero=>omega
  | succ n=>rfl
 simp[SB.no,this]
theorem SB.no_view {z:Bool} {n:Nat} {cols:List Col} {o i:Nat} (h:i<n):(SB.view z o n cols).no=false:=by
 have:Nat.beq n 0=false:=by cases n with
  | zero=>omega
  | succ n=>rfl
 simp[SB.no,this]
def SB.wf (nx:Nat):SB→Bool
 | .cells cs _ _=>SV.wfs nx cs
 | .rows .. =>true
 | .view .. =>true
 | .loop .. =>true
 | .map es _=>esWf nx es
 | .fmap .. =>true
 | .mit mp _ _ _=>match mp with
   | some k=>Nat.blt k nx
   | none=>true
abbrev Mem:=List (Nat×SB)
def Mem.get (key:Nat):Mem→Option SB
 | []=>none
 | e::r=>if e.1=key then some e.2 else Mem.get key r
def Mem.put (key:Nat)(B:SB):Mem→Mem
 | []=>[]
 | e::r=>if e.1=key then(e.1,B)::r else e::Mem.put key B r
def Mem.drop (key:Nat):Mem→Mem
 | []=>[]
 | e::r=>if e.1=key then Mem.drop key r else e::Mem.drop key r
def Mem.wf (nx:Nat):Mem→Bool
 | []=>true
 | e::r=>e.2.wf nx&&Mem.wf nx r
theorem Mem.get_put {key:Nat} {B:SB} {m:Mem} {k:Nat} {X:SB} (h:(Mem.put key B m).get k=some X) :
  (k=key∧X=B∧(m.get k).isSome)∨(k≠key∧m.get k=some X):=by
 induction m with
 | nil=>simp[Mem.put,Mem.get] at h
 | cons e r ih =>
   by_cases he:e.1=key
   ·by_cases hk:key=k
    ·subst hk
     rw[Mem.put,if_pos he,Mem.get,if_pos he] at h
     injection h with h
     exact .inl ⟨rfl,h.symm,by rw[Mem.get,if_pos he];rfl⟩
    ·rw[Mem.put,if_pos he,Mem.get,if_neg (fun x=>hk (he.symm.trans x))] at h
     rw[Mem.get,if_neg (fun x=>hk (he.symm.trans x))]
     exact .inr ⟨fun e=>hk e.symm,h⟩
   ·rw[Mem.put,if_neg he] at h
    by_cases hk:e.1=k
    ·rw[Mem.get,if_pos hk] at h ⊢
     exact .inr ⟨fun e=>he (hk.trans e),h⟩
    ·rw[Mem.get,if_neg hk] at h ⊢
     exact ih h
theorem Mem.get_put_ne {key:Nat} {B:SB} {m:Mem} {k:Nat} (h:k≠key):(Mem.put key B m).get k=m.get k:=by
 induction m with
 | nil=>rfl
 | cons e r ih =>
   by_cases he:e.1=key
   ·rw[Mem.put,if_pos he,Mem.get,if_neg (fun x=>h (x.symm.trans he)),Mem.get,if_neg (fun x=>h (x.symm.trans he))]
   ·rw[Mem.put,if_neg he]
    by_cases hk:e.1=k
    ·rw[Mem.get,if_pos hk,Mem.get,if_pos hk]
    ·rw[Mem.get,if_neg hk,Mem.get,if_neg hk];exact ih
theorem Mem.get_drop {key:Nat} {m:Mem} {k:Nat} {X:SB} (h:(Mem.drop key m).get k=some X):k≠key∧m.get k=some X:=by
 induction m with
 | nil=>simp[Mem.drop,Mem.get] at h
 | cons e r ih =>
   by_cases he:e.1=key
   ·rw[Mem.drop,if_pos he] at h
    have:=ih h
    refine⟨this.1,?_⟩
    rw[Mem.get,if_neg (fun e=>this.1 (e.symm.trans he))];exact this.2
   ·rw[Mem.drop,if_neg he] at h
    by_cases hk:e.1=k
    ·rw[Mem.get,if_pos hk] at h ⊢
     exact⟨fun e=>he (hk.trans e),h⟩
    ·rw[Mem.get,if_neg hk] at h ⊢
     exact ih h
theorem Mem.wf_get {nx:Nat} {m:Mem} (h:m.wf nx=true) {k:Nat} {B:SB} (hg:m.get k=some B):B.wf nx=true:=by
 induction m with
 | nil=>cases hg
 | cons e r ih =>
   simp only[Mem.wf,Bool.and_eq_true] at h
   by_cases hk:e.1=k
   ·simp only[Mem.get,hk,if_true] at hg;injection hg with hg;subst hg;exact h.1
   ·simp only[Mem.get,hk,if_false] at hg;exact ih h.2 hg
def ents (E:Nat→Nat)(es:List (Nat×SV×SV)):List MapEntry:=es.map fun p=>{key:=p.2.1.val E,val:=p.2.2.val E,born:=p.1}
def BlkOk (E:Nat→Nat):SB→Obj→Prop
 | .cells cs tot ty,o=>∃ c fr,o=.cells c ty fr∧(∀ i,c.size≤i∨¬ (fr.1≤i∧i<fr.2)) ∧
    (∀(i:Nat) (v:SV),cs[i]?=some v→c[i]?=some (v.val E))∧c.size=tot
 | .rows _ n cols ro tot ty,o=>∃ c fr,o=.cells c ty fr∧(ro=false→∀ i,c.size≤i∨¬ (fr.1≤i∧i<fr.2)) ∧
    n*cols.length≤c.size∧c.size=tot∧(∀(i k:Nat) (col:Col),i<n→cols[k]?=some col→c[i*cols.length+k]?=some ((col.at i).val E))
 | .view _ o n cols,ob=>∃ c ty fr,ob=.cells c ty fr∧(∀(i k:Nat) (col:Col),i<n→cols[k]?=some col→c[o+i*cols.length+k]?=some ((col.at i).val E))
 | .loop st pend R,ob=>ob=.loop {R with state:=st,pending:=pend}
 | .map es clock,ob=>ob=.map (ents E es).toArray clock
 | .fmap d c pend,ob=>∃ es clock,ob=.map es clock∧FmOk d c pend es clock
 | .mit mp since seen last,ob=>ob=.mapIter (mp.map E) since seen.toArray last
theorem ents_congr {E E':Nat→Nat} {nx:Nat} (h: ∀ k,k<nx→E' k=E k): ∀ {es:List (Nat×SV×SV)},esWf nx es=true→ents E' es=ents E es
 | [],_=>rfl
 | e::r,hw=>by
   simp only[esWf,Bool.and_eq_true] at hw
   have:=ents_congr h hw.2
   simp only[ents,List.map_cons] at this ⊢
   rw[SV.val_congr h _ hw.1.1,SV.val_congr h _ hw.1.2,this]
theorem esWf_mono {n m:Nat} (h:n≤m): ∀ {es:List (Nat×SV×SV)},esWf n es=true→esWf m es=true
 | [],_=>rfl
 | e::r,hw=>by
   simp only[esWf,Bool.and_eq_true] at hw ⊢
   exact⟨⟨SV.wf_mono h _ hw.1.1,SV.wf_mono h _ hw.1.2⟩,esWf_mono h hw.2⟩
theorem SB.wf_mono {n m:Nat} (h:n≤m) {B:SB} (hw:B.wf n=true):B.wf m=true:=by
 cases B with
 | cells cs tot ty=>exact SV.wfs_mono h cs hw
 | map es c=>exact esWf_mono h hw
 | mit mp a b c=>cases mp with
   | none=>rfl
   | some k=>simp only[SB.wf,Nat.blt_eq] at hw ⊢;omega
 | _=>rfl
theorem SV.wfs_get {nx:Nat} {l:List SV} (h:SV.wfs nx l=true) {i:Nat} {v:SV} (hg:l[i]?=some v):v.wf nx=true:=by
 induction l generalizing i with
 | nil=>cases hg
 | cons x r ih =>
   simp only[SV.wfs,Bool.and_eq_true] at h
   cases i with
   | zero=>simp at hg;subst hg;exact h.1
   | succ i=>exact ih h.2 (by simpa using hg)
theorem BlkOk.congr {E E':Nat→Nat} {nx:Nat} (h: ∀ k,k<nx→E' k=E k) {B:SB} (hw:B.wf nx=true) {o:Obj} (hb:BlkOk E B o):BlkOk E' B o:=by
 cases B with
 | cells cs tot ty =>
   obtain⟨c,fr,rfl,h1,h2,h3⟩:=hb
   exact⟨c,fr,rfl,h1,fun i v hv=>by rw[SV.val_congr h v (SV.wfs_get hw hv)];exact h2 i v hv,h3⟩
 | rows z n cols ro tot ty =>
   obtain⟨c,fr,rfl,h1,h2,ht,h3⟩:=hb
   exact⟨c,fr,rfl,h1,h2,ht,fun i k col hi hk=>by rw[SV.val_congr h _ (Col.at_wf i nx col)];exact h3 i k col hi hk⟩
 | view z o n cols =>
   obtain⟨c,ty,fr,rfl,h3⟩:=hb
   exact⟨c,ty,fr,rfl,fun i k col hi hk=>by rw[SV.val_congr h _ (Col.at_wf i nx col)];exact h3 i k col hi hk⟩
 | loop st pend R=>exact hb
 | map es clock=>subst hb;show _=_;rw[ents_congr h hw]
 | fmap=>exact hb
 | mit mp since seen last =>
   subst hb
   cases mp with
   | none=>rfl
   | some k =>
     have hk:k<nx:=by simpa only[SB.wf,Nat.blt_eq] using hw
     show Obj.mapIter _ _ _ _=Obj.mapIter _ _ _ _
     simp only[Option.map_some,h k hk]
theorem BlkOk.not_mark {E:Nat→Nat} {B:SB} {o:Obj} (h:BlkOk E B o)(ds:Option (List Deferred)):o≠.deferred ds:=by
 cases B with
 | cells=>obtain⟨c,fr,rfl,_⟩:=h;intro e;cases e
 | rows=>obtain⟨c,fr,rfl,_⟩:=h;intro e;cases e
 | view=>obtain⟨c,ty,fr,rfl,_⟩:=h;intro e;cases e
 | loop=>subst h;intro e;cases e
 | map=>subst h;intro e;cases e
 | fmap=>obtain⟨es,c,rfl,_⟩:=h;intro e;cases e
 | mit=>subst h;intro e;cases e
structure Ext (M:Nat→Prop)(w w':World):Prop where
 os:w'.os=w.os
 tape:w'.tape=w.tape
 output:w'.output=w.output
 size:w.heap.size≤w'.heap.size
 block: ∀ k,k<w.heap.size→¬ M k→w'.heap[k]?=w.heap[k]?
theorem Ext.refl (M:Nat→Prop)(w:World):Ext M w w:=⟨rfl,rfl,rfl,Nat.le_refl _,fun _ _ _=>rfl⟩
theorem Ext.trans {M:Nat→Prop} {a b c:World} (h:Ext M a b)(k:Ext M b c):Ext M a c :=
 ⟨k.os.trans h.os,k.tape.trans h.tape,k.output.trans h.output,Nat.le_trans h.size k.size,
  fun i hi hm=>(k.block i (Nat.lt_of_lt_of_le hi h.size) hm).trans (h.block i hi hm)⟩
theorem Ext.below {M:Nat→Prop} {a b:World} (h:Ext M a b)(hM: ∀ k,¬ M k):RowKit.Below a.heap.size a b :=
 ⟨h.os,h.tape,h.output,h.size,fun k hk=>h.block k hk (hM k)⟩
theorem Ext.of_below {M:Nat→Prop} {a b:World} (h:RowKit.Below a.heap.size a b):Ext M a b :=
 ⟨h.os,h.tape,h.output,h.size,fun k hk _=>h.block k hk⟩
def GlobOk (w:World):Prop:=∀ p∈ globList,∃ c ty fr,w.heap[p.1]?=some (.cells c ty fr)∧∀(i:Nat)(v:Value),p.2[i]?=some v→c[i]?=some v
structure Base where
 w0:World
 M0:Nat→Prop
 E0:Nat→Nat
 nx0:Nat
 keep:List Nat
 gl:GlobOk w0
 gm: ∀ p∈ globList,¬ M0 p.1
 tail:List Deferred:=[]
 rf:Bool:=true
def Base.own (Γ:Base):Base:={Γ with tail:=[],rf:=true}
structure Base.le (Γ Δ:Base):Prop where
 w:Δ.w0=Γ.w0
 m:Δ.M0=Γ.M0
 nx:Γ.nx0≤Δ.nx0
 e: ∀ k,k<Γ.nx0→Δ.E0 k=Γ.E0 k
 keep: ∀ D,D∈ Γ.keep→D∈ Δ.keep
theorem Base.le_refl (Γ:Base):Γ.le Γ:=⟨rfl,rfl,Nat.le_refl _,fun _ _=>rfl,fun _ h=>h⟩
theorem Base.le_trans {Γ Δ Θ:Base} (h:Γ.le Δ)(h':Δ.le Θ):Γ.le Θ :=
 ⟨h'.w.trans h.w,h'.m.trans h.m,Nat.le_trans h.nx h'.nx,fun k hk=>(h'.e k (Nat.lt_of_lt_of_le hk h.nx)).trans (h.e k hk),fun D hD=>h'.keep D (h.keep D hD)⟩
structure SatM (Γ:Base)(E:Nat→Nat)(m:Mem)(nx:Nat)(w:World):Prop where
 blk: ∀ k B,m.get k=some B→B.no=false→∃ o,w.heap[E k]?=some o∧BlkOk E B o
 inj: ∀ k k' B B',m.get k=some B→B.no=false→m.get k'=some B'→B'.no=false→(B.ro=false∨B'.ro=false)→E k=E k'→k=k'
 lt: ∀ k B,m.get k=some B→k<nx
 own: ∀ k B,m.get k=some B→B.no=false→B.ro=false→Γ.M0 (E k)∨Γ.w0.heap.size≤E k
 ext:Ext Γ.M0 Γ.w0 w
 cx:Γ.nx0≤nx∧∀ k,k<Γ.nx0→E k=Γ.E0 k
 kp: ∀ D∈ Γ.keep,w.heap[D]?=some (.deferred (some []))
theorem Base.own_le (Γ:Base):Γ.le Γ.own:=⟨rfl,rfl,Nat.le_refl _,fun _ _=>rfl,fun _ h=>h⟩
theorem SatM.own' {Γ E m nx w} (h:SatM Γ E m nx w):SatM Γ.own E m nx w:=⟨h.blk,h.inj,h.lt,h.own,h.ext,h.cx,h.kp⟩
theorem SatM.unown {Γ:Base} {E m nx w} (h:SatM Γ.own E m nx w):SatM Γ E m nx w:=⟨h.blk,h.inj,h.lt,h.own,h.ext,h.cx,h.kp⟩
theorem SatM.glob {Γ E m nx w} (h:SatM Γ E m nx w):GlobOk w:=fun p hp=>by
 obtain⟨c,ty,fr,hg,hc⟩:=Γ.gl p hp
 exact⟨c,ty,fr,by rw[h.ext.block p.1 (Array.getElem?_eq_some_iff.1 hg).1 (Γ.gm p hp)];exact hg,hc⟩
theorem SatM.drew {Γ E m nx w} (h:SatM Γ E m nx w)(n:Nat):SatM Γ E m nx {w with drawn:=n} :=
 ⟨h.blk,h.inj,h.lt,h.own,⟨h.ext.os,h.ext.tape,h.ext.output,h.ext.size,h.ext.block⟩,h.cx,h.kp⟩
theorem SatM.sub {Γ E m nx w} (h:SatM Γ E m nx w) {m':Mem} (hs: ∀ k B,m'.get k=some B→m.get k=some B) {nx':Nat}
  (hn: ∀ k B,m'.get k=some B→k<nx') (hnx:nx≤nx'∨Γ.nx0≤nx'):SatM Γ E m' nx' w :=
 ⟨fun k B hk=>h.blk k B (hs k B hk),fun k k' B B' hk hn hk'=>h.inj k k' B B' (hs _ _ hk) hn (hs _ _ hk'),hn,fun k B hk=>h.own k B (hs k B hk),h.ext,⟨by rcases hnx with h1 | h1;exact Nat.le_trans h.cx.1 h1;exact h1,h.cx.2⟩,h.kp⟩
theorem Mem.get_cons {k0:Nat} {B0:SB} {m:Mem} {k:Nat} {B:SB} (h:Mem.get k ((k0,B0)::m)=some B):(k=k0∧B=B0)∨(k≠k0∧m.get k=some B):=by
 by_cases e:k0=k
 ·simp only[Mem.get,e,if_true] at h;injection h with h;exact .inl ⟨e.symm,h.symm⟩
 ·simp only[Mem.get,e,if_false] at h;exact .inr ⟨fun x=>e x.symm,h⟩
theorem SatM.push {Γ E m nx w} (h:SatM Γ E m nx w)(hw:Mem.wf nx m=true) {m':Mem} (hsub: ∀ k B,m'.get k=some B→m.get k=some B) {b:Nat} {B:SB} {w':World}
  (hE: ∀ k X,m'.get k=some X→X.no=false→E k≠b) (hkeep: ∀ i,i≠b→i<w.heap.size→w'.heap[i]?=w.heap[i]?) (hx:Ext Γ.M0 Γ.w0 w')
  (hown:B.no=false→B.ro=false→Γ.M0 b∨Γ.w0.heap.size≤b) (hkb: ∀ D∈ Γ.keep,D≠b)
  (hB:B.no=false→∃ o,w'.heap[b]?=some o∧BlkOk (fun k=>if k=nx then b else E k) B o) :
  SatM Γ (fun k=>if k=nx then b else E k) ((nx,B)::m') (nx+1) w':=by
 have hE': ∀ k,k<nx→(fun k=>if k=nx then b else E k) k=E k:=fun k hk=>by simp[Nat.ne_of_lt hk]
 refine⟨?_,?_,?_,?_,hx,⟨Nat.le_succ_of_le h.cx.1,fun k hk=>(hE' k (Nat.lt_of_lt_of_le hk h.cx.1)).trans (h.cx.2 k hk)⟩,fun D hD=>by
  have hd:=h.kp D hD
  rw[hkeep D (hkb D hD) (Array.getElem?_eq_some_iff.1 hd).1];exact hd⟩
 ·intro k X hk hn
  rcases Mem.get_cons hk with ⟨rfl,rfl⟩ | ⟨hne,hk⟩
  ·simp only[if_true];exact hB hn
  ·obtain⟨o,ho,hb⟩:=h.blk k X (hsub k X hk) hn
   refine⟨o,?_,hb.congr hE' (Mem.wf_get hw (hsub k X hk))⟩
   simp only[hne,if_false]
   rw[hkeep _ (hE k X hk hn) (Array.getElem?_eq_some_iff.1 ho).1];exact ho
 ·intro k k' X X' hk hn hk' hn' hr e
  rcases Mem.get_cons hk with ⟨e1,_⟩ | ⟨hne,hk1⟩<;>rcases Mem.get_cons hk' with ⟨e2,_⟩ | ⟨hne',hk1'⟩
  ·exact e1.trans e2.symm
  ·subst e1
   simp only[if_true,hne',if_false] at e
   exact absurd e.symm (hE k' X' hk1' hn')
  ·subst e2
   simp only[if_true,hne,if_false] at e
   exact absurd e (hE k X hk1 hn)
  ·simp only[hne,hne',if_false] at e
   exact h.inj k k' X X' (hsub _ _ hk1) hn (hsub _ _ hk1') hn' hr e
 ·intro k X hk
  rcases Mem.get_cons hk with ⟨rfl,rfl⟩ | ⟨hne,hk⟩
  ·omega
  ·have:=h.lt k X (hsub k X hk);omega
 ·intro k X hk hn hro
  rcases Mem.get_cons hk with ⟨rfl,rfl⟩ | ⟨hne,hk⟩
  ·simp only[if_true];exact hown hn hro
  ·simp only[hne,if_false];exact h.own k X (hsub k X hk) hn hro
theorem SatM.alloc {Γ E m nx w} (h:SatM Γ E m nx w)(hw:Mem.wf nx m=true) {B:SB} {o:Obj}
  (hB:BlkOk (fun k=>if k=nx then w.heap.size else E k) B o) :
  SatM Γ (fun k=>if k=nx then w.heap.size else E k) ((nx,B)::m) (nx+1) {w with heap:=w.heap.push o}:=by
 refine h.push hw (fun _ _ h=>h) (fun k X hk hn=> ?_) (fun i hi hlt=> ?_) ⟨h.ext.os,h.ext.tape,h.ext.output,?_,fun k hk hm=> ?_⟩ (fun _ _=>.inr h.ext.size) (fun D hD=>Nat.ne_of_lt (Array.getElem?_eq_some_iff.1 (h.kp D hD)).1) fun _=>⟨o,by simp,hB⟩
 ·obtain⟨o',ho,_⟩:=h.blk k X hk hn
  exact Nat.ne_of_lt (Array.getElem?_eq_some_iff.1 ho).1
 ·show(w.heap.push o)[i]?=_
  rw[Array.getElem?_push,if_neg hi]
 ·have:=h.ext.size;simp;omega
 ·show(w.heap.push o)[k]?=_
  have:=h.ext.size
  rw[Array.getElem?_push,if_neg (by omega)];exact h.ext.block k hk hm
theorem SatM.not_mark {Γ E m nx w} (h:SatM Γ E m nx w) {k:Nat} {B:SB} (hk:m.get k=some B)(hn:B.no=false): ∀ D∈ Γ.keep,D≠E k:=fun D hD e=>by
 obtain⟨o,ho,hb⟩:=h.blk k B hk hn
 have:=h.kp D hD
 rw[e,ho] at this
 exact hb.not_mark _ (Option.some.inj this)
theorem SatM.extWrite {Γ E m nx w} (h:SatM Γ E m nx w) {k:Nat} {B:SB} (hk:m.get k=some B)(hn:B.no=false)(hro:B.ro=false)(o:Obj) :
  Ext Γ.M0 Γ.w0 {w with heap:=w.heap.setIfInBounds (E k) o}:=by
 refine⟨h.ext.os,h.ext.tape,h.ext.output,by simpa using h.ext.size,fun i hi hm=> ?_⟩
 show(w.heap.setIfInBounds (E k) o)[i]?=_
 have:E k≠i:=fun e=>by
  rcases h.own k B hk hn hro with h' | h'
  ·exact hm (e▸ h')
  ·omega
 rw[Array.getElem?_setIfInBounds_ne this];exact h.ext.block i hi hm
theorem SatM.write {Γ E m nx w} (h:SatM Γ E m nx w) {k:Nat} {B B':SB} (hk:m.get k=some B)(hn:B.no=false)(hro:B.ro=false) {o:Obj}
  (hB:BlkOk E B' o) (hro':B'.ro=false):SatM Γ E (m.put k B') nx {w with heap:=w.heap.setIfInBounds (E k) o}:=by
 obtain⟨o0,ho0,_⟩:=h.blk k B hk hn
 have hlt:=(Array.getElem?_eq_some_iff.1 ho0).1
 refine⟨?_,?_,?_,?_,h.extWrite hk hn hro o,h.cx,fun D hD=> ?_⟩
 rotate_right
 ·show(w.heap.setIfInBounds (E k) o)[D]?=_
  rw[Array.getElem?_setIfInBounds_ne (fun e=>h.not_mark hk hn D hD e.symm)];exact h.kp D hD
 ·intro j X hj hnx
  rcases Mem.get_put hj with ⟨rfl,rfl,_⟩ | ⟨hne,hj⟩
  ·exact⟨o,by simp[hlt],hB⟩
  ·obtain⟨o',ho',hb⟩:=h.blk j X hj hnx
   refine⟨o',?_,hb⟩
   have:E k≠E j:=fun e=>hne (h.inj k j B X hk hn hj hnx (.inl hro) e).symm
   show(w.heap.setIfInBounds (E k) o)[E j]?=_
   rw[Array.getElem?_setIfInBounds_ne this];exact ho'
 ·intro j j' X X' hj hnj hj' hnj' hr e
  rcases Mem.get_put hj with ⟨e1,_,_⟩ | ⟨_,hj1⟩<;>rcases Mem.get_put hj' with ⟨e2,_,_⟩ | ⟨_,hj2⟩
  ·exact e1.trans e2.symm
  ·subst e1;exact h.inj _ _ _ _ hk hn hj2 hnj' (.inl hro) e
  ·subst e2;exact h.inj _ _ _ _ hj1 hnj hk hn (.inr hro) e
  ·exact h.inj _ _ _ _ hj1 hnj hj2 hnj' hr e
 ·intro j X hj
  rcases Mem.get_put hj with ⟨rfl,_,hs⟩ | ⟨_,hj⟩
  ·exact h.lt _ _ hk
  ·exact h.lt _ _ hj
 ·intro j X hj hnj hr
  rcases Mem.get_put hj with ⟨rfl,rfl,hs⟩ | ⟨_,hj⟩
  ·exact h.own _ _ hk hn hro
  ·exact h.own _ _ hj hnj hr
theorem SatM.move {Γ E m nx w} (h:SatM Γ E m nx w)(hw:Mem.wf nx m=true) {k:Nat} {B B':SB} (hk:m.get k=some B)(hn:B.no=false)(hro:B.ro=false) {o:Obj}
  (hB:BlkOk (fun j=>if j=nx then E k else E j) B' o) :
  SatM Γ (fun j=>if j=nx then E k else E j) ((nx,B')::m.drop k) (nx+1) {w with heap:=w.heap.setIfInBounds (E k) o}:=by
 obtain⟨o0,ho0,_⟩:=h.blk k B hk hn
 have hlt:=(Array.getElem?_eq_some_iff.1 ho0).1
 refine h.push hw (fun _ _ hj=>(Mem.get_drop hj).2) (fun j X hj hnj e=>(Mem.get_drop hj).1 (h.inj j k X B (Mem.get_drop hj).2 hnj hk hn (.inr hro) e)) (fun i hi hl=> ?_) (h.extWrite hk hn hro o)
  (fun _ _=>h.own k B hk hn hro) (h.not_mark hk hn) fun _=>⟨o,by simp[hlt],hB⟩
 show(w.heap.setIfInBounds (E k) o)[i]?=_
 rw[Array.getElem?_setIfInBounds_ne (fun e=>hi e.symm)]
end Go.Proofs.YtoalfimkkibpdaaGreatDoor.Sx
namespace Go.Proofs.YtoalfimkkibpdaaGreatDoor.Sx
open Go
theorem run_und {P:Program} {w:World} {t:TypeId} {d:TypeDesc} (h:P.underlying t=some d):(underlying t).run P w=.ok d w:=by
 simp[underlying,h]
theorem run_info {P:Program} {w:World} {t:TypeId} {i:TypeInfo} (h:P.info? t=some i):(typeInfo t).run P w=.ok i w:=by
 simp[typeInfo,h]
def sz (P:Program)(t:TypeId):Option Nat:=match P.info? t with | some i=>some i.size | none=>none
theorem run_sz {P:Program} {w:World} {t:TypeId} {n:Nat} (h:sz P t=some n):(sizeOf t).run P w=.ok n w:=by
 unfold sz at h
 split at h
 ·rename_i i hi;injection h with h;subst h;simp[sizeOf,run_info hi]
 ·cases h
def isAggD:TypeDesc→Bool
 | .struct _=>true
 | .array _ _=>true
 | _=>false
theorem run_isAgg {P:Program} {w:World} {t:TypeId} {d:TypeDesc} (h:P.underlying t=some d):(isAgg t).run P w=.ok (isAggD d) w:=by
 cases d<;>simp[isAgg,run_und h,isAggD]
theorem add_none (b o n:Nat):(⟨b,o,none⟩:Addr).add n=⟨b,o+n,none⟩:=by
 unfold Addr.add;split<;>simp_all
theorem cell_of {w:World} {b o:Nat} {c:Array Value} {ty:TypeId} {fr:Nat×Nat} (h:w.heap[b]?=some (.cells c ty fr)) :
  w.cell? ⟨b,o,none⟩=c[o]?:=by
 simp[World.cell?,h]
theorem run_loadCellsFrom {P:Program} {w:World} {b:Nat} {c:Array Value} {ty:TypeId} {fr:Nat×Nat} (h:w.heap[b]?=some (.cells c ty fr))(o:Nat) :
  ∀(vs:List Value) (i:Nat) (acc:Array Value),(∀ j v,vs[j]?=some v→c[o+i+j]?=some v) →
   (loadCellsFrom ⟨b,o,none⟩ i vs.length acc).run P w=.ok (acc++vs.toArray) w:=by
 intro vs
 induction vs with
 | nil=>intro i acc _;simp[loadCellsFrom]
 | cons v r ih =>
   intro i acc hv
   have h0:=hv 0 v rfl
   simp only[List.length_cons,loadCellsFrom,Sem.run_bind,run_load,add_none,cell_of h]
   rw[show o+i+0=o+i from rfl] at h0
   rw[h0]
   simp only[Result.andThen_ok]
   rw[ih (i+1) (acc.push v) (fun j u hu=>by have:=hv (j+1) u (by simpa using hu);rw[← this];congr 1;omega)]
   simp
theorem run_loadCells {P:Program} {w:World} {b:Nat} {c:Array Value} {ty:TypeId} {fr:Nat×Nat} (h:w.heap[b]?=some (.cells c ty fr))(o:Nat)
  (vs:List Value) (hv: ∀(j:Nat) v,vs[j]?=some v→c[o+j]?=some v) :
  (loadCells ⟨b,o,none⟩ vs.length).run P w=.ok vs.toArray w:=by
 have:=run_loadCellsFrom (P:=P) h o vs 0 #[] (fun j v hj=>by simpa using hv j v hj)
 simpa [loadCells] using this
def takeAt (cs:List SV)(o n:Nat):Option (List SV) :=
 match o,cs with
 | 0,cs=>(match n,cs with
   | 0,_=>some []
   | n+1,x::r=>(match takeAt r 0 n with | some l=>some (x::l) | none=>none)
   | _+1,[]=>none)
 | o+1,_::r=>takeAt r o n
 | _+1,[]=>none
termination_by structural cs
theorem takeAt_get: ∀ {cs:List SV} {o n:Nat} {l:List SV},takeAt cs o n=some l→l.length=n∧∀ j v,l[j]?=some v→cs[o+j]?=some v
 | cs,0,0,l,h=>by
   cases cs<;>simp[takeAt] at h<;>subst h<;>simp
 | [],0,n+1,l,h=>by simp[takeAt] at h
 | x::r,0,n+1,l,h=>by
   simp only[takeAt] at h
   split at h
   ·rename_i l' hl
    injection h with h;subst h
    have:=takeAt_get hl
    refine⟨by simp[this.1],fun j v hj=> ?_⟩
    cases j with
    | zero=>simpa using hj
    | succ j=>have:=this.2 j v (by simpa using hj);simpa using this
   ·cases h
 | [],o+1,n,l,h=>by simp[takeAt] at h
 | x::r,o+1,n,l,h=>by
   simp only[takeAt] at h
   have:=takeAt_get h
   refine⟨this.1,fun j v hj=> ?_⟩
   have:=this.2 j v hj
   rw[show o+1+j=(o+j)+1 by omega];simpa using this
abbrev QT:=(Option SV→VC)→VC
abbrev Look:=Nat→Option SB
def Compat (E:Nat→Nat)(look:Look)(w:World):Prop:=(∀ k B,look k=some B→B.no=false→∃ o,w.heap[E k]?=some o∧BlkOk E B o)∧GlobOk w
def Reads (E:Nat→Nat)(σ:Operand→Option SV)(ρ:Operand→Value):Prop:=∀ x v,σ x=some v→ρ x=v.val E
def QOk (P:Program)(look:Look)(σ:Operand→Option SV)(s:(Operand→Value)→Sem Value)(t:QT):Prop :=
 ∃(obl:Prop) (sv:Option SV),(∀ K,(t K).holds↔obl∧(K sv).holds) ∧
  (∀ E w ρ,Compat E look w→Reads E σ ρ→obl→∃ r,(s ρ).run P w=.ok r w∧∀ v,sv=some v→r=v.val E)
section
variable {P : Program} {look : Look} {σ : Operand → Option SV} {s : (Operand → Value) → Sem Value}
theorem QOk.fail (why:String):QOk P look σ s (fun _=>.fail why) :=
 ⟨False,none,fun _K=>⟨fun h=>h.elim,fun h=>h.1.elim⟩,fun _ _ _ _ _ h=>h.elim⟩
theorem QOk.k (sv:Option SV)(h: ∀ E w ρ,Compat E look w→Reads E σ ρ→∃ r,(s ρ).run P w=.ok r w∧∀ v,sv=some v→r=v.val E) :
  QOk P look σ s (fun K=>K sv) :=
 ⟨True,sv,fun _K=>⟨fun h=>⟨trivial,h⟩,fun h=>h.2⟩,fun E w ρ hc hr _=>h E w ρ hc hr⟩
theorem QOk.v (v:SV)(h: ∀ E w ρ,Compat E look w→Reads E σ ρ→(s ρ).run P w=.ok (v.val E) w):QOk P look σ s (fun K=>K (some v)) :=
 QOk.k _ fun E w ρ hc hr=>⟨_,h E w ρ hc hr,fun v' hv=>by injection hv with hv;rw[hv]⟩
theorem QOk.atom {p:Prop} {t:QT} (h:p→QOk P look σ s t):QOk P look σ s (fun K=>.and (.atom p) (t K)):=by
 by_cases hp:p
 ·obtain⟨obl,sv,h1,h2⟩:=h hp
  exact⟨obl,sv,fun K=>⟨fun x=>(h1 K).1 x.2,fun x=>⟨hp,(h1 K).2 x⟩⟩,h2⟩
 ·exact⟨False,none,fun K=>⟨fun x=>(hp x.1).elim,fun x=>x.1.elim⟩,fun _ _ _ _ _ h=>h.elim⟩
theorem QOk.fork {b:Bool} {t:Bool→QT} (h:QOk P look σ s (t b)):QOk P look σ s (fun K=>Sx.fork b (fun c=>t c K)):=by
 obtain⟨obl,sv,h1,h2⟩:=h
 exact⟨obl,sv,fun K=>by rw[fork_iff];exact h1 K,h2⟩
theorem QOk.ite {c:Prop} [Decidable c] {t u:QT} (h:c→QOk P look σ s t)(h': ¬ c→QOk P look σ s u) :
  QOk P look σ s (fun K=>if c then t K else u K):=by
 by_cases hc:c
 ·simp only[hc,if_true];exact h hc
 ·simp only[hc,if_false];exact h' hc
end
def lo:IntKind→Int
 | .i8=> -128 | .i16=> -32768 | .i32=> -2147483648 | .i64=> -9223372036854775808
 | _=>0
def hi:IntKind→Int
 | .i8=>127 | .i16=>32767 | .i32=>2147483647 | .i64=>9223372036854775807
 | .u8=>255 | .u16=>65535 | .u32=>4294967295 | .u64=>18446744073709551615
def md:IntKind→Int
 | .i8 | .u8=>256 | .i16 | .u16=>65536 | .i32 | .u32=>4294967296 | .i64 | .u64=>18446744073709551616
theorem wrap_in {k:IntKind} {n:Int} (h:lo k≤n∧n≤hi k):k.wrap n=n:=by
 obtain⟨h1,h2⟩:=h
 cases k<;>simp only[lo,hi] at h1 h2<;>simp only[IntKind.wrap,IntKind.bits,IntKind.signed]<;>simp<;>(try split)<;>omega
theorem wrap_un {k:IntKind} (hs:k.signed=false)(n:Int):k.wrap n=n% md k:=by
 cases k<;>simp[IntKind.signed] at hs<;>simp[IntKind.wrap,IntKind.bits,IntKind.signed,md]
def intsAt (k:IntKind):List SV→Option (List Int)
 | []=>some []
 | .int k' _ n::r=>if k=k' then(match intsAt k r with
   | some l=>some (n::l)
   | none=>none)else none
 | _::_=>none
def kindAt:List SV→IntKind
 | .int k _ _::_=>k
 | _=>.i64
def sel (l:List Int)(i:Nat):Int:=l.getD i 0
theorem intsAt_get {k:IntKind}: ∀ {cs:List SV} {l:List Int},intsAt k cs=some l→l.length=cs.length∧∀(i:Nat)(v:SV),cs[i]?=some v→∃ b,v=.int k b (sel l i)
 | [],l,h=>by simp[intsAt] at h;subst h;exact⟨rfl,fun i v hv=>by simp at hv⟩
 | .int k' b n::r,l,h=>by
   simp only[intsAt] at h
   split at h
   ·rename_i e;subst e
    split at h
    ·rename_i l' hl
     injection h with h;subst h
     obtain⟨h1,h2⟩:=intsAt_get hl
     refine⟨by simp[h1],fun i v hv=> ?_⟩
     cases i with
     | zero=>simp at hv;subst hv;exact⟨b,rfl⟩
     | succ i=>obtain⟨b',hb⟩:=h2 i v (by simpa using hv);exact⟨b',by rw[hb];rfl⟩
    ·cases h
   ·cases h
def strsAt:List SV→Option (List (List UInt8))
 | []=>some []
 | .str _ s::r=>(match strsAt r with
   | some l=>some (s::l)
   | none=>none)
 | _::_=>none
def selS (l:List (List UInt8))(i:Nat):List UInt8:=l.getD i []
theorem strsAt_get: ∀ {cs:List SV} {l:List (List UInt8)},strsAt cs=some l→∀(i:Nat)(v:SV),cs[i]?=some v→∃ b,v=.str b (selS l i)
 | [],l,h,i,v,hv=>by simp at hv
 | .str b s::r,l,h,i,v,hv=>by
   simp only[strsAt] at h
   split at h
   ·rename_i l' hl
    injection h with h;subst h
    cases i with
    | zero=>simp at hv;subst hv;exact⟨b,rfl⟩
    | succ i=>obtain⟨b',hb⟩:=strsAt_get hl i v (by simpa using hv);exact⟨b',by rw[hb];rfl⟩
   ·cases h
theorem strsAt_len: ∀ {cs:List SV} {l:List (List UInt8)},strsAt cs=some l→l.length=cs.length
 | [],l,h=>by simp[strsAt] at h;subst h;rfl
 | .str b s::r,l,h=>by
   simp only[strsAt] at h
   split at h
   ·rename_i l' hl
    injection h with h;subst h
    simp[strsAt_len hl]
   ·cases h
def takeCols (cols:List Col)(i k n:Nat):Option (List SV):=takeAt (cols.map (Col.at i)) k n
noncomputable def globAt (g:Nat):List (Nat×Array Value)→Option (Array Value)
 | []=>none
 | e::r=>if e.1=g then some e.2 else globAt g r
theorem globAt_mem {g:Nat}: ∀ {l:List (Nat×Array Value)} {cs:Array Value},globAt g l=some cs→(g,cs)∈ l
 | [],_,h=>by cases h
 | e::r,cs,h=>by
   simp only[globAt] at h
   split at h
   ·rename_i he;injection h with h;subst h;subst he;exact List.mem_cons_self ..
   ·exact List.mem_cons_of_mem _ (globAt_mem h)
def SV.ofGlob:Value→Option SV
 | .iface t (.agg cs)=>some (.iface t (.agg (cs.toList.map SV.raw)))
 | v=>SV.ofCell v
theorem SV.ofGlob_val {E:Nat→Nat} {v:Value} {x:SV} (h:SV.ofGlob v=some x):x.val E=v:=by
 unfold SV.ofGlob at h
 split at h
 ·injection h with h;subst h
  have: ∀ l:List Value,SV.vals E (l.map SV.raw)=l:=by
   intro l
   induction l with
   | nil=>rfl
   | cons a r ih=>simp only[List.map_cons,SV.vals,SV.val,ih]
  simp[SV.val,this]
 ·exact SV.ofCell_val h
def valInts (k:IntKind):List Value→Option (List Int)
 | []=>some []
 | .int k' n::r=>if k=k' then(match valInts k r with
   | some l=>some (n::l)
   | none=>none)else none
 | _::_=>none
def valKind:List Value→Option IntKind
 | .int k _::_::_=>some k
 | _=>none
theorem valInts_get {k:IntKind}: ∀ {cs:List Value} {l:List Int},valInts k cs=some l→l.length=cs.length∧∀(i:Nat),i<l.length→cs[i]?=some (.int k (sel l i))
 | [],l,h=>by simp[valInts] at h;subst h;exact⟨rfl,fun i hi=>absurd hi (Nat.not_lt_zero _)⟩
 | v::r,l,h=>by
   unfold valInts at h
   split at h
   ·rename_i e;cases e
   ·rename_i k' n r' e
    injection e with e1 e2;subst e1;subst e2
    split at h
    ·rename_i e;subst e
     split at h
     ·rename_i l' hl
      injection h with h;subst h
      obtain⟨h1,h2⟩:=valInts_get hl
      refine⟨by simp[h1],fun i hi=> ?_⟩
      cases i with
      | zero=>rfl
      | succ i=>simpa [sel] using h2 i (by simpa using hi)
     ·cases h
    ·cases h
   ·cases h
def colFrom (c:Col)(o:Nat):Nat→List SV
 | 0=>[]
 | n+1=>c.at o::colFrom c (o+1) n
theorem colFrom_len (c:Col): ∀(n o:Nat),(colFrom c o n).length=n
 | 0,_=>rfl
 | n+1,o=>by simp[colFrom,colFrom_len c n (o+1)]
theorem colFrom_get (c:Col): ∀(n o j:Nat)(v:SV),(colFrom c o n)[j]?=some v→j<n∧v=c.at (o+j)
 | 0,_,j,v,h=>by simp[colFrom] at h
 | n+1,o,0,v,h=>by simp[colFrom] at h;exact⟨Nat.succ_pos _,h.symm⟩
 | n+1,o,j+1,v,h=>by
   simp only[colFrom,List.getElem?_cons_succ] at h
   obtain⟨h1,h2⟩:=colFrom_get c n (o+1) j v h
   exact⟨by omega,by rw[h2];congr 1;omega⟩
noncomputable def qload (P:Program)(look:Look)(t:TypeId)(a:Option SV)(K:Option SV→VC):VC :=
 match P.underlying t with
 | none=>.fail "load: no type"
 | some d =>
   match a with
   | some (.ptr key true o)=>(match look key with
     | some (.cells cs _ _)=>(match isAggD d with
       | true=>(match sz P t with
         | some n=>(match takeAt cs o n with
           | some l=>K (some (.agg l))
           | none=>.fail "load: not so many cells")
         | none=>.fail "load: no size")
       | false=>(match cs[o]? with
         | some v=>K (some v)
         | none=>.fail "load: no such cell"))
     | some (.rows false n [c] _ _ _)=>(match isAggD d with
       | true=>(match sz P t with
         | some m=>.and (.atom (o+m≤n)) (K (some (.agg (colFrom c o m))))
         | none=>.fail "load: no size")
       | false=>.and (.atom (o<n)) (K (some (c.at o))))
     | _=>.fail "load: no such block")
   | some (.eptr key w i k)=>(match look key with
     | some (.rows _z n cols _ro _tot _ty)=>(if cols.length=w then(match isAggD d with
       | true=>(match sz P t with
         | some m=>(match takeCols cols i k m with
           | some l=>.and (.atom (i<n)) (K (some (.agg l)))
           | none=>.fail "load: not so many columns")
         | none=>.fail "load: no size")
       | false=>(match cols[k]? with
         | some c=>.and (.atom (i<n)) (K (some (c.at i)))
         | none=>.fail "load: no such column"))else .fail "load: another row")
     | _=>.fail "load: not a row")
   | some (.veptr key w o i k)=>(match look key with
     | some (.view _z o' n cols)=>(if cols.length=w then(match isAggD d with
       | true=>(match sz P t with
         | some m=>(match takeCols cols i k m with
           | some l=>.and (.atom (o'=o∧i<n)) (K (some (.agg l)))
           | none=>.fail "load: not so many columns")
         | none=>.fail "load: no size")
       | false=>(match cols[k]? with
         | some c=>.and (.atom (o'=o∧i<n)) (K (some (c.at i)))
         | none=>.fail "load: no such column"))else .fail "load: another row")
     | _=>.fail "load: not a view")
   | some (.aptr key base n i)=>(match look key with
     | some (.cells cs _ _)=>(match isAggD d,takeAt cs base n with
       | false,some l=>(match intsAt (kindAt l) l with
         | some zs=>.and (.atom (i<n)) (K (some (.int (kindAt l) false (sel zs i))))
         | none=>(match strsAt l with
           | some ss=>.and (.atom (i<n)) (K (some (.str false (selS ss i))))
           | none=>.fail "load: no integers"))
       | _,_=>.fail "load: not so many cells")
     | some (.rows false nb [c] _ _ _)=>(match isAggD d with
       | false=>.and (.atom (i<n∧base+i<nb)) (K (some (c.at (base+i))))
       | true=>.fail "load: not so many cells")
     | _=>.fail "load: no such block")
   | some (.raw (.pointer (some ⟨g,o,none⟩)))=>(match isAggD d,globAt g globList with
     | false,some cs=>(match valKind cs.toList with
       | some k=>(match valInts k cs.toList with
         | some zs=>.and (.atom (o<zs.length)) (K (some (.int k false (sel zs o))))
         | none=>.fail "load: what a variable holds")
       | none=>(match o with
         | 0=>(match cs[0]? with
           | some v=>(match SV.ofGlob v with
             | some x=>K (some x)
             | none=>.fail "load: what a variable holds")
           | none=>.fail "load: no cell")
         | _+1=>.fail "load: a variable's element"))
     | _,_=>.fail "load: a variable that is not listed")
   | _=>.fail "load: no pointer"
theorem qload_ok {P:Program} {look:Look} {σ:Operand→Option SV} (t:TypeId)(x:Operand) :
  QOk P look σ (fun ρ=>Instr.loadAt t (ρ x)) (qload P look t (σ x)):=by
 unfold qload
 cases hd:P.underlying t with
 | none=>exact QOk.fail _
 | some d =>
   simp only
   split
   ·rename_i key o hx
    split
    ·rename_i cs tot ty hk
     cases ha:isAggD d with
     | true =>
       simp only
       cases hn:sz P t with
       | none=>exact QOk.fail _
       | some n =>
         simp only
         cases hl:takeAt cs o n with
         | none=>exact QOk.fail _
         | some l =>
           refine QOk.v _ fun E w ρ hc hr=> ?_
           obtain⟨ob,ho,c,fr,rfl,_,h2,_⟩:=hc.1 key _ hk rfl
           have hg:=takeAt_get hl
           have hll:=run_loadCells (P:=P) ho o (l.map (SV.val E)) (fun j v hj=>by
            rw[List.getElem?_map] at hj
            cases hjl:l[j]? with
            | none=>rw[hjl] at hj;cases hj
            | some u=>rw[hjl] at hj;injection hj with hj;subst hj;exact h2 _ _ (hg.2 j u hjl))
           rw[List.length_map,hg.1] at hll
           simp[Instr.loadAt,hr x _ hx,SV.val,Instr.sureAddr,loadVar,run_isAgg hd,ha,run_sz hn,hll,SV.vals_eq]
     | false =>
       simp only
       cases hv:cs[o]? with
       | none=>exact QOk.fail _
       | some v =>
         refine QOk.v _ fun E w ρ hc hr=> ?_
         obtain⟨ob,ho,c,fr,rfl,_,h2,_⟩:=hc.1 key _ hk rfl
         simp[Instr.loadAt,hr x _ hx,SV.val,Instr.sureAddr,loadVar,run_isAgg hd,ha,cell_of ho,h2 _ _ hv]
    ·rename_i n col ro tot ty hk
     cases ha:isAggD d with
     | true =>
       simp only
       cases hn:sz P t with
       | none=>exact QOk.fail _
       | some m =>
         refine QOk.atom fun hi=>QOk.v _ fun E w ρ hc hr=> ?_
         obtain⟨ob,ho,c,fr,rfl,_,_,_,h2⟩:=hc.1 key _ hk rfl
         have hll:=run_loadCells (P:=P) ho o ((colFrom col o m).map (SV.val E)) (fun j v hj=>by
          rw[List.getElem?_map] at hj
          cases hjl:(colFrom col o m)[j]? with
          | none=>rw[hjl] at hj;cases hj
          | some u =>
            rw[hjl] at hj;injection hj with hj;subst hj
            obtain⟨g1,g2⟩:=colFrom_get col m o j u hjl
            subst g2
            have:=h2 (o+j) 0 col (by omega) rfl
            simpa using this)
         rw[List.length_map,colFrom_len] at hll
         simp[Instr.loadAt,hr x _ hx,SV.val,Instr.sureAddr,loadVar,run_isAgg hd,ha,run_sz hn,hll,SV.vals_eq]
     | false =>
       refine QOk.atom fun hi=>QOk.v _ fun E w ρ hc hr=> ?_
       obtain⟨ob,ho,c,fr,rfl,_,_,_,h2⟩:=hc.1 key _ hk rfl
       have h3:=h2 o 0 col hi rfl
       simp only[List.length_cons,List.length_nil,Nat.zero_add,Nat.mul_one,Nat.add_zero] at h3
       simp[Instr.loadAt,hr x _ hx,SV.val,Instr.sureAddr,loadVar,run_isAgg hd,ha,cell_of ho,h3]
    ·exact QOk.fail _
   ·rename_i key w i k hx
    split
    ·rename_i z n cols ro tot ty hk
     refine QOk.ite (fun hw=> ?_) (fun _=>QOk.fail _)
     subst hw
     cases ha:isAggD d with
     | true =>
       simp only
       cases hn:sz P t with
       | none=>exact QOk.fail _
       | some m =>
         simp only
         cases hl:takeCols cols i k m with
         | none=>exact QOk.fail _
         | some l =>
           refine QOk.atom fun hi=>QOk.v _ fun E w ρ hc hr=> ?_
           obtain⟨ob,ho,c,fr,rfl,_,h1,_,h2⟩:=hc.1 key _ hk (SB.no_rows hi)
           have hg:=takeAt_get hl
           have hll:=run_loadCells (P:=P) ho (i*cols.length+k) (l.map (SV.val E)) (fun j v hj=>by
            rw[List.getElem?_map] at hj
            cases hjl:l[j]? with
            | none=>rw[hjl] at hj;cases hj
            | some u =>
              rw[hjl] at hj;injection hj with hj;subst hj
              have:=hg.2 j u hjl
              rw[List.getElem?_map] at this
              cases hcl:cols[k+j]? with
              | none=>rw[hcl] at this;cases this
              | some col =>
                rw[hcl] at this;injection this with this;subst this
                rw[Nat.add_assoc];exact h2 i (k+j) col hi hcl)
           rw[List.length_map,hg.1] at hll
           simp[Instr.loadAt,hr x _ hx,SV.val,Instr.sureAddr,loadVar,run_isAgg hd,ha,run_sz hn,hll,SV.vals_eq]
     | false =>
       simp only
       cases hv:cols[k]? with
       | none=>exact QOk.fail _
       | some col =>
         refine QOk.atom fun hi=>QOk.v _ fun E w ρ hc hr=> ?_
         obtain⟨ob,ho,c,fr,rfl,_,h1,_,h2⟩:=hc.1 key _ hk (SB.no_rows hi)
         simp[Instr.loadAt,hr x _ hx,SV.val,Instr.sureAddr,loadVar,run_isAgg hd,ha,cell_of ho,h2 _ _ _ hi hv]
    ·exact QOk.fail _
   ·rename_i key w o i k hx
    split
    ·rename_i z o' n cols hk
     refine QOk.ite (fun hw=> ?_) (fun _=>QOk.fail _)
     subst hw
     cases ha:isAggD d with
     | true =>
       simp only
       cases hn:sz P t with
       | none=>exact QOk.fail _
       | some m =>
         simp only
         cases hl:takeCols cols i k m with
         | none=>exact QOk.fail _
         | some l =>
           refine QOk.atom fun hlh=>QOk.v _ fun E w ρ hc hr=> ?_
           obtain⟨rfl,hi⟩:=hlh;obtain⟨ob,ho,c,ty,fr,rfl,h2⟩:=hc.1 key _ hk (SB.no_view hi)
           have hg:=takeAt_get hl
           have hll:=run_loadCells (P:=P) ho (o'+i*cols.length+k) (l.map (SV.val E)) (fun j v hj=>by
            rw[List.getElem?_map] at hj
            cases hjl:l[j]? with
            | none=>rw[hjl] at hj;cases hj
            | some u =>
              rw[hjl] at hj;injection hj with hj;subst hj
              have:=hg.2 j u hjl
              rw[List.getElem?_map] at this
              cases hcl:cols[k+j]? with
              | none=>rw[hcl] at this;cases this
              | some col =>
                rw[hcl] at this;injection this with this;subst this
                rw[Nat.add_assoc];exact h2 i (k+j) col hi hcl)
           rw[List.length_map,hg.1] at hll
           simp[Instr.loadAt,hr x _ hx,SV.val,Instr.sureAddr,loadVar,run_isAgg hd,ha,run_sz hn,hll,SV.vals_eq]
     | false =>
       simp only
       cases hv:cols[k]? with
       | none=>exact QOk.fail _
       | some col =>
         refine QOk.atom fun hlh=>QOk.v _ fun E w ρ hc hr=> ?_
         obtain⟨rfl,hi⟩:=hlh;obtain⟨ob,ho,c,ty,fr,rfl,h2⟩:=hc.1 key _ hk (SB.no_view hi)
         simp[Instr.loadAt,hr x _ hx,SV.val,Instr.sureAddr,loadVar,run_isAgg hd,ha,cell_of ho,h2 _ _ _ hi hv]
    ·exact QOk.fail _
   ·rename_i key base n i hx
    split
    ·rename_i cs tot ty hk
     split
     ·rename_i l ha hl
      split
      ·rename_i zs hz
       refine QOk.atom fun hi=>QOk.v _ fun E w ρ hc hr=> ?_
       obtain⟨ob,ho,c,fr,rfl,_,h2,_⟩:=hc.1 key _ hk rfl
       have hg:=takeAt_get hl
       have hzg:=intsAt_get hz
       have hil:i<l.length:=by rw[hg.1];exact hi
       obtain⟨b,hb⟩:=hzg.2 i l[i] (List.getElem?_eq_getElem hil)
       have:=h2 _ _ (hg.2 i l[i] (List.getElem?_eq_getElem hil))
       rw[hb] at this
       simp[Instr.loadAt,hr x _ hx,SV.val,Instr.sureAddr,loadVar,run_isAgg hd,ha,cell_of ho,this]
      ·split
       ·rename_i ss hz
        refine QOk.atom fun hi=>QOk.v _ fun E w ρ hc hr=> ?_
        obtain⟨ob,ho,c,fr,rfl,_,h2,_⟩:=hc.1 key _ hk rfl
        have hg:=takeAt_get hl
        have hil:i<l.length:=by rw[hg.1];exact hi
        obtain⟨b,hb⟩:=strsAt_get hz i l[i] (List.getElem?_eq_getElem hil)
        have:=h2 _ _ (hg.2 i l[i] (List.getElem?_eq_getElem hil))
        rw[hb] at this
        simp[Instr.loadAt,hr x _ hx,SV.val,Instr.sureAddr,loadVar,run_isAgg hd,ha,cell_of ho,this]
       ·exact QOk.fail _
     ·exact QOk.fail _
    ·rename_i nb col ro tot ty hk
     split
     ·rename_i ha
      refine QOk.atom fun hi=>QOk.v _ fun E w ρ hc hr=> ?_
      obtain⟨ob,ho,c,fr,rfl,_,_,_,h2⟩:=hc.1 key _ hk rfl
      have h3:=h2 (base+i) 0 col hi.2 rfl
      simp only[List.length_cons,List.length_nil,Nat.zero_add,Nat.mul_one,Nat.add_zero] at h3
      simp[Instr.loadAt,hr x _ hx,SV.val,Instr.sureAddr,loadVar,run_isAgg hd,ha,cell_of ho,h3]
     ·exact QOk.fail _
    ·exact QOk.fail _
   ·rename_i g o hx
    split
    ·rename_i cs ha hcs
     split
     ·rename_i k hk
      split
      ·rename_i zs hz
       refine QOk.atom fun ho=>QOk.v _ fun E w ρ hc hr=> ?_
       obtain⟨c,ty,fr,hg,hgc⟩:=hc.2 _ (globAt_mem hcs)
       have hv:=(valInts_get hz).2 o ho
       rw[Array.getElem?_toList] at hv
       have hv:=hgc _ _ hv
       simp[Instr.loadAt,hr x _ hx,SV.val,Instr.sureAddr,loadVar,run_isAgg hd,ha,cell_of hg,hv]
      ·exact QOk.fail _
     ·split
      ·split
       ·rename_i v hv
        split
        ·rename_i y hy
         refine QOk.v _ fun E w ρ hc hr=> ?_
         obtain⟨c,ty,fr,hg,hgc⟩:=hc.2 _ (globAt_mem hcs)
         simp[Instr.loadAt,hr x _ hx,SV.val,Instr.sureAddr,loadVar,run_isAgg hd,ha,cell_of hg,hgc _ _ hv,SV.ofGlob_val hy]
        ·exact QOk.fail _
       ·exact QOk.fail _
      ·exact QOk.fail _
    ·exact QOk.fail _
   ·exact QOk.fail _
def offs (f:Field)(P:Program):Option Nat:=match sz P f.type with
 | some (_n+1)=>some f.offset
 | _=>none
def qfieldAddr (P:Program)(s:TypeId)(x:Option SV)(f:Nat)(K:Option SV→VC):VC :=
 match P.underlying s with
 | some (.struct fs)=>(match fs[f]? with
   | some fd=>(match offs fd P with
     | some o=>(match x with
       | some (.ptr key ol a)=>K (some (.ptr key ol (a+o)))
       | some (.eptr key w i k)=>K (some (.eptr key w i (k+o)))
       | some (.veptr key w b i k)=>K (some (.veptr key w b i (k+o)))
       | _=>.fail "fieldAddr: no pointer")
     | none=>.fail "fieldAddr: a field without cells")
   | none=>.fail "fieldAddr: no such field")
 | _=>.fail "fieldAddr: no struct"
theorem qfieldAddr_ok {P:Program} {look:Look} {σ:Operand→Option SV} (s:TypeId)(x:Operand)(f:Nat) :
  QOk P look σ (fun ρ=>Instr.fieldAt s (ρ x) f) (qfieldAddr P s (σ x) f):=by
 unfold qfieldAddr
 split
 ·rename_i fs hd
  split
  ·rename_i fd hf
   cases ho:offs fd P with
   | none=>exact QOk.fail _
   | some o =>
     have hsz: ∃ n,sz P fd.type=some (n+1)∧fd.offset=o:=by
      unfold offs at ho
      split at ho
      ·rename_i n hn;injection ho with ho;exact⟨n,hn,ho⟩
      ·cases ho
     obtain⟨n,hn,rfl⟩:=hsz
     simp only
     split
     ·rename_i key ol a hx
      refine QOk.v _ fun E w ρ hc hr=> ?_
      simp[Instr.fieldAt,hr x _ hx,SV.val,Instr.sureAddr,run_und hd,hf,fieldPlace,run_sz hn,add_none]
     ·rename_i key w i k hx
      refine QOk.v _ fun E w ρ hc hr=> ?_
      simp[Instr.fieldAt,hr x _ hx,SV.val,Instr.sureAddr,run_und hd,hf,fieldPlace,run_sz hn,add_none,Nat.add_assoc]
     ·rename_i key w b i k hx
      refine QOk.v _ fun E w ρ hc hr=> ?_
      simp[Instr.fieldAt,hr x _ hx,SV.val,Instr.sureAddr,run_und hd,hf,fieldPlace,run_sz hn,add_none,Nat.add_assoc]
     ·exact QOk.fail _
  ·exact QOk.fail _
 ·exact QOk.fail _
def places (i:Int)(t:Nat→VC):Nat→VC
 | 0=>.tt
 | n+1=>.and (places i t n) (.imp (i=n) (t n))
theorem places_iff {i:Int} {t:Nat→VC}: ∀ {n:Nat},0≤i→i<n→((places i t n).holds↔(t i.toNat).holds)
 | 0,h,h'=>by omega
 | n+1,h,h'=>by
   simp only[places,VC.holds]
   by_cases e:i=n
   ·subst e
    simp only[Int.toNat_natCast]
    constructor
    ·intro x;exact x.2 trivial
    ·intro x
     refine⟨?_,fun _=>x⟩
     have: ∀ m,m≤n→(places (n:Int) t m).holds:=by
      intro m
      induction m with
      | zero=>intro _;exact trivial
      | succ m ih=>intro hm;exact⟨ih (by omega),fun e=>by omega⟩
     exact this n (Nat.le_refl _)
   ·have:=places_iff (i:=i) (t:=t) (n:=n) h (by omega)
    rw[this]
    exact⟨fun x=>x.1,fun x=>⟨x,fun e'=>absurd e' e⟩⟩
def withIndex (l:Bool)(i:Int)(n:Nat)(t:Nat→VC):VC :=
 match l with
 | true=>if 0≤i∧i<n then t i.toNat else .fail "index out of range"
 | false=>.and (.atom (0≤i∧i<n)) (places i t n)
theorem QOk.index {P:Program} {look:Look} {σ:Operand→Option SV} {s:(Operand→Value)→Sem Value} {l:Bool} {i:Int} {n:Nat} {t:Nat→QT}
  (h:0≤i→i<n→QOk P look σ s (t i.toNat)):QOk P look σ s (fun K=>withIndex l i n (fun j=>t j K)):=by
 unfold withIndex
 cases l with
 | true=>exact QOk.ite (fun hc=>h hc.1 hc.2) (fun _=>QOk.fail _)
 | false =>
   refine QOk.atom fun hc=> ?_
   obtain⟨obl,sv,h1,h2⟩:=h hc.1 hc.2
   exact⟨obl,sv,fun K=>by rw[places_iff hc.1 hc.2];exact h1 K,h2⟩
def qindexAddr (P:Program)(t:TypeId)(x i:Option SV)(K:Option SV→VC):VC :=
 match P.underlying t,i with
 | some (.array len elem),some (.int _ l n)=>(match sz P elem,x with
   | some m,some (.ptr key true o)=>(match l|| !Nat.beq m 1 with
     | true=>withIndex l n len (fun j=>K (some (.ptr key true (o+j*m))))
     | false=>.and (.atom (0≤n∧n<len)) (K (some (.aptr key o len n.toNat))))
   | some 1,some (.raw (.pointer (some ⟨g,0,none⟩)))=>.and (.atom (0≤n∧n<len)) (K (some (.raw (.pointer (some ⟨g,n.toNat,none⟩)))))
   | _,_=>.fail "indexAddr: array")
 | some (.slice elem),some (.int _ l n)=>(match sz P elem,x with
   | some m,some (.slc key o len _ _)=>(match l|| !Nat.beq m 1||Nat.blt len 16 with
     | true=>withIndex l n len (fun j=>K (some (.ptr key true (o+j*m))))
     | false=>.and (.atom (0≤n∧n<len)) (K (some (.aptr key o len n.toNat))))
   | some m,some (.rslc key w _z i0 len _)=>if m=w then .and (.atom (0≤n∧n<len)) (K (some (.eptr key w (i0+n.toNat) 0)))else .fail "indexAddr: another row"
   | some m,some (.vslc key w _z b i0 len _)=>if m=w then .and (.atom (0≤n∧n<len)) (K (some (.veptr key w b (i0+n.toNat) 0)))else .fail "indexAddr: another row"
   | _,_=>.fail "indexAddr: slice")
 | _,_=>.fail "indexAddr"
theorem qindexAddr_ok {P:Program} {look:Look} {σ:Operand→Option SV} (t:TypeId)(x i:Operand) :
  QOk P look σ (fun ρ=>Instr.indexAt t (ρ x) (ρ i)) (qindexAddr P t (σ x) (σ i)):=by
 unfold qindexAddr
 split
 ·rename_i len elem k l n hd hi
  split
  ·rename_i m key o hm hx
   split
   ·refine QOk.index fun h0 h1=>QOk.v _ fun E w ρ hc hr=> ?_
    simp[Instr.indexAt,hr x _ hx,hr i _ hi,SV.val,asIntOf,Instr.sureAddr,run_und hd,run_sz hm,h0,h1,add_none]
   ·rename_i hcond
    have hm1:m=1:=by simp at hcond;exact hcond.2
    refine QOk.atom fun h0=>QOk.v _ fun E w ρ hc hr=> ?_
    simp[Instr.indexAt,hr x _ hx,hr i _ hi,SV.val,asIntOf,Instr.sureAddr,run_und hd,run_sz hm,h0.1,h0.2,add_none,hm1]
  ·rename_i g hm hx
   refine QOk.atom fun h0=>QOk.v _ fun E w ρ hc hr=> ?_
   simp[Instr.indexAt,hr x _ hx,hr i _ hi,SV.val,asIntOf,Instr.sureAddr,run_und hd,run_sz hm,h0.1,h0.2,add_none]
  ·exact QOk.fail _
 ·rename_i elem k l n hd hi
  split
  ·rename_i m key o len cl c hm hx
   split
   ·refine QOk.index fun h0 h1=>QOk.v _ fun E w ρ hc hr=> ?_
    simp[Instr.indexAt,hr x _ hx,hr i _ hi,SV.val,asIntOf,run_und hd,run_sz hm,h0,h1,add_none]
   ·rename_i hcond
    have hm1:m=1:=by simp at hcond;exact hcond.1.2
    refine QOk.atom fun h0=>QOk.v _ fun E w ρ hc hr=> ?_
    simp[Instr.indexAt,hr x _ hx,hr i _ hi,SV.val,asIntOf,run_und hd,run_sz hm,h0.1,h0.2,add_none,hm1]
  ·rename_i m key w z i0 len c hm hx
   refine QOk.ite (fun e=> ?_) (fun _=>QOk.fail _)
   subst e
   refine QOk.atom fun h0=>QOk.v _ fun E w ρ hc hr=> ?_
   have hne:Nat.beq len 0=false:=by cases len with
    | zero=>omega
    | succ n=>rfl
   simp[Instr.indexAt,hr x _ hx,hr i _ hi,SV.val,asIntOf,run_und hd,run_sz hm,h0.1,h0.2,add_none,Nat.add_mul,hne]
  ·rename_i m key w z b i0 len c hm hx
   refine QOk.ite (fun e=> ?_) (fun _=>QOk.fail _)
   subst e
   refine QOk.atom fun h0=>QOk.v _ fun E w ρ hc hr=> ?_
   have hne:Nat.beq len 0=false:=by cases len with
    | zero=>omega
    | succ n=>rfl
   simp[Instr.indexAt,hr x _ hx,hr i _ hi,SV.val,asIntOf,run_und hd,run_sz hm,h0.1,h0.2,add_none,Nat.add_mul,hne,Nat.add_assoc]
  ·exact QOk.fail _
 ·exact QOk.fail _
end Go.Proofs.YtoalfimkkibpdaaGreatDoor.Sx
