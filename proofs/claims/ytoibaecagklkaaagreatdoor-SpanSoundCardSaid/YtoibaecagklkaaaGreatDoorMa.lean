/-
  Rlp: which types are asked of internal/reflectlite.
-/
import Derived.Test.YtoibaecagklkaaaGreatDoorProg
import Derived.KernelRfl
import Derived.Calls
import Derived.RangeFuncIn
import Derived.RangeFuncLeaves
import Derived.RangeFuncCalls
import Derived.OrdersIn
import Derived.Orders
import Derived.Laws.Sem
import Derived.Below
import Derived.MapKept
namespace Go.Proofs.YtoibaecagklkaaaGreatDoor
open Go
def hB:Nat:=3
noncomputable def cz:List (Nat×Nat):=[(30,2),(290,22),(293,20),(294,22),(122,22),(87,22),(89,22),(253,22),(184,22)]
noncomputable def jb:List (Nat×Nat):=[(294,293),(122,30),(89,87)]
noncomputable def D7:List (Nat×Bool):=[(30,true)]
noncomputable def Dv:List (Nat×Nat×Bool):=[(87,84,true),(30,84,true)]
noncomputable def vF:List (Nat×Nat×Bool):=[(253,30,false),(87,87,true),(30,30,true),
 (290,30,false),(290,293,true)]
noncomputable def Bg:List (Nat×Nat×Bool):=[(30,293,false)]
noncomputable def y5:List (Nat×Nat×Bool):=[(87,87,false),(30,30,false),(293,290,true)]
end Go.Proofs.YtoibaecagklkaaaGreatDoor
namespace Go.Proofs.YtoibaecagklkaaaGreatDoor.Sx
open Go
noncomputable def nZ:List (Nat×Array Value) :=
 (0,#[.iface 212 (.agg #[.pointer (some ⟨Tryz.prog.globals.size,84,none⟩)])]) ::
 (1,#[.int .u32 1116352408,.int .u32 1899447441,.int .u32 3049323471,.int .u32 3921009573,.int .u32 961987163,.int .u32 1508970993,.int .u32 2453635748,.int .u32 2870763221,.int .u32 3624381080,.int .u32 310598401,.int .u32 607225278,.int .u32 1426881987,.int .u32 1925078388,.int .u32 2162078206,.int .u32 2614888103,.int .u32 3248222580,.int .u32 3835390401,.int .u32 4022224774,.int .u32 264347078,.int .u32 604807628,.int .u32 770255983,.int .u32 1249150122,.int .u32 1555081692,.int .u32 1996064986,.int .u32 2554220882,.int .u32 2821834349,.int .u32 2952996808,.int .u32 3210313671,.int .u32 3336571891,.int .u32 3584528711,.int .u32 113926993,.int .u32 338241895,.int .u32 666307205,.int .u32 773529912,.int .u32 1294757372,.int .u32 1396182291,.int .u32 1695183700,.int .u32 1986661051,.int .u32 2177026350,.int .u32 2456956037,.int .u32 2730485921,.int .u32 2820302411,.int .u32 3259730800,.int .u32 3345764771,.int .u32 3516065817,.int .u32 3600352804,.int .u32 4094571909,.int .u32 275423344,.int .u32 430227734,.int .u32 506948616,.int .u32 659060556,.int .u32 883997877,.int .u32 958139571,.int .u32 1322822218,.int .u32 1537002063,.int .u32 1747873779,.int .u32 1955562222,.int .u32 2024104815,.int .u32 2227730452,.int .u32 2361852424,.int .u32 2428436474,.int .u32 2756734187,.int .u32 3204031479,.int .u32 3329325298]) ::
 []
universe u
inductive VC:Type 1 where
 | tt
 | fail (why:String)
 | atom (p:Prop)
 | and (a b:VC)
 | imp (p:Prop) (a:VC)
 | all (α:Type) (f:α->VC)
 | ex (α:Type) (f:α->VC)
 | eqv (p q:Prop) (h:q)
def VC.holds:VC->Prop
 | .tt=>True
 | .fail _=>False
 | .atom p=>p
 | .and a b=>a.holds/\b.holds
 | .imp p a=>p->a.holds
 | .all α f=>∀ x:α,(f x).holds
 | .ex α f=>∃ x:α,(f x).holds
 | .eqv p _ _=>p
def j9 {α:Sort u}(a b:α):VC:=.eqv (a=b) (a=a) rfl
def fork (b:Bool)(f:Bool->VC):VC:=.and (.imp (b=true) (f true)) (.imp (b=false) (f false))
theorem dJ {b:Bool}{f:Bool->VC}:(fork b f).holds↔(f b).holds:=by
 constructor
 ·intro h;cases b
  ·exact h.2 rfl
  ·exact h.1 rfl
 ·intro h;cases b
  ·exact⟨fun e=>absurd e (by decide),fun _=>h⟩
  ·exact⟨fun _=>h,fun e=>absurd e (by decide)⟩
inductive SV where
 | int (k:IntKind) (l:Bool) (n:Int)
 | bool (l:Bool) (b:Bool)
 | str (l:Bool) (s:List UInt8)
 | ptr (key:Nat) (ol:Bool) (o:Nat)
 | jz (key w i k:Nat)
 | mR (key base n i:Nat)
 | bD
 | slc (key:Nat) (o n:Nat) (cl:Bool) (c:Nat)
 | bw (key w:Nat) (z:Bool) (i n c:Nat)
 | bP (key w:Nat) (z:Bool) (o i n c:Nat)
 | gu (key w o i k:Nat)
 | aO
 | agg (cs:List SV)
 | aL (vs:List SV)
 | iface (t:TypeId) (v:SV)
 | aI
 | func (fn:Fn) (first captured:List SV)
 | ee
 | yield (key:Nat)
 | map (key:Nat)
 | eM
 | raw (v:Value)
 | eD (key a o:Nat)
 | cn (key w:Nat) (z:Bool) (a i n c:Nat)
 | lJ (key w a i k:Nat)
mutual
def SV.val (E:Nat->Nat):SV->Value
 | .int k _ n=>.int k n
 | .bool _ b=>.bool b
 | .str _ s=>.string ⟨s.toArray⟩
 | .ptr key _ o=>.pointer (some ⟨E key,o,none⟩)
 | .jz key w i k=>.pointer (some ⟨E key,i*w+k,none⟩)
 | .mR key base _ i=>.pointer (some ⟨E key,base+i,none⟩)
 | .bD=>.pointer none
 | .slc key o n _ c=>.slice (some ⟨E key,o,none⟩) n c
 | .bw key w z i n c=>.slice (bif z&&Nat.beq n 0 then none else some ⟨E key,i*w,none⟩) n (bif z&&Nat.beq n 0 then 0 else c)
 | .bP key w z o i n c=>.slice (bif z&&Nat.beq n 0 then none else some ⟨E key,o+i*w,none⟩) n (bif z&&Nat.beq n 0 then 0 else c)
 | .gu key w o i k=>.pointer (some ⟨E key,o+i*w+k,none⟩)
 | .aO=>.slice none 0 0
 | .agg cs=>.agg (SV.vals E cs).toArray
 | .aL vs=>.tuple (SV.vals E vs).toArray
 | .iface t v=>.iface t (v.val E)
 | .aI=>.nilIface
 | .func fn a b=>.func fn (SV.vals E a).toArray (SV.vals E b).toArray
 | .ee=>.nilFunc
 | .yield key=>.func (.yield (E key)) #[] #[]
 | .map key=>.map (some (E key))
 | .eM=>.map none
 | .raw v=>v
 | .eD _ a o=>.pointer (some ⟨a,o,none⟩)
 | .cn _ w z a i n c=>.slice (bif z&&Nat.beq n 0 then none else some ⟨a,i*w,none⟩) n (bif z&&Nat.beq n 0 then 0 else c)
 | .lJ _ w a i k=>.pointer (some ⟨a,i*w+k,none⟩)
def SV.vals (E:Nat->Nat):List SV->List Value
 | []=>[]
 | x::r=>x.val E::SV.vals E r
end
theorem SV.bp (E:Nat->Nat)(l:List SV):SV.vals E l=l.map (SV.val E):=by
 induction l with
 | nil=>rfl
 | cons x r ih=>simp[SV.vals,ih]
mutual
def SV.wf (nx:Nat):SV->Bool
 | .ptr key _ _=>Nat.blt key nx
 | .jz key _ _ _=>Nat.blt key nx
 | .mR key _ _ _=>Nat.blt key nx
 | .slc key _ _ _ _=>Nat.blt key nx
 | .bw key _ _ _ _ _=>Nat.blt key nx
 | .bP key _ _ _ _ _ _=>Nat.blt key nx
 | .gu key _ _ _ _=>Nat.blt key nx
 | .map key=>Nat.blt key nx
 | .yield key=>Nat.blt key nx
 | .agg cs=>SV.ep nx cs
 | .aL vs=>SV.ep nx vs
 | .iface _ v=>v.wf nx
 | .func _ a b=>SV.ep nx a&&SV.ep nx b
 | _=>true
def SV.ep (nx:Nat):List SV->Bool
 | []=>true
 | x::r=>x.wf nx&&SV.ep nx r
end
mutual
theorem SV.val_congr {E E':Nat->Nat}{nx:Nat}(h: ∀ k,k<nx->E' k=E k):(v:SV)->v.wf nx=true->v.val E'=v.val E
 | .int ..,_=>rfl
 | .bool ..,_=>rfl
 | .str ..,_=>rfl
 | .ptr key _ _,hw=>by simp[SV.wf,Nat.blt_eq] at hw;simp[SV.val,h key hw]
 | .jz key _ _ _,hw=>by simp[SV.wf,Nat.blt_eq] at hw;simp[SV.val,h key hw]
 | .mR key _ _ _,hw=>by simp[SV.wf,Nat.blt_eq] at hw;simp[SV.val,h key hw]
 | .bD,_=>rfl
 | .slc key _ _ _ _,hw=>by simp[SV.wf,Nat.blt_eq] at hw;simp[SV.val,h key hw]
 | .bw key _ _ _ _ _,hw=>by simp[SV.wf,Nat.blt_eq] at hw;simp[SV.val,h key hw]
 | .bP key _ _ _ _ _ _,hw=>by simp[SV.wf,Nat.blt_eq] at hw;simp[SV.val,h key hw]
 | .gu key _ _ _ _,hw=>by simp[SV.wf,Nat.blt_eq] at hw;simp[SV.val,h key hw]
 | .aO,_=>rfl
 | .agg cs,hw=>by simp only[SV.wf] at hw;simp only[SV.val,SV.fQ h cs hw]
 | .aL vs,hw=>by simp only[SV.wf] at hw;simp only[SV.val,SV.fQ h vs hw]
 | .iface _ v,hw=>by simp only[SV.wf] at hw;simp only[SV.val,SV.val_congr h v hw]
 | .aI,_=>rfl
 | .func _ a b,hw=>by simp only[SV.wf,Bool.and_eq_true] at hw;simp only[SV.val,SV.fQ h a hw.1,SV.fQ h b hw.2]
 | .ee,_=>rfl
 | .map key,hw=>by simp[SV.wf,Nat.blt_eq] at hw;simp[SV.val,h key hw]
 | .yield key,hw=>by simp[SV.wf,Nat.blt_eq] at hw;simp[SV.val,h key hw]
 | .eM,_=>rfl
 | .raw _,_=>rfl
 | .eD ..,_=>rfl
 | .cn ..,_=>rfl
 | .lJ ..,_=>rfl
theorem SV.fQ {E E':Nat->Nat}{nx:Nat}(h: ∀ k,k<nx->E' k=E k):(l:List SV)->SV.ep nx l=true->SV.vals E' l=SV.vals E l
 | [],_=>rfl
 | x::r,hw=>by simp only[SV.ep,Bool.and_eq_true] at hw;simp only[SV.vals,SV.val_congr h x hw.1,SV.fQ h r hw.2]
end
mutual
theorem SV.eV {n m:Nat}(h:n<=m):(v:SV)->v.wf n=true->v.wf m=true
 | .int ..,_=>rfl
 | .bool ..,_=>rfl
 | .str ..,_=>rfl
 | .ptr key _ _,hw=>by simp[SV.wf,Nat.blt_eq] at hw ⊢;omega
 | .jz key _ _ _,hw=>by simp[SV.wf,Nat.blt_eq] at hw ⊢;omega
 | .mR key _ _ _,hw=>by simp[SV.wf,Nat.blt_eq] at hw ⊢;omega
 | .bD,_=>rfl
 | .slc key _ _ _ _,hw=>by simp[SV.wf,Nat.blt_eq] at hw ⊢;omega
 | .bw key _ _ _ _ _,hw=>by simp[SV.wf,Nat.blt_eq] at hw ⊢;omega
 | .bP key _ _ _ _ _ _,hw=>by simp[SV.wf,Nat.blt_eq] at hw ⊢;omega
 | .gu key _ _ _ _,hw=>by simp[SV.wf,Nat.blt_eq] at hw ⊢;omega
 | .aO,_=>rfl
 | .agg cs,hw=>by simp only[SV.wf] at hw ⊢;exact SV.gq h cs hw
 | .aL vs,hw=>by simp only[SV.wf] at hw ⊢;exact SV.gq h vs hw
 | .iface _ v,hw=>by simp only[SV.wf] at hw ⊢;exact SV.eV h v hw
 | .aI,_=>rfl
 | .func _ a b,hw=>by simp only[SV.wf,Bool.and_eq_true] at hw ⊢;exact⟨SV.gq h a hw.1,SV.gq h b hw.2⟩
 | .ee,_=>rfl
 | .map key,hw=>by simp[SV.wf,Nat.blt_eq] at hw ⊢;omega
 | .yield key,hw=>by simp[SV.wf,Nat.blt_eq] at hw ⊢;omega
 | .eM,_=>rfl
 | .raw _,_=>rfl
 | .eD ..,_=>rfl
 | .cn ..,_=>rfl
 | .lJ ..,_=>rfl
theorem SV.gq {n m:Nat}(h:n<=m):(l:List SV)->SV.ep n l=true->SV.ep m l=true
 | [],_=>rfl
 | x::r,hw=>by simp only[SV.ep,Bool.and_eq_true] at hw ⊢;exact⟨SV.eV h x hw.1,SV.gq h r hw.2⟩
end
def SV.kM:SV->Bool
 | .agg _ | .aL _=>false
 | .raw (.pointer _)=>true
 | .raw _=>false
 | _=>true
theorem SV.nK {E:Nat->Nat}{v:SV}(h:v.kM=true):(v.val E).oneCell'=true:=by
 cases v
 case raw u=>cases u<;>simp_all [SV.kM,SV.val,Value.oneCell']
 all_goals simp_all [SV.kM,SV.val,Value.oneCell']
def SV.cells:SV->List SV
 | .agg cs=>cs
 | v=>[v]
def SV.plain:SV->Bool
 | .raw (.pointer _)=>true
 | .raw _=>false
 | _=>true
theorem SV.dV {E:Nat->Nat}{v:SV}(h:v.plain=true):(v.val E).cells=(v.cells.map (SV.val E)).toArray:=by
 cases v
 case raw u=>cases u<;>simp_all [SV.plain,SV.cells,SV.val,Value.cells]
 all_goals simp_all [SV.plain,SV.cells,SV.val,Value.cells,SV.bp]
def SV.rF:Value->Option SV
 | .int k n=>some (.int k true n)
 | .bool b=>some (.bool true b)
 | .string s=>some (.str true s.data.toList)
 | .pointer none=>some .bD
 | .slice none 0 0=>some .aO
 | .map none=>some .eM
 | .nilFunc=>some .ee
 | .nilIface=>some .aI
 | _=>none
def SV.kR:List Value->Option (List SV)
 | []=>some []
 | v::r=>match SV.rF v,SV.kR r with
   | some x,some l=>some (x::l)
   | _,_=>none
def SV.ofConst:Value->Option SV
 | .agg cs=>match SV.kR cs.toList with
   | some l=>some (.agg l)
   | none=>none
 | v=>SV.rF v
theorem SV.rU {E:Nat->Nat}{v:Value}{x:SV}(h:SV.rF v=some x):x.val E=v:=by
 unfold SV.rF at h
 split at h<;>first | (injection h with h;subst h;simp[SV.val];done) | cases h
theorem SV.Fb {E:Nat->Nat}{l:List Value}{xs:List SV}(h:SV.kR l=some xs):xs.map (SV.val E)=l:=by
 induction l generalizing xs with
 | nil=>simp[SV.kR] at h;subst h;rfl
 | cons v r ih =>
   simp only[SV.kR] at h
   split at h
   ·rename_i x l' hx hl
    injection h with h;subst h
    simp[SV.rU hx,ih hl]
   ·cases h
theorem SV.wC {E:Nat->Nat}{v:Value}{x:SV}(h:SV.ofConst v=some x):x.val E=v:=by
 unfold SV.ofConst at h
 split at h
 ·split at h
  ·rename_i cs l hl
   injection h with h;subst h
   have:=SV.Fb (E:=E) hl
   simp[SV.val,SV.bp,this]
  ·cases h
 ·exact SV.rU h
inductive au where
 | int (k:IntKind) (f:Nat->Int)
 | bool (f:Nat->Bool)
 | str (f:Nat->List UInt8)
 | raw (f:Nat->Value)
 | ref (key:Nat) (f:Nat->Nat)
 | cn (key w:Nat) (z:Bool) (f n c:Nat->Nat)
def au.at (i:Nat):au->SV
 | .int k f=>.int k false (f i)
 | .bool f=>.bool false (f i)
 | .str f=>.str false (f i)
 | .raw f=>.raw (f i)
 | .ref key f=>.eD key (f i) 0
 | .cn key w z f n c=>.cn key w z (f i) 0 (n i) (c i)
theorem au.BV (i nx:Nat)(c:au):(c.at i).wf nx=true:=by cases c<;>rfl
inductive bU where
 | int (k:IntKind) (f:Nat->Nat->Int)
 | bool (f:Nat->Nat->Bool)
 | str (f:Nat->Nat->List UInt8)
 | ref (key:Nat) (f:Nat->Nat->Nat)
def bU.at (a:Nat):bU->au
 | .int k f=>.int k (f a)
 | .bool f=>.bool (f a)
 | .str f=>.str (f a)
 | .ref key f=>.ref key (f a)
mutual
def SV.hint:SV->Bool
 | .eD .. =>true
 | .cn .. =>true
 | .lJ .. =>true
 | .agg l=>SV.hints l
 | .aL l=>SV.hints l
 | .iface _ v=>v.hint
 | .func _ a b=>SV.hints a||SV.hints b
 | _=>false
def SV.hints:List SV->Bool
 | []=>false
 | x::r=>x.hint||SV.hints r
end
inductive aV where
 | int (k:IntKind) (g:List UInt8->Int)
 | raw (g:List UInt8->Value)
 | ref (key:Nat) (g:List UInt8->Nat)
def aV.val (s:List UInt8):aV->Value
 | .int k g=>.int k (g s)
 | .raw g=>g s
 | .ref _ g=>.pointer (some ⟨g s,0,none⟩)
def kN (s:List UInt8):Value:=.string ⟨s.toArray⟩
structure wN (d:List UInt8->Bool)(c:aV)(pend:Option (List UInt8×Int))(es:Array MapEntry)(clock:Nat):Prop where
 st:MapKept.Stamped es clock
 ks: ∀ x∈ es.toList,MapKept.IsKey .string x.key
 has: ∀ s,d s=true->∃ e∈ es.toList,e.key=kN s/\e.val=c.val s
 no: ∀ s,d s=false->∀ e∈ es.toList,e.key≠kN s
 pd: ∀ s b,pend=some (s,b)->∃ e∈ es.toList,(e.born:Int)=b/\e.key=kN s
inductive SB where
 | cells (cs:List SV) (tot:Nat) (ty:TypeId)
 | rows (z:Bool) (n:Nat) (av:List au) (ro:Bool) (tot:Nat) (ty:TypeId)
 | view (z:Bool) (o n:Nat) (av:List au)
 | loop (st:LoopState) (pend:Option Code) (R:Loop)
 | map (es:List (Nat×SV×SV)) (clock:Nat)
 | fmap (d:List UInt8->Bool) (c:aV) (pend:Option (List UInt8×Int))
 | Ec (mp:Option Nat) (since:Nat) (seen:List Nat) (last:Nat)
 | iw (D:Nat->Bool) (cs:List au) (tot:Nat) (ty:TypeId) (fro:Bool)
 | dI (D:Nat->Bool) (n:Nat->Nat) (av:List bU) (fro:Bool)
def HA (nx:Nat):List (Nat×SV×SV)->Bool
 | []=>true
 | e::r=>e.2.1.wf nx&&e.2.2.wf nx&&HA nx r
def SB.ro:SB->Bool
 | .cells .. =>false
 | .rows _ _ _ ro _ _=>ro
 | .view .. =>true
 | .iw _ _ _ _ ro=>ro
 | .dI _ _ _ ro=>ro
 | _=>false
def SB.no:SB->Bool
 | .cells .. =>false
 | .rows z n _ _ _ _=>z&&Nat.beq n 0
 | .view z _ n _=>z&&Nat.beq n 0
 | .iw .. =>true
 | .dI .. =>true
 | _=>false
theorem SB.ic {z:Bool}{n:Nat}{av:List au}{ro:Bool}{tot:Nat}{ty:TypeId}{i:Nat}(h:i<n):(SB.rows z n av ro tot ty).no=false:=by
 have:Nat.beq n 0=false:=by cases n with
  | zero=>omega
  | succ n=>rfl
 simp[SB.no,this]
theorem SB.wS {z:Bool}{n:Nat}{av:List au}{o i:Nat}(h:i<n):(SB.view z o n av).no=false:=by
 have:Nat.beq n 0=false:=by cases n with
  | zero=>omega
  | succ n=>rfl
 simp[SB.no,this]
def SB.wf (nx:Nat):SB->Bool
 | .cells cs _ _=>SV.ep nx cs
 | .rows .. =>true
 | .view .. =>true
 | .loop .. =>true
 | .map es _=>HA nx es
 | .fmap .. =>true
 | .Ec mp _ _ _=>match mp with
   | some k=>Nat.blt k nx
   | none=>true
 | .iw .. =>true
 | .dI .. =>true
abbrev Mem:=List (Nat×SB)
def Mem.get (key:Nat):Mem->Option SB
 | []=>none
 | e::r=>if e.1=key then some e.2 else Mem.get key r
def Mem.put (key:Nat)(B:SB):Mem->Mem
 | []=>[]
 | e::r=>if e.1=key then(e.1,B)::r else e::Mem.put key B r
def Mem.drop (key:Nat):Mem->Mem
 | []=>[]
 | e::r=>if e.1=key then Mem.drop key r else e::Mem.drop key r
def Mem.wf (nx:Nat):Mem->Bool
 | []=>true
 | e::r=>e.2.wf nx&&Mem.wf nx r
theorem Mem.fE {key:Nat}{B:SB}{m:Mem}{k:Nat}{X:SB}(h:(Mem.put key B m).get k=some X) :
  (k=key/\X=B/\(m.get k).isSome)∨(k≠key/\m.get k=some X):=by
 induction m with
 | nil=>simp[Mem.put,Mem.get] at h
 | cons e r ih =>
   by_cases he:e.1=key
   ·by_cases hk:key=k
    ·subst hk
     rw[Mem.put,if_pos he,Mem.get,if_pos he] at h
     injection h with h
     exact .inl ⟨rfl,h.symm,by rw[Mem.get,if_pos he];rfl⟩
    ·rw[Mem.put,if_pos he,Mem.get,if_neg (fun x=>hk (he.symm.trans x))] at h
     rw[Mem.get,if_neg (fun x=>hk (he.symm.trans x))]
     exact .inr ⟨fun e=>hk e.symm,h⟩
   ·rw[Mem.put,if_neg he] at h
    by_cases hk:e.1=k
    ·rw[Mem.get,if_pos hk] at h ⊢
     exact .inr ⟨fun e=>he (hk.trans e),h⟩
    ·rw[Mem.get,if_neg hk] at h ⊢
     exact ih h
theorem Mem.Hh {key:Nat}{B:SB}{m:Mem}{k:Nat}(h:k≠key):(Mem.put key B m).get k=m.get k:=by
 induction m with
 | nil=>rfl
 | cons e r ih =>
   by_cases he:e.1=key
   ·rw[Mem.put,if_pos he,Mem.get,if_neg (fun x=>h (x.symm.trans he)),Mem.get,if_neg (fun x=>h (x.symm.trans he))]
   ·rw[Mem.put,if_neg he]
    by_cases hk:e.1=k
    ·rw[Mem.get,if_pos hk,Mem.get,if_pos hk]
    ·rw[Mem.get,if_neg hk,Mem.get,if_neg hk];exact ih
theorem Mem.dW {key:Nat}{m:Mem}{k:Nat}{X:SB}(h:(Mem.drop key m).get k=some X):k≠key/\m.get k=some X:=by
 induction m with
 | nil=>simp[Mem.drop,Mem.get] at h
 | cons e r ih =>
   by_cases he:e.1=key
   ·rw[Mem.drop,if_pos he] at h
    have:=ih h
    refine⟨this.1,?_⟩
    rw[Mem.get,if_neg (fun e=>this.1 (e.symm.trans he))];exact this.2
   ·rw[Mem.drop,if_neg he] at h
    by_cases hk:e.1=k
    ·rw[Mem.get,if_pos hk] at h ⊢
     exact⟨fun e=>he (hk.trans e),h⟩
    ·rw[Mem.get,if_neg hk] at h ⊢
     exact ih h
theorem Mem.CR {nx:Nat}{m:Mem}(h:m.wf nx=true){k:Nat}{B:SB}(hg:m.get k=some B):B.wf nx=true:=by
 induction m with
 | nil=>cases hg
 | cons e r ih =>
   simp only[Mem.wf,Bool.and_eq_true] at h
   by_cases hk:e.1=k
   ·simp only[Mem.get,hk,if_true] at hg;injection hg with hg;subst hg;exact h.1
   ·simp only[Mem.get,hk,if_false] at hg;exact ih h.2 hg
def b5 (E:Nat->Nat)(es:List (Nat×SV×SV)):List MapEntry:=es.map fun p=>{key:=p.2.1.val E,val:=p.2.2.val E,born:=p.1}
def bn (E:Nat->Nat):SB->Obj->Prop
 | .cells cs tot ty,o=>∃ c fr,o=.cells c ty fr/\(∀ i,c.size<=i∨¬ (fr.1<=i/\i<fr.2)) /\
    (∀(i:Nat) (v:SV),cs[i]?=some v->c[i]?=some (v.val E))/\c.size=tot
 | .rows _ n av ro tot ty,o=>∃ c fr,o=.cells c ty fr/\(ro=false->∀ i,c.size<=i∨¬ (fr.1<=i/\i<fr.2)) /\
    n*av.length<=c.size/\c.size=tot/\(∀(i k:Nat) (col:au),i<n->av[k]?=some col->c[i*av.length+k]?=some ((col.at i).val E))
 | .view _ o n av,ob=>∃ c ty fr,ob=.cells c ty fr/\(∀(i k:Nat) (col:au),i<n->av[k]?=some col->c[o+i*av.length+k]?=some ((col.at i).val E))
 | .loop st pend R,ob=>ob=.loop {R with state:=st,pending:=pend}
 | .map es clock,ob=>ob=.map (b5 E es).toArray clock
 | .fmap d c pend,ob=>∃ es clock,ob=.map es clock/\wN d c pend es clock
 | .Ec mp since seen last,ob=>ob=.mapIter (mp.map E) since seen.toArray last
 | .iw ..,_=>False
 | .dI ..,_=>False
theorem x8 {E E':Nat->Nat}{nx:Nat}(h: ∀ k,k<nx->E' k=E k): ∀ {es:List (Nat×SV×SV)},HA nx es=true->b5 E' es=b5 E es
 | [],_=>rfl
 | e::r,hw=>by
   simp only[HA,Bool.and_eq_true] at hw
   have:=x8 h hw.2
   simp only[b5,List.map_cons] at this ⊢
   rw[SV.val_congr h _ hw.1.1,SV.val_congr h _ hw.1.2,this]
theorem Cd {n m:Nat}(h:n<=m): ∀ {es:List (Nat×SV×SV)},HA n es=true->HA m es=true
 | [],_=>rfl
 | e::r,hw=>by
   simp only[HA,Bool.and_eq_true] at hw ⊢
   exact⟨⟨SV.eV h _ hw.1.1,SV.eV h _ hw.1.2⟩,Cd h hw.2⟩
theorem SB.eV {n m:Nat}(h:n<=m){B:SB}(hw:B.wf n=true):B.wf m=true:=by
 cases B with
 | cells cs tot ty=>exact SV.gq h cs hw
 | map es c=>exact Cd h hw
 | Ec mp a b c=>cases mp with
   | none=>rfl
   | some k=>simp only[SB.wf,Nat.blt_eq] at hw ⊢;omega
 | _=>rfl
theorem SV.qh {nx:Nat}{l:List SV}(h:SV.ep nx l=true){i:Nat}{v:SV}(hg:l[i]?=some v):v.wf nx=true:=by
 induction l generalizing i with
 | nil=>cases hg
 | cons x r ih =>
   simp only[SV.ep,Bool.and_eq_true] at h
   cases i with
   | zero=>simp at hg;subst hg;exact h.1
   | succ i=>exact ih h.2 (by simpa using hg)
theorem bn.congr {E E':Nat->Nat}{nx:Nat}(h: ∀ k,k<nx->E' k=E k){B:SB}(hw:B.wf nx=true){o:Obj}(hb:bn E B o):bn E' B o:=by
 cases B with
 | cells cs tot ty =>
   obtain⟨c,fr,rfl,h1,h2,h3⟩:=hb
   exact⟨c,fr,rfl,h1,fun i v hv=>by rw[SV.val_congr h v (SV.qh hw hv)];exact h2 i v hv,h3⟩
 | rows z n av ro tot ty =>
   obtain⟨c,fr,rfl,h1,h2,ht,h3⟩:=hb
   exact⟨c,fr,rfl,h1,h2,ht,fun i k col hi hk=>by rw[SV.val_congr h _ (au.BV i nx col)];exact h3 i k col hi hk⟩
 | view z o n av =>
   obtain⟨c,ty,fr,rfl,h3⟩:=hb
   exact⟨c,ty,fr,rfl,fun i k col hi hk=>by rw[SV.val_congr h _ (au.BV i nx col)];exact h3 i k col hi hk⟩
 | loop st pend R=>exact hb
 | map es clock=>subst hb;show _=_;rw[x8 h hw]
 | fmap=>exact hb
 | Ec mp since seen last =>
   subst hb
   cases mp with
   | none=>rfl
   | some k =>
     have hk:k<nx:=by simpa only[SB.wf,Nat.blt_eq] using hw
     show Obj.mapIter _ _ _ _=Obj.mapIter _ _ _ _
     simp only[Option.map_some,h k hk]
 | iw=>exact hb.elim
 | dI=>exact hb.elim
theorem bn.je {E:Nat->Nat}{B:SB}{o:Obj}(h:bn E B o)(ds:Option (List Deferred)):o≠.deferred ds:=by
 cases B with
 | cells=>obtain⟨c,fr,rfl,_⟩:=h;intro e;cases e
 | rows=>obtain⟨c,fr,rfl,_⟩:=h;intro e;cases e
 | view=>obtain⟨c,ty,fr,rfl,_⟩:=h;intro e;cases e
 | loop=>subst h;intro e;cases e
 | map=>subst h;intro e;cases e
 | fmap=>obtain⟨es,c,rfl,_⟩:=h;intro e;cases e
 | Ec=>subst h;intro e;cases e
 | iw=>exact h.elim
 | dI=>exact h.elim
def SB.iA:SB->Bool
 | .iw .. =>true
 | .dI .. =>true
 | _=>false
def SB.eO (b:Nat):SB->Nat->Prop
 | .iw D _ _ _ _,a=>D a=true
 | .dI D _ _ _,a=>D a=true
 | B,a=>B.no=false/\a=b
def SB.el:SB->Nat->SB
 | .iw _ cs tot ty _,a=>.cells (cs.map (au.at a)) tot ty
 | .dI _ n av _,a=>.view false 0 (n a) (av.map (bU.at a))
 | B,_=>B
theorem SB.oH {B:SB}(h:B.no=false):B.iA=false:=by cases B<;>first | rfl | cases h
theorem SB.gy {B:SB}(h:B.iA=false){a b:Nat}:B.eO b a↔B.no=false/\a=b:=by cases B<;>first | exact Iff.rfl | cases h
theorem SB.fP {B:SB}(h:B.no=false)(b:Nat):B.eO b b:=(SB.gy (SB.oH h)).2 ⟨h,rfl⟩
theorem SB.mX {B:SB}(h:B.iA=false)(a:Nat):B.el a=B:=by cases B<;>first | rfl | cases h
theorem SB.SJ {B:SB}(h:B.iA=true){a b b':Nat}:B.eO b a->B.eO b' a:=by cases B<;>first | exact id | cases h
theorem au.NC (a:Nat): ∀ l:List au,SV.ep 0 (l.map (au.at a))=true
 | []=>rfl
 | c::r=>by simp only[List.map_cons,SV.ep,au.BV,au.NC a r,Bool.and_self]
theorem SB.FC {B:SB}{nx:Nat}(h:B.wf nx=true)(a:Nat):(B.el a).wf nx=true:=by
 cases B<;>first | exact h | exact SV.gq (Nat.zero_le _) _ (au.NC a _) | rfl
structure Ext (M:Nat->Prop)(w w':World):Prop where
 os:w'.os=w.os
 tape:w'.tape=w.tape
 output:w'.output=w.output
 size:w.heap.size<=w'.heap.size
 block: ∀ k,k<w.heap.size->¬ M k->w'.heap[k]?=w.heap[k]?
theorem Ext.refl (M:Nat->Prop)(w:World):Ext M w w:=⟨rfl,rfl,rfl,Nat.le_refl _,fun _ _ _=>rfl⟩
theorem Ext.trans {M:Nat->Prop}{a b c:World}(h:Ext M a b)(k:Ext M b c):Ext M a c :=
 ⟨k.os.trans h.os,k.tape.trans h.tape,k.output.trans h.output,Nat.le_trans h.size k.size,
  fun i hi hm=>(k.block i (Nat.lt_of_lt_of_le hi h.size) hm).trans (h.block i hi hm)⟩
theorem Ext.below {M:Nat->Prop}{a b:World}(h:Ext M a b)(hM: ∀ k,¬ M k):RowKit.Below a.heap.size a b :=
 ⟨h.os,h.tape,h.output,h.size,fun k hk=>h.block k hk (hM k)⟩
theorem Ext.NR {M:Nat->Prop}{a b:World}(h:RowKit.Below a.heap.size a b):Ext M a b :=
 ⟨h.os,h.tape,h.output,h.size,fun k hk _=>h.block k hk⟩
def pH (w:World):Prop:=∀ p∈ nZ,∃ c ty fr,w.heap[p.1]?=some (.cells c ty fr)/\∀(i:Nat) (v:Value),p.2[i]?=some v->c[i]?=some v
structure aY where
 w0:World
 M0:Nat->Prop
 E0:Nat->Nat
 qF:Nat
 keep:List Nat
 gl:pH w0
 gm: ∀ p∈ nZ,¬ M0 p.1
 tail:List Deferred:=[]
 rf:Bool:=true
def aY.own (Γ:aY):aY:={Γ with tail:=[],rf:=true}
structure aY.le (Γ Δ:aY):Prop where
 w:Δ.w0=Γ.w0
 m:Δ.M0=Γ.M0
 nx:Γ.qF<=Δ.qF
 e: ∀ k,k<Γ.qF->Δ.E0 k=Γ.E0 k
 keep: ∀ D,D∈ Γ.keep->D∈ Δ.keep
theorem aY.le_refl (Γ:aY):Γ.le Γ:=⟨rfl,rfl,Nat.le_refl _,fun _ _=>rfl,fun _ h=>h⟩
theorem aY.le_trans {Γ Δ Θ:aY}(h:Γ.le Δ)(h':Δ.le Θ):Γ.le Θ :=
 ⟨h'.w.trans h.w,h'.m.trans h.m,Nat.le_trans h.nx h'.nx,fun k hk=>(h'.e k (Nat.lt_of_lt_of_le hk h.nx)).trans (h.e k hk),fun D hD=>h'.keep D (h.keep D hD)⟩
structure aJ (Γ:aY)(E:Nat->Nat)(m:Mem)(nx:Nat)(w:World):Prop where
 gi: ∀ k B a,m.get k=some B->B.eO (E k) a->∃ o,w.heap[a]?=some o/\bn E (B.el a) o
 gk: ∀ k k' B B' a,m.get k=some B->B.eO (E k) a->m.get k'=some B'->B'.eO (E k') a->(B.ro=false∨B'.ro=false)->k=k'
 lt: ∀ k B,m.get k=some B->k<nx
 gW: ∀ k B a,m.get k=some B->B.eO (E k) a->B.ro=false->Γ.M0 a∨Γ.w0.heap.size<=a
 ext:Ext Γ.M0 Γ.w0 w
 cx:Γ.qF<=nx/\∀ k,k<Γ.qF->E k=Γ.E0 k
 kp: ∀ D∈ Γ.keep,w.heap[D]?=some (.deferred (some []))
section
variable {Γ : aY} {E : Nat -> Nat} {m : Mem} {nx : Nat} {w : World}
theorem aJ.kO (h:aJ Γ E m nx w)(k:Nat)(B:SB)(hk:m.get k=some B)(hn:B.no=false): ∃ o,w.heap[E k]?=some o/\bn E B o:=by
 have:=h.gi k B (E k) hk (SB.fP hn _)
 rw[SB.mX (SB.oH hn)] at this;exact this
theorem aJ.inj (h:aJ Γ E m nx w)(k k':Nat)(B B':SB)(hk:m.get k=some B)(hn:B.no=false)(hk':m.get k'=some B')(hn':B'.no=false)(hr:B.ro=false∨B'.ro=false)(e:E k=E k'):k=k' :=
 h.gk k k' B B' (E k) hk (SB.fP hn _) hk' (by rw[e];exact SB.fP hn' _) hr
theorem aJ.own (h:aJ Γ E m nx w)(k:Nat)(B:SB)(hk:m.get k=some B)(hn:B.no=false)(hr:B.ro=false):Γ.M0 (E k)∨Γ.w0.heap.size<=E k:=h.gW k B _ hk (SB.fP hn _) hr
theorem aJ.Rz (h:aJ Γ E m nx w){k:Nat}{B:SB}{a:Nat}(hk:m.get k=some B)(ha:B.eO (E k) a):a<w.heap.size:=by
 obtain⟨o,ho,_⟩:=h.gi k B a hk ha
 exact(Array.getElem?_eq_some_iff.1 ho).1
end
theorem aY.QK (Γ:aY):Γ.le Γ.own:=⟨rfl,rfl,Nat.le_refl _,fun _ _=>rfl,fun _ h=>h⟩
theorem aJ.Ww {Γ E m nx w}(h:aJ Γ E m nx w):aJ Γ.own E m nx w:=⟨h.gi,h.gk,h.lt,h.gW,h.ext,h.cx,h.kp⟩
theorem aJ.we {Γ:aY}{E m nx w}(h:aJ Γ.own E m nx w):aJ Γ E m nx w:=⟨h.gi,h.gk,h.lt,h.gW,h.ext,h.cx,h.kp⟩
theorem aJ.Hi {Γ E m nx w}(h:aJ Γ E m nx w):pH w:=fun p hp=>by
 obtain⟨c,ty,fr,hg,hc⟩:=Γ.gl p hp
 exact⟨c,ty,fr,by rw[h.ext.block p.1 (Array.getElem?_eq_some_iff.1 hg).1 (Γ.gm p hp)];exact hg,hc⟩
theorem aJ.drew {Γ E m nx w}(h:aJ Γ E m nx w)(n:Nat):aJ Γ E m nx {w with drawn:=n} :=
 ⟨h.gi,h.gk,h.lt,h.gW,⟨h.ext.os,h.ext.tape,h.ext.output,h.ext.size,h.ext.block⟩,h.cx,h.kp⟩
theorem aJ.sub {Γ E m nx w}(h:aJ Γ E m nx w){m':Mem}(hs: ∀ k B,m'.get k=some B->m.get k=some B){nx':Nat}
  (hn: ∀ k B,m'.get k=some B->k<nx') (hnx:nx<=nx'∨Γ.qF<=nx'):aJ Γ E m' nx' w :=
 ⟨fun k B a hk=>h.gi k B a (hs k B hk),fun k k' B B' a hk hn hk'=>h.gk k k' B B' a (hs _ _ hk) hn (hs _ _ hk'),hn,fun k B a hk=>h.gW k B a (hs k B hk),h.ext,⟨by rcases hnx with h1 | h1;exact Nat.le_trans h.cx.1 h1;exact h1,h.cx.2⟩,h.kp⟩
theorem Mem.eJ {k0:Nat}{B0:SB}{m:Mem}{k:Nat}{B:SB}(h:Mem.get k ((k0,B0)::m)=some B):(k=k0/\B=B0)∨(k≠k0/\m.get k=some B):=by
 by_cases e:k0=k
 ·simp only[Mem.get,e,if_true] at h;injection h with h;exact .inl ⟨e.symm,h.symm⟩
 ·simp only[Mem.get,e,if_false] at h;exact .inr ⟨fun x=>e x.symm,h⟩
theorem aJ.Qw {Γ E m nx w}(h:aJ Γ E m nx w)(hw:Mem.wf nx m=true){m':Mem}(hsub: ∀ k B,m'.get k=some B->m.get k=some B){b:Nat}{B:SB}{w':World}
  (hB: ∀ a,B.eO b a->(∃ o,w'.heap[a]?=some o/\bn (fun k=>if k=nx then b else E k) (B.el a) o)/\(B.ro=false->Γ.M0 a∨Γ.w0.heap.size<=a)/\∀ k X,m'.get k=some X->¬ X.eO (E k) a)
  (hkeep: ∀ k X a,m'.get k=some X->X.eO (E k) a->w'.heap[a]?=w.heap[a]?) (hx:Ext Γ.M0 Γ.w0 w') (hkp: ∀ D∈ Γ.keep,w'.heap[D]?=w.heap[D]?) :
  aJ Γ (fun k=>if k=nx then b else E k) ((nx,B)::m') (nx+1) w':=by
 have hE': ∀ k,k<nx->(fun k=>if k=nx then b else E k) k=E k:=fun k hk=>by simp[Nat.ne_of_lt hk]
 have hg: ∀ {k X a},Mem.get k ((nx,B)::m')=some X->X.eO ((fun k=>if k=nx then b else E k) k) a->(k=nx/\X=B/\B.eO b a)∨(m'.get k=some X/\X.eO (E k) a):=fun hk ha=>by
  rcases Mem.eJ hk with ⟨rfl,rfl⟩ | ⟨hne,hk⟩
  ·simp only[if_true] at ha;exact .inl ⟨rfl,rfl,ha⟩
  ·simp only[hne,if_false] at ha;exact .inr ⟨hk,ha⟩
 refine⟨fun k X a hk ha=> ?_,fun k k' X X' a hk ha hk' ha' hr=> ?_,fun k X hk=> ?_,fun k X a hk ha hro=> ?_,hx,⟨Nat.le_succ_of_le h.cx.1,fun k hk=>(hE' k (Nat.lt_of_lt_of_le hk h.cx.1)).trans (h.cx.2 k hk)⟩,fun D hD=>by rw[hkp D hD];exact h.kp D hD⟩
 ·rcases hg hk ha with ⟨_,rfl,hn⟩ | ⟨hk,ha⟩
  ·exact(hB a hn).1
  ·obtain⟨o,ho,hb⟩:=h.gi k X a (hsub k X hk) ha
   exact⟨o,by rw[hkeep k X a hk ha];exact ho,hb.congr hE' (SB.FC (Mem.CR hw (hsub k X hk)) a)⟩
 ·rcases hg hk ha with ⟨e1,_,h1⟩ | ⟨hk1,ha1⟩<;>rcases hg hk' ha' with ⟨e2,_,h2⟩ | ⟨hk2,ha2⟩
  ·exact e1.trans e2.symm
  ·exact absurd ha2 ((hB a h1).2.2 _ _ hk2)
  ·exact absurd ha1 ((hB a h2).2.2 _ _ hk1)
  ·exact h.gk k k' X X' a (hsub _ _ hk1) ha1 (hsub _ _ hk2) ha2 hr
 ·rcases Mem.eJ hk with ⟨rfl,rfl⟩ | ⟨hne,hk⟩
  ·omega
  ·have:=h.lt k X (hsub k X hk);omega
 ·rcases hg hk ha with ⟨_,rfl,hn⟩ | ⟨hk,ha⟩
  ·exact(hB a hn).2.1 hro
  ·exact h.gW k X a (hsub k X hk) ha hro
theorem aJ.push {Γ E m nx w}(h:aJ Γ E m nx w)(hw:Mem.wf nx m=true){m':Mem}(hsub: ∀ k B,m'.get k=some B->m.get k=some B){b:Nat}{B:SB}{w':World}
  (hE: ∀ k X a,m'.get k=some X->X.eO (E k) a->a≠b) (hkeep: ∀ i,i≠b->i<w.heap.size->w'.heap[i]?=w.heap[i]?) (hx:Ext Γ.M0 Γ.w0 w')
  (hown:B.no=false->B.ro=false->Γ.M0 b∨Γ.w0.heap.size<=b) (hkb: ∀ D∈ Γ.keep,D≠b)
  (hB:B.no=false->∃ o,w'.heap[b]?=some o/\bn (fun k=>if k=nx then b else E k) B o) (hF:B.iA=false) :
  aJ Γ (fun k=>if k=nx then b else E k) ((nx,B)::m') (nx+1) w':=by
 refine h.Qw hw hsub (fun a ha=> ?_) (fun k X a hk ha=>hkeep a (hE k X a hk ha) (h.Rz (hsub k X hk) ha)) hx (fun D hD=>hkeep D (hkb D hD) (Array.getElem?_eq_some_iff.1 (h.kp D hD)).1)
 obtain⟨hn,rfl⟩:=(SB.gy hF).1 ha
 exact⟨by rw[SB.mX hF];exact hB hn,hown hn,fun k X hk ha=>hE k X _ hk ha rfl⟩
theorem bn.iA {E:Nat->Nat}{B:SB}{o:Obj}(h:bn E B o):B.iA=false:=by cases B<;>first | rfl | exact h.elim
theorem aJ.alloc {Γ E m nx w}(h:aJ Γ E m nx w)(hw:Mem.wf nx m=true){B:SB}{o:Obj}
  (hB:bn (fun k=>if k=nx then w.heap.size else E k) B o) :
  aJ Γ (fun k=>if k=nx then w.heap.size else E k) ((nx,B)::m) (nx+1) {w with heap:=w.heap.push o}:=by
 refine h.push hw (fun _ _ h=>h) (fun k X a hk ha=>Nat.ne_of_lt (h.Rz hk ha)) (fun i hi hlt=> ?_) ⟨h.ext.os,h.ext.tape,h.ext.output,?_,fun k hk hm=> ?_⟩ (fun _ _=>.inr h.ext.size) (fun D hD=>Nat.ne_of_lt (Array.getElem?_eq_some_iff.1 (h.kp D hD)).1) (fun _=>⟨o,by simp,hB⟩) hB.iA
 ·show(w.heap.push o)[i]?=_
  rw[Array.getElem?_push,if_neg hi]
 ·have:=h.ext.size;simp;omega
 ·show(w.heap.push o)[k]?=_
  have:=h.ext.size
  rw[Array.getElem?_push,if_neg (by omega)];exact h.ext.block k hk hm
theorem aJ.je {Γ E m nx w}(h:aJ Γ E m nx w){k:Nat}{B:SB}(hk:m.get k=some B)(hn:B.no=false): ∀ D∈ Γ.keep,D≠E k:=fun D hD e=>by
 obtain⟨o,ho,hb⟩:=h.kO k B hk hn
 have:=h.kp D hD
 rw[e,ho] at this
 exact hb.je _ (Option.some.inj this)
theorem aJ.EX {Γ E m nx w}(h:aJ Γ E m nx w){k:Nat}{B:SB}(hk:m.get k=some B)(hn:B.no=false)(hro:B.ro=false)(o:Obj) :
  Ext Γ.M0 Γ.w0 {w with heap:=w.heap.setIfInBounds (E k) o}:=by
 refine⟨h.ext.os,h.ext.tape,h.ext.output,by simpa using h.ext.size,fun i hi hm=> ?_⟩
 show(w.heap.setIfInBounds (E k) o)[i]?=_
 have:E k≠i:=fun e=>by
  rcases h.own k B hk hn hro with h' | h'
  ·exact hm (e▸ h')
  ·omega
 rw[Array.getElem?_setIfInBounds_ne this];exact h.ext.block i hi hm
theorem aJ.write {Γ E m nx w}(h:aJ Γ E m nx w){k:Nat}{B B':SB}(hk:m.get k=some B)(hn:B.no=false)(hro:B.ro=false){o:Obj}
  (hB:bn E B' o) (hro':B'.ro=false):aJ Γ E (m.put k B') nx {w with heap:=w.heap.setIfInBounds (E k) o}:=by
 obtain⟨o0,ho0,_⟩:=h.kO k B hk hn
 have hlt:=(Array.getElem?_eq_some_iff.1 ho0).1
 have hg: ∀ {j X a},(m.put k B').get j=some X->X.eO (E j) a->(j=k/\X=B'/\a=E k)∨(m.get j=some X/\X.eO (E j) a/\a≠E k):=fun hj ha=>by
  rcases Mem.fE hj with ⟨rfl,rfl,_⟩ | ⟨hne,hj⟩
  ·exact .inl ⟨rfl,rfl,((SB.gy hB.iA).1 ha).2⟩
  ·exact .inr ⟨hj,ha,fun e=>hne (h.gk _ k _ B _ hj ha hk (by rw[e];exact SB.fP hn _) (.inr hro))⟩
 refine⟨fun j X a hj ha=> ?_,fun j j' X X' a hj ha hj' ha' hr=> ?_,fun j X hj=> ?_,fun j X a hj ha hr=> ?_,h.EX hk hn hro o,h.cx,fun D hD=> ?_⟩
 ·rcases hg hj ha with ⟨_,rfl,rfl⟩ | ⟨hj,ha,hne⟩
  ·exact⟨o,by simp[hlt],by rw[SB.mX hB.iA];exact hB⟩
  ·obtain⟨o',ho',hb⟩:=h.gi j X a hj ha
   refine⟨o',?_,hb⟩
   show(w.heap.setIfInBounds (E k) o)[a]?=_
   rw[Array.getElem?_setIfInBounds_ne (fun e=>hne e.symm)];exact ho'
 ·rcases hg hj ha with ⟨e1,_,e⟩ | ⟨hj1,ha1,hne⟩<;>rcases hg hj' ha' with ⟨e2,_,e'⟩ | ⟨hj2,ha2,hne'⟩
  ·exact e1.trans e2.symm
  ·exact absurd e hne'
  ·exact absurd e' hne
  ·exact h.gk _ _ _ _ _ hj1 ha1 hj2 ha2 hr
 ·rcases Mem.fE hj with ⟨rfl,_,hs⟩ | ⟨_,hj⟩
  ·exact h.lt _ _ hk
  ·exact h.lt _ _ hj
 ·rcases hg hj ha with ⟨_,rfl,rfl⟩ | ⟨hj,ha,_⟩
  ·exact h.own _ _ hk hn hro
  ·exact h.gW _ _ _ hj ha hr
 ·show(w.heap.setIfInBounds (E k) o)[D]?=_
  rw[Array.getElem?_setIfInBounds_ne (fun e=>h.je hk hn D hD e.symm)];exact h.kp D hD
theorem aJ.PV {Γ E m nx w}(h:aJ Γ E m nx w){k:Nat}{D:Nat->Bool}{cs cs':List au}{tot:Nat}{ty:TypeId}(hk:m.get k=some (.iw D cs tot ty false)){b:Nat}(hb:D b=true){o:Obj}
  (hB:bn E (.cells (cs'.map (au.at b)) tot ty) o) (hs: ∀ a,a≠b->cs'.map (au.at a)=cs.map (au.at a)):aJ Γ E (m.put k (.iw D cs' tot ty false)) nx {w with heap:=w.heap.setIfInBounds b o}:=by
 have hlt:=h.Rz (a:=b) hk hb
 have hg: ∀ {j X a},(m.put k (.iw D cs' tot ty false)).get j=some X->X.eO (E j) a->∃ X0,m.get j=some X0/\X0.eO (E j) a/\(a≠b->X.el a=X0.el a)/\(a=b->j=k/\X=.iw D cs' tot ty false)/\X.ro=X0.ro:=fun {j X a} hj ha=>by
  rcases Mem.fE hj with ⟨rfl,rfl,_⟩ | ⟨hne,hj⟩
  ·exact⟨_,hk,ha,fun e=>congrArg (fun l=>SB.cells l tot ty) (hs a e),fun _=>⟨rfl,rfl⟩,rfl⟩
  ·exact⟨X,hj,ha,fun _=>rfl,fun e=>absurd (h.gk _ k _ _ a hj ha hk (by subst e;exact hb) (.inr rfl)) hne,rfl⟩
 refine⟨fun j X a hj ha=> ?_,fun j j' X X' a hj ha hj' ha' hr=> ?_,fun j X hj=> ?_,fun j X a hj ha hr=> ?_,⟨h.ext.os,h.ext.tape,h.ext.output,by simpa using h.ext.size,fun i hi hm=> ?_⟩,h.cx,fun D' hD=> ?_⟩
 ·obtain⟨X0,h1,h2,h3,h4,_⟩:=hg hj ha
  by_cases e:a=b
  ·obtain⟨_,rfl⟩:=h4 e
   subst e
   exact⟨o,by simp[hlt],hB⟩
  ·obtain⟨o',ho',hb'⟩:=h.gi j X0 a h1 h2
   refine⟨o',?_,by rw[h3 e];exact hb'⟩
   show(w.heap.setIfInBounds b o)[a]?=_
   rw[Array.getElem?_setIfInBounds_ne (fun e'=>e e'.symm)];exact ho'
 ·obtain⟨X0,h1,h2,_,_,h5⟩:=hg hj ha
  obtain⟨X0',h1',h2',_,_,h5'⟩:=hg hj' ha'
  exact h.gk j j' X0 X0' a h1 h2 h1' h2' (by rw[← h5,← h5'];exact hr)
 ·rcases Mem.fE hj with ⟨rfl,_,_⟩ | ⟨_,hj⟩
  ·exact h.lt _ _ hk
  ·exact h.lt _ _ hj
 ·obtain⟨X0,h1,h2,_,_,h5⟩:=hg hj ha
  exact h.gW j X0 a h1 h2 (by rw[← h5];exact hr)
 ·show(w.heap.setIfInBounds b o)[i]?=_
  have:b≠i:=fun e=>by
   rcases h.gW k _ b hk hb rfl with h' | h'
   ·exact hm (e▸ h')
   ·omega
  rw[Array.getElem?_setIfInBounds_ne this];exact h.ext.block i hi hm
 ·show(w.heap.setIfInBounds b o)[D']?=_
  rw[Array.getElem?_setIfInBounds_ne (fun e=> ?_)]
  ·exact h.kp D' hD
  ·obtain⟨o',ho',hb'⟩:=h.gi k _ b hk hb
   rw[e,h.kp D' hD] at ho'
   exact hb'.je _ (Option.some.inj ho').symm
theorem aJ.move {Γ E m nx w}(h:aJ Γ E m nx w)(hw:Mem.wf nx m=true){k:Nat}{B B':SB}(hk:m.get k=some B)(hn:B.no=false)(hro:B.ro=false){o:Obj}
  (hB:bn (fun j=>if j=nx then E k else E j) B' o) :
  aJ Γ (fun j=>if j=nx then E k else E j) ((nx,B')::m.drop k) (nx+1) {w with heap:=w.heap.setIfInBounds (E k) o}:=by
 obtain⟨o0,ho0,_⟩:=h.kO k B hk hn
 have hlt:=(Array.getElem?_eq_some_iff.1 ho0).1
 refine h.push hw (fun _ _ hj=>(Mem.dW hj).2) (fun j X a hj ha e=>(Mem.dW hj).1 (h.gk j k X B a (Mem.dW hj).2 ha hk (by rw[e];exact SB.fP hn _) (.inr hro))) (fun i hi hl=> ?_) (h.EX hk hn hro o)
  (fun _ _=>h.own k B hk hn hro) (h.je hk hn) (fun _=>⟨o,by simp[hlt],hB⟩) hB.iA
 show(w.heap.setIfInBounds (E k) o)[i]?=_
 rw[Array.getElem?_setIfInBounds_ne (fun e=>hi e.symm)]
def ah (B B':SB):Prop:=B'.iA=B.iA/\∀ b a,B'.eO b a->B.eO b a/\(∀ E o,bn E (B.el a) o->bn E (B'.el a) o)/\(B'.ro=false->B.ro=false)
theorem ah.refl (B:SB):ah B B:=⟨rfl,fun _ _ h=>⟨h,fun _ _ h=>h,id⟩⟩
theorem ah.of {B B':SB}(hB:B.iA=false)(hB':B'.iA=false)(h:B'.no=false->B.no=false/\(∀ E o,bn E B o->bn E B' o)/\(B'.ro=false->B.ro=false)):ah B B' :=
 ⟨hB'.trans hB.symm,fun b a ha=>by
  rw[SB.gy hB'] at ha
  rw[SB.gy hB,SB.mX hB,SB.mX hB']
  obtain⟨h1,h2⟩:=h ha.1
  exact⟨⟨h1,ha.2⟩,h2⟩⟩
theorem ah.old {B B':SB}(h:ah B B')(hn:B'.no=false):B.no=false/\(∀ E o,bn E B o->bn E B' o)/\(B'.ro=false->B.ro=false):=by
 have hF:=SB.oH hn
 obtain⟨h1,h2⟩:=h.2 0 0 (SB.fP hn 0)
 rw[SB.mX hF,SB.mX (h.1.symm.trans hF)] at h2
 exact⟨((SB.gy (h.1.symm.trans hF)).1 h1).1,h2⟩
theorem ah.trans {A B C:SB}(h:ah A B)(h':ah B C):ah A C:=⟨h'.1.trans h.1,fun b a ha=>by
 obtain⟨h1,h2,h3⟩:=h'.2 b a ha
 obtain⟨g1,g2,g3⟩:=h.2 b a h1
 exact⟨g1,fun E o x=>h2 E o (g2 E o x),fun x=>g3 (h3 x)⟩⟩
theorem aJ.conv {Γ E m nx w}(h:aJ Γ E m nx w){m':Mem}(hm: ∀ k Y,m'.get k=some Y->∃ X,m.get k=some X/\∀ a,Y.eO (E k) a->X.eO (E k) a/\(∀ o,bn E (X.el a) o->bn E (Y.el a) o)/\(Y.ro=false->X.ro=false)):aJ Γ E m' nx w:=by
 refine⟨fun i Z a hi ha=> ?_,fun i i' Z Z' a hi ha hi' ha' hr=> ?_,fun i Z hi=> ?_,fun i Z a hi ha hr=> ?_,h.ext,h.cx,h.kp⟩
 ·obtain⟨X,h1,h2⟩:=hm i Z hi
  obtain⟨g1,g2,_⟩:=h2 a ha
  obtain⟨o,ho,hb⟩:=h.gi i X a h1 g1
  exact⟨o,ho,g2 o hb⟩
 ·obtain⟨X,h1,h2⟩:=hm i Z hi
  obtain⟨X',h1',h2'⟩:=hm i' Z' hi'
  exact h.gk i i' X X' a h1 (h2 a ha).1 h1' (h2' a ha').1 (hr.imp (h2 a ha).2.2 (h2' a ha').2.2)
 ·obtain⟨X,h1,_⟩:=hm i Z hi
  exact h.lt i X h1
 ·obtain⟨X,h1,h2⟩:=hm i Z hi
  exact h.gW i X a h1 (h2 a ha).1 ((h2 a ha).2.2 hr)
theorem aJ.swap {Γ E m nx w}(h:aJ Γ E m nx w){j:Nat}{X Y:SB}(hX:m.get j=some X)(hle:ah X Y):aJ Γ E (m.put j Y) nx w:=h.conv fun i Z hi=>by
 rcases Mem.fE hi with ⟨rfl,rfl,_⟩ | ⟨_,hi⟩
 ·exact⟨X,hX,fun a ha=>by
   obtain⟨g1,g2,g3⟩:=hle.2 _ a ha
   exact⟨g1,g2 E,g3⟩⟩
 ·exact⟨Z,hi,fun a ha=>⟨ha,fun _ h=>h,id⟩⟩
theorem aJ.FP {Γ E k B B' m nx w}(h:aJ Γ E ((k,B)::m) nx w)(hle:ah B B'):aJ Γ E ((k,B')::m) nx w:=by
 have:=h.swap (j:=k) (X:=B) (by simp only[Mem.get,if_true]) hle
 simpa only[Mem.put,if_true] using this
end Go.Proofs.YtoibaecagklkaaaGreatDoor.Sx
