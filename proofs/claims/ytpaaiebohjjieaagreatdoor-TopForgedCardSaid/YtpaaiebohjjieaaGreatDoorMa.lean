/-
  Rlp: which types are asked of internal/reflectlite.
-/
import Derived.Test.YtpaaiebohjjieaaGreatDoorProg
import Derived.KernelRfl
import Derived.Calls
import Derived.RangeFuncIn
import Derived.RangeFuncLeaves
import Derived.RangeFuncCalls
import Derived.OrdersIn
import Derived.Orders
import Derived.Laws.Sem
import Derived.Below
import Derived.MapKept
import Derived.Laws.StructEq
namespace Go.Proofs.YtpaaiebohjjieaaGreatDoor
open Go
def hB:Nat:=3
noncomputable def dw:List (Nat×Nat):=[(25,2),(434,22),(437,20),(438,22),(76,22),(167,22),(168,22),(274,22),(283,22)]
noncomputable def oS:List (Nat×Nat):=[(438,437),(76,25),(168,167)]
noncomputable def Pe:List (Nat×Bool):=[(25,true)]
noncomputable def PW:List (Nat×Nat×Bool):=[(167,73,true),(25,73,true)]
noncomputable def DY:List (Nat×Nat×Bool):=[(274,25,false),(167,167,true),(25,25,true),
 (434,25,false),(434,437,true)]
noncomputable def Nn:List (Nat×Nat×Bool):=[(25,437,false)]
noncomputable def K1:List (Nat×Nat×Bool):=[(167,167,false),(25,25,false),(437,434,true)]
end Go.Proofs.YtpaaiebohjjieaaGreatDoor
namespace Go.Proofs.YtpaaiebohjjieaaGreatDoor.Sx
open Go
noncomputable def xA:List (Nat×Array Value) :=
 (0,#[.iface 262 (.agg #[.pointer (some ⟨Tryz.prog.globals.size,73,none⟩)])]) ::
 (1,#[.int .u32 1116352408,.int .u32 1899447441,.int .u32 3049323471,.int .u32 3921009573,.int .u32 961987163,.int .u32 1508970993,.int .u32 2453635748,.int .u32 2870763221,.int .u32 3624381080,.int .u32 310598401,.int .u32 607225278,.int .u32 1426881987,.int .u32 1925078388,.int .u32 2162078206,.int .u32 2614888103,.int .u32 3248222580,.int .u32 3835390401,.int .u32 4022224774,.int .u32 264347078,.int .u32 604807628,.int .u32 770255983,.int .u32 1249150122,.int .u32 1555081692,.int .u32 1996064986,.int .u32 2554220882,.int .u32 2821834349,.int .u32 2952996808,.int .u32 3210313671,.int .u32 3336571891,.int .u32 3584528711,.int .u32 113926993,.int .u32 338241895,.int .u32 666307205,.int .u32 773529912,.int .u32 1294757372,.int .u32 1396182291,.int .u32 1695183700,.int .u32 1986661051,.int .u32 2177026350,.int .u32 2456956037,.int .u32 2730485921,.int .u32 2820302411,.int .u32 3259730800,.int .u32 3345764771,.int .u32 3516065817,.int .u32 3600352804,.int .u32 4094571909,.int .u32 275423344,.int .u32 430227734,.int .u32 506948616,.int .u32 659060556,.int .u32 883997877,.int .u32 958139571,.int .u32 1322822218,.int .u32 1537002063,.int .u32 1747873779,.int .u32 1955562222,.int .u32 2024104815,.int .u32 2227730452,.int .u32 2361852424,.int .u32 2428436474,.int .u32 2756734187,.int .u32 3204031479,.int .u32 3329325298]) ::
 []
universe u
inductive VC:Type 1 where
 | tt
 | fail (why:String)
 | atom (p:Prop)
 | and (a b:VC)
 | imp (p:Prop) (a:VC)
 | all (α:Type) (f:α->VC)
 | ex (α:Type) (f:α->VC)
 | eqv (p q:Prop) (h:q)
 | fork (b:Bool) (x y:VC)
def VC.holds:VC->Prop
 | .tt=>True
 | .fail _=>False
 | .atom p=>p
 | .and a b=>a.holds/\b.holds
 | .imp p a=>p->a.holds
 | .all α f=>∀ x:α,(f x).holds
 | .ex α f=>∃ x:α,(f x).holds
 | .eqv p _ _=>p
 | .fork b x y=>(b=true->x.holds)/\(b=false->y.holds)
def ng {α:Sort u}(a b:α):VC:=.eqv (a=b) (a=a) rfl
def fork (b:Bool)(f:Bool->VC):VC:=.fork b (f true) (f false)
theorem dx {b:Bool}{f:Bool->VC}:(fork b f).holds↔(f b).holds:=by
 constructor
 ·intro h;cases b
  ·exact h.2 rfl
  ·exact h.1 rfl
 ·intro h;cases b
  ·exact⟨(by grind),fun _=>h⟩
  ·exact⟨fun _=>h,(by grind)⟩
inductive SV where
 | int (k:IntKind) (l:Bool) (n:Int)
 | bool (l:Bool) (b:Bool)
 | str (l:Bool) (s:List UInt8)
 | ptr (key:Nat) (ol:Bool) (o:Nat)
 | o5 (key w i k:Nat)
 | tM (key base n i:Nat)
 | cc
 | slc (key:Nat) (o n:Nat) (cl:Bool) (c:Nat)
 | bI (key w:Nat) (z:Bool) (i n c:Nat)
 | cC (key w:Nat) (z:Bool) (o i n c:Nat)
 | lA (key w o i k:Nat)
 | aO
 | agg (cs:List SV)
 | bL (vs:List SV)
 | iface (t:TypeId) (v:SV)
 | aZ
 | func (fn:Fn) (first captured:List SV)
 | gL
 | yield (key:Nat)
 | map (key:Nat)
 | iy
 | raw (v:Value)
 | iq (key a o:Nat)
 | fq (key w:Nat) (z:Bool) (a i n c:Nat)
 | su (key w a i k:Nat)
mutual
def SV.val (E:Nat->Nat):SV->Value
 | .int k _ n=>.int k n
 | .bool _ b=>.bool b
 | .str _ s=>.string ⟨s.toArray⟩
 | .ptr key _ o=>.pointer (some ⟨E key,o,none⟩)
 | .o5 key w i k=>.pointer (some ⟨E key,i*w+k,none⟩)
 | .tM key base _ i=>.pointer (some ⟨E key,base+i,none⟩)
 | .cc=>.pointer none
 | .slc key o n _ c=>.slice (some ⟨E key,o,none⟩) n c
 | .bI key w z i n c=>.slice (bif z&&Nat.beq n 0 then none else some ⟨E key,i*w,none⟩) n (bif z&&Nat.beq n 0 then 0 else c)
 | .cC key w z o i n c=>.slice (bif z&&Nat.beq n 0 then none else some ⟨E key,o+i*w,none⟩) n (bif z&&Nat.beq n 0 then 0 else c)
 | .lA key w o i k=>.pointer (some ⟨E key,o+i*w+k,none⟩)
 | .aO=>.slice none 0 0
 | .agg cs=>.agg (SV.vals E cs).toArray
 | .bL vs=>.tuple (SV.vals E vs).toArray
 | .iface t v=>.iface t (v.val E)
 | .aZ=>.nilIface
 | .func fn a b=>.func fn (SV.vals E a).toArray (SV.vals E b).toArray
 | .gL=>.nilFunc
 | .yield key=>.func (.yield (E key)) #[] #[]
 | .map key=>.map (some (E key))
 | .iy=>.map none
 | .raw v=>v
 | .iq _ a o=>.pointer (some ⟨a,o,none⟩)
 | .fq _ w z a i n c=>.slice (bif z&&Nat.beq n 0 then none else some ⟨a,i*w,none⟩) n (bif z&&Nat.beq n 0 then 0 else c)
 | .su _ w a i k=>.pointer (some ⟨a,i*w+k,none⟩)
def SV.vals (E:Nat->Nat):List SV->List Value
 | []=>[]
 | x::r=>x.val E::SV.vals E r
end
theorem SV.bA (E:Nat->Nat)(l:List SV):SV.vals E l=l.map (SV.val E):=by
 induction l with
 | nil=>rfl
 | cons x r ih=>simp[SV.vals,ih]
mutual
def SV.wf (nx:Nat):SV->Bool
 | .ptr key _ _=>Nat.blt key nx
 | .o5 key _ _ _=>Nat.blt key nx
 | .tM key _ _ _=>Nat.blt key nx
 | .slc key _ _ _ _=>Nat.blt key nx
 | .bI key _ _ _ _ _=>Nat.blt key nx
 | .cC key _ _ _ _ _ _=>Nat.blt key nx
 | .lA key _ _ _ _=>Nat.blt key nx
 | .map key=>Nat.blt key nx
 | .yield key=>Nat.blt key nx
 | .agg cs=>SV.gM nx cs
 | .bL vs=>SV.gM nx vs
 | .iface _ v=>v.wf nx
 | .func _ a b=>SV.gM nx a&&SV.gM nx b
 | _=>true
def SV.gM (nx:Nat):List SV->Bool
 | []=>true
 | x::r=>x.wf nx&&SV.gM nx r
end
mutual
theorem SV.val_congr {E E':Nat->Nat}{nx:Nat}(h: ∀ k,k<nx->E' k=E k):(v:SV)->v.wf nx=true->v.val E'=v.val E
 | .int ..,_=>rfl
 | .bool ..,_=>rfl
 | .str ..,_=>rfl
 | .ptr key _ _,hw=>by simp[SV.wf,Nat.blt_eq] at hw;simp[SV.val,h key hw]
 | .o5 key _ _ _,hw=>by simp[SV.wf,Nat.blt_eq] at hw;simp[SV.val,h key hw]
 | .tM key _ _ _,hw=>by simp[SV.wf,Nat.blt_eq] at hw;simp[SV.val,h key hw]
 | .cc,_=>rfl
 | .slc key _ _ _ _,hw=>by simp[SV.wf,Nat.blt_eq] at hw;simp[SV.val,h key hw]
 | .bI key _ _ _ _ _,hw=>by simp[SV.wf,Nat.blt_eq] at hw;simp[SV.val,h key hw]
 | .cC key _ _ _ _ _ _,hw=>by simp[SV.wf,Nat.blt_eq] at hw;simp[SV.val,h key hw]
 | .lA key _ _ _ _,hw=>by simp[SV.wf,Nat.blt_eq] at hw;simp[SV.val,h key hw]
 | .aO,_=>rfl
 | .agg cs,hw=>by simp only[SV.wf] at hw;simp only[SV.val,SV.iC h cs hw]
 | .bL vs,hw=>by simp only[SV.wf] at hw;simp only[SV.val,SV.iC h vs hw]
 | .iface _ v,hw=>by simp only[SV.wf] at hw;simp only[SV.val,SV.val_congr h v hw]
 | .aZ,_=>rfl
 | .func _ a b,hw=>by simp only[SV.wf,Bool.and_eq_true] at hw;simp only[SV.val,SV.iC h a hw.1,SV.iC h b hw.2]
 | .gL,_=>rfl
 | .map key,hw=>by simp[SV.wf,Nat.blt_eq] at hw;simp[SV.val,h key hw]
 | .yield key,hw=>by simp[SV.wf,Nat.blt_eq] at hw;simp[SV.val,h key hw]
 | .iy,_=>rfl
 | .raw _,_=>rfl
 | .iq ..,_=>rfl
 | .fq ..,_=>rfl
 | .su ..,_=>rfl
theorem SV.iC {E E':Nat->Nat}{nx:Nat}(h: ∀ k,k<nx->E' k=E k):(l:List SV)->SV.gM nx l=true->SV.vals E' l=SV.vals E l
 | [],_=>rfl
 | x::r,hw=>by simp only[SV.gM,Bool.and_eq_true] at hw;simp only[SV.vals,SV.val_congr h x hw.1,SV.iC h r hw.2]
end
mutual
theorem SV.j0 {n m:Nat}(h:n<=m):(v:SV)->v.wf n=true->v.wf m=true
 | .int ..,_=>rfl
 | .bool ..,_=>rfl
 | .str ..,_=>rfl
 | .ptr key _ _,hw=>by simp[SV.wf,Nat.blt_eq] at hw ⊢;omega
 | .o5 key _ _ _,hw=>by simp[SV.wf,Nat.blt_eq] at hw ⊢;omega
 | .tM key _ _ _,hw=>by simp[SV.wf,Nat.blt_eq] at hw ⊢;omega
 | .cc,_=>rfl
 | .slc key _ _ _ _,hw=>by simp[SV.wf,Nat.blt_eq] at hw ⊢;omega
 | .bI key _ _ _ _ _,hw=>by simp[SV.wf,Nat.blt_eq] at hw ⊢;omega
 | .cC key _ _ _ _ _ _,hw=>by simp[SV.wf,Nat.blt_eq] at hw ⊢;omega
 | .lA key _ _ _ _,hw=>by simp[SV.wf,Nat.blt_eq] at hw ⊢;omega
 | .aO,_=>rfl
 | .agg cs,hw=>by simp only[SV.wf] at hw ⊢;exact SV.l8 h cs hw
 | .bL vs,hw=>by simp only[SV.wf] at hw ⊢;exact SV.l8 h vs hw
 | .iface _ v,hw=>by simp only[SV.wf] at hw ⊢;exact SV.j0 h v hw
 | .aZ,_=>rfl
 | .func _ a b,hw=>by simp only[SV.wf,Bool.and_eq_true] at hw ⊢;exact⟨SV.l8 h a hw.1,SV.l8 h b hw.2⟩
 | .gL,_=>rfl
 | .map key,hw=>by simp[SV.wf,Nat.blt_eq] at hw ⊢;omega
 | .yield key,hw=>by simp[SV.wf,Nat.blt_eq] at hw ⊢;omega
 | .iy,_=>rfl
 | .raw _,_=>rfl
 | .iq ..,_=>rfl
 | .fq ..,_=>rfl
 | .su ..,_=>rfl
theorem SV.l8 {n m:Nat}(h:n<=m):(l:List SV)->SV.gM n l=true->SV.gM m l=true
 | [],_=>rfl
 | x::r,hw=>by simp only[SV.gM,Bool.and_eq_true] at hw ⊢;exact⟨SV.j0 h x hw.1,SV.l8 h r hw.2⟩
end
def SV.rC:SV->Bool
 | .agg _ | .bL _=>false
 | .raw (.pointer _)=>true
 | .raw _=>false
 | _=>true
theorem SV.vB {E:Nat->Nat}{v:SV}(h:v.rC=true):(v.val E).oneCell'=true:=by
 cases v
 case raw u=>cases u<;>simp_all [SV.rC,SV.val,Value.oneCell']
 all_goals simp_all [SV.rC,SV.val,Value.oneCell']
def SV.cells:SV->List SV
 | .agg cs=>cs
 | v=>[v]
def SV.plain:SV->Bool
 | .raw (.pointer _)=>true
 | .raw _=>false
 | _=>true
theorem SV.gX {E:Nat->Nat}{v:SV}(h:v.plain=true):(v.val E).cells=(v.cells.map (SV.val E)).toArray:=by
 cases v
 case raw u=>cases u<;>simp_all [SV.plain,SV.cells,SV.val,Value.cells]
 all_goals simp_all [SV.plain,SV.cells,SV.val,Value.cells,SV.bA]
def SV.Bx:Value->Option SV
 | .int k n=>some (.int k true n)
 | .bool b=>some (.bool true b)
 | .string s=>some (.str true s.data.toList)
 | .pointer none=>some .cc
 | .slice none 0 0=>some .aO
 | .map none=>some .iy
 | .nilFunc=>some .gL
 | .nilIface=>some .aZ
 | _=>none
def SV.sN:List Value->Option (List SV)
 | []=>some []
 | v::r=>match SV.Bx v,SV.sN r with
   | some x,some l=>some (x::l)
   | _,_=>none
def SV.ofConst:Value->Option SV
 | .agg cs=>match SV.sN cs.toList with
   | some l=>some (.agg l)
   | none=>none
 | v=>SV.Bx v
theorem SV.By {E:Nat->Nat}{v:Value}{x:SV}(h:SV.Bx v=some x):x.val E=v:=by unfold SV.Bx at h;split at h<;>first | (injection h with h;subst h;simp[SV.val];done) | cases h
theorem SV.Tn {E:Nat->Nat}{l:List Value}{xs:List SV}(h:SV.sN l=some xs):xs.map (SV.val E)=l:=by
 induction l generalizing xs with
 | nil=>grind [SV.sN]
 | cons v r ih =>grind [SV.By,SV.sN]
theorem SV.FW {E:Nat->Nat}{v:Value}{x:SV}(h:SV.ofConst v=some x):x.val E=v:=by
 unfold SV.ofConst at h;split at h
 ·split at h
  ·rename_i cs l hl;injection h with h;subst h;have:=SV.Tn (E:=E) hl;simp[SV.val,SV.bA,this]
  ·cases h
 ·exact SV.By h
inductive aK where
 | int (k:IntKind) (f:Nat->Int)
 | bool (f:Nat->Bool)
 | str (f:Nat->List UInt8)
 | raw (f:Nat->Value)
 | ref (key:Nat) (f:Nat->Nat)
 | fq (key w:Nat) (z:Bool) (f n c:Nat->Nat)
def aK.at (i:Nat):aK->SV
 | .int k f=>.int k false (f i)
 | .bool f=>.bool false (f i)
 | .str f=>.str false (f i)
 | .raw f=>.raw (f i)
 | .ref key f=>.iq key (f i) 0
 | .fq key w z f n c=>.fq key w z (f i) 0 (n i) (c i)
theorem aK.L7 (i nx:Nat)(c:aK):(c.at i).wf nx=true:=by cases c<;>rfl
inductive dm where
 | int (k:IntKind) (f:Nat->Nat->Int)
 | bool (f:Nat->Nat->Bool)
 | str (f:Nat->Nat->List UInt8)
 | ref (key:Nat) (f:Nat->Nat->Nat)
def dm.at (a:Nat):dm->aK
 | .int k f=>.int k (f a)
 | .bool f=>.bool (f a)
 | .str f=>.str (f a)
 | .ref key f=>.ref key (f a)
mutual
def SV.hint:SV->Bool
 | .iq .. =>true
 | .fq .. =>true
 | .su .. =>true
 | .agg l=>SV.hints l
 | .bL l=>SV.hints l
 | .iface _ v=>v.hint
 | .func _ a b=>SV.hints a||SV.hints b
 | _=>false
def SV.hints:List SV->Bool
 | []=>false
 | x::r=>x.hint||SV.hints r
end
inductive fD where
 | int (k:IntKind) (g:List UInt8->Int)
 | raw (g:List UInt8->Value)
 | ref (key:Nat) (g:List UInt8->Nat)
def fD.val (s:List UInt8):fD->Value
 | .int k g=>.int k (g s)
 | .raw g=>g s
 | .ref _ g=>.pointer (some ⟨g s,0,none⟩)
def sk (s:List UInt8):Value:=.string ⟨s.toArray⟩
structure GY (d:List UInt8->Bool)(c:fD)(pend:Option (List UInt8×Int))(es:Array MapEntry)(clock:Nat):Prop where
 st:MapKept.Stamped es clock
 ks: ∀ x∈ es.toList,MapKept.IsKey .string x.key
 has: ∀ s,d s=true->∃ e∈ es.toList,e.key=sk s/\e.val=c.val s
 no: ∀ s,d s=false->∀ e∈ es.toList,e.key≠sk s
 pd: ∀ s b,pend=some (s,b)->∃ e∈ es.toList,(e.born:Int)=b/\e.key=sk s
inductive SB where
 | cells (cs:List SV) (tot:Nat) (ty:TypeId)
 | rows (z:Bool) (n:Nat) (av:List aK) (ro:Bool) (tot:Nat) (ty:TypeId)
 | view (z:Bool) (o n:Nat) (av:List aK)
 | loop (st:LoopState) (pend:Option Code) (R:Loop)
 | map (es:List (Nat×SV×SV)) (clock:Nat)
 | fmap (d:List UInt8->Bool) (c:fD) (pend:Option (List UInt8×Int))
 | Qn (mp:Option Nat) (since:Nat) (seen:List Nat) (last:Nat)
 | vq (D:Nat->Bool) (cs:List aK) (tot:Nat) (ty:TypeId) (fro:Bool)
 | lH (D:Nat->Bool) (n:Nat->Nat) (av:List dm) (fro:Bool)
def V1 (nx:Nat):List (Nat×SV×SV)->Bool
 | []=>true
 | e::r=>e.2.1.wf nx&&e.2.2.wf nx&&V1 nx r
def SB.ro:SB->Bool
 | .cells .. =>false
 | .rows _ _ _ ro _ _=>ro
 | .view .. =>true
 | .vq _ _ _ _ ro=>ro
 | .lH _ _ _ ro=>ro
 | _=>false
def SB.no:SB->Bool
 | .cells .. =>false
 | .rows z n _ _ _ _=>z&&Nat.beq n 0
 | .view z _ n _=>z&&Nat.beq n 0
 | .vq .. =>true
 | .lH .. =>true
 | _=>false
theorem SB.mc {z:Bool}{n:Nat}{av:List aK}{ro:Bool}{tot:Nat}{ty:TypeId}{i:Nat}(h:i<n):(SB.rows z n av ro tot ty).no=false:=by
 have:Nat.beq n 0=false:=by cases n with
  | zero=>omega
  | succ n=>rfl
 grind [SB.no]
theorem SB.HD {z:Bool}{n:Nat}{av:List aK}{o i:Nat}(h:i<n):(SB.view z o n av).no=false:=by
 have:Nat.beq n 0=false:=by cases n with
  | zero=>omega
  | succ n=>rfl
 grind [SB.no]
def SB.wf (nx:Nat):SB->Bool
 | .cells cs _ _=>SV.gM nx cs
 | .rows .. =>true
 | .view .. =>true
 | .loop .. =>true
 | .map es _=>V1 nx es
 | .fmap .. =>true
 | .Qn mp _ _ _=>match mp with
   | some k=>Nat.blt k nx
   | none=>true
 | .vq .. =>true
 | .lH .. =>true
abbrev Mem:=List (Nat×SB)
def Mem.get (key:Nat):Mem->Option SB
 | []=>none
 | e::r=>if e.1=key then some e.2 else Mem.get key r
def Mem.put (key:Nat)(B:SB):Mem->Mem
 | []=>[]
 | e::r=>if e.1=key then(e.1,B)::r else e::Mem.put key B r
def Mem.drop (key:Nat):Mem->Mem
 | []=>[]
 | e::r=>if e.1=key then Mem.drop key r else e::Mem.drop key r
def Mem.wf (nx:Nat):Mem->Bool
 | []=>true
 | e::r=>e.2.wf nx&&Mem.wf nx r
theorem Mem.kT {key:Nat}{B:SB}{m:Mem}{k:Nat}{X:SB}(h:(Mem.put key B m).get k=some X) :
  (k=key/\X=B/\(m.get k).isSome)∨(k≠key/\m.get k=some X):=by
 induction m with
 | nil=>grind [Mem.put,Mem.get]
 | cons e r ih =>
   by_cases he:e.1=key
   ·by_cases hk:key=k
    ·subst hk;rw[Mem.put,if_pos he,Mem.get,if_pos he] at h;injection h with h;exact .inl ⟨rfl,h.symm,by rw[Mem.get,if_pos he];rfl⟩
    ·rw[Mem.put,if_pos he,Mem.get,if_neg (by omega)] at h;rw[Mem.get,if_neg (by omega)]
     grind
   ·rw[Mem.put,if_neg he] at h;by_cases hk:e.1=k
    ·rw[Mem.get,if_pos hk] at h ⊢
     grind
    ·rw[Mem.get,if_neg hk] at h ⊢;exact ih h
theorem Mem.Wd {key:Nat}{B:SB}{m:Mem}{k:Nat}(h:k≠key):(Mem.put key B m).get k=m.get k:=by
 induction m with
 | nil=>rfl
 | cons e r ih =>
   by_cases he:e.1=key
   ·rw[Mem.put,if_pos he,Mem.get,if_neg (by omega),Mem.get,if_neg (by omega)]
   ·rw[Mem.put,if_neg he];by_cases hk:e.1=k
    ·rw[Mem.get,if_pos hk,Mem.get,if_pos hk]
    ·rw[Mem.get,if_neg hk,Mem.get,if_neg hk];exact ih
theorem Mem.hG {key:Nat}{m:Mem}{k:Nat}{X:SB}(h:(Mem.drop key m).get k=some X):k≠key/\m.get k=some X:=by
 induction m with
 | nil=>grind [Mem.drop,Mem.get]
 | cons e r ih =>
   by_cases he:e.1=key
   ·rw[Mem.drop,if_pos he] at h;have:=ih h;refine⟨this.1,?_⟩;rw[Mem.get,if_neg (by omega)];exact this.2
   ·rw[Mem.drop,if_neg he] at h;by_cases hk:e.1=k
    ·rw[Mem.get,if_pos hk] at h ⊢
     grind
    ·rw[Mem.get,if_neg hk] at h ⊢;exact ih h
theorem Mem.Rj {nx:Nat}{m:Mem}(h:m.wf nx=true){k:Nat}{B:SB}(hg:m.get k=some B):B.wf nx=true:=by
 induction m with
 | nil=>cases hg
 | cons e r ih =>
   simp only[Mem.wf,Bool.and_eq_true] at h;by_cases hk:e.1=k
   ·simp only[Mem.get,hk,if_true] at hg;grind
   ·simp only[Mem.get,hk,if_false] at hg;grind
def cu (E:Nat->Nat)(es:List (Nat×SV×SV)):List MapEntry:=es.map fun p=>{key:=p.2.1.val E,val:=p.2.2.val E,born:=p.1}
def bw (E:Nat->Nat):SB->Obj->Prop
 | .cells cs tot ty,o=>∃ c fr,o=.cells c ty fr/\(∀ i,c.size<=i∨¬ (fr.1<=i/\i<fr.2)) /\
    (∀(i:Nat) (v:SV),cs[i]?=some v->c[i]?=some (v.val E))/\c.size=tot
 | .rows _ n av ro tot ty,o=>∃ c fr,o=.cells c ty fr/\(ro=false->∀ i,c.size<=i∨¬ (fr.1<=i/\i<fr.2)) /\
    n*av.length<=c.size/\c.size=tot/\(∀(i k:Nat) (col:aK),i<n->av[k]?=some col->c[i*av.length+k]?=some ((col.at i).val E))
 | .view _ o n av,ob=>∃ c ty fr,ob=.cells c ty fr/\(∀(i k:Nat) (col:aK),i<n->av[k]?=some col->c[o+i*av.length+k]?=some ((col.at i).val E))
 | .loop st pend R,ob=>ob=.loop {R with state:=st,pending:=pend}
 | .map es clock,ob=>ob=.map (cu E es).toArray clock
 | .fmap d c pend,ob=>∃ es clock,ob=.map es clock/\GY d c pend es clock
 | .Qn mp since seen last,ob=>ob=.mapIter (mp.map E) since seen.toArray last
 | .vq ..,_=>False
 | .lH ..,_=>False
theorem Ip {E E':Nat->Nat}{nx:Nat}(h: ∀ k,k<nx->E' k=E k): ∀ {es:List (Nat×SV×SV)},V1 nx es=true->cu E' es=cu E es
 | [],_=>rfl
 | e::r,hw=>by
   simp only[V1,Bool.and_eq_true] at hw;have:=Ip h hw.2
   grind [SV.val_congr,cu]
theorem Mk {n m:Nat}(h:n<=m): ∀ {es:List (Nat×SV×SV)},V1 n es=true->V1 m es=true
 | [],_=>rfl
 | e::r,hw=>by simp only[V1,Bool.and_eq_true] at hw ⊢;exact⟨⟨SV.j0 h _ hw.1.1,SV.j0 h _ hw.1.2⟩,Mk h hw.2⟩
theorem SB.j0 {n m:Nat}(h:n<=m){B:SB}(hw:B.wf n=true):B.wf m=true:=by
 cases B with
 | cells cs tot ty=>exact SV.l8 h cs hw
 | map es c=>exact Mk h hw
 | Qn mp a b c=>cases mp with
   | none=>rfl
   | some k=>grind [Nat.blt_eq,SB.wf]
 | _=>rfl
theorem SV.zT {nx:Nat}{l:List SV}(h:SV.gM nx l=true){i:Nat}{v:SV}(hg:l[i]?=some v):v.wf nx=true:=by
 induction l generalizing i with
 | nil=>cases hg
 | cons x r ih =>
   simp only[SV.gM,Bool.and_eq_true] at h
   grind
theorem bw.congr {E E':Nat->Nat}{nx:Nat}(h: ∀ k,k<nx->E' k=E k){B:SB}(hw:B.wf nx=true){o:Obj}(hb:bw E B o):bw E' B o:=by
 cases B with
 | cells cs tot ty =>obtain⟨c,fr,rfl,h1,h2,h3⟩:=hb;exact⟨c,fr,rfl,h1,fun i v hv=>by rw[SV.val_congr h v (SV.zT hw hv)];grind,h3⟩
 | rows z n av ro tot ty =>obtain⟨c,fr,rfl,h1,h2,ht,h3⟩:=hb;exact⟨c,fr,rfl,h1,h2,ht,fun i k col hi hk=>by rw[SV.val_congr h _ (aK.L7 i nx col)];grind⟩
 | view z o n av =>obtain⟨c,ty,fr,rfl,h3⟩:=hb;exact⟨c,ty,fr,rfl,fun i k col hi hk=>by rw[SV.val_congr h _ (aK.L7 i nx col)];grind⟩
 | loop st pend R=>exact hb
 | map es clock=>subst hb;show _=_;rw[Ip h hw]
 | fmap=>exact hb
 | Qn mp since seen last =>
   subst hb;cases mp with
   | none=>rfl
   | some k =>
     have hk:k<nx:=by grind [Nat.blt_eq,SB.wf]
     grind [Sx.bw]
 | vq=>exact hb.elim
 | lH=>exact hb.elim
theorem bw.pG {E:Nat->Nat}{B:SB}{o:Obj}(h:bw E B o)(ds:Option (List Deferred)):o≠.deferred ds:=by
 cases B with
 | cells=>obtain⟨c,fr,rfl,_⟩:=h;grind
 | rows=>obtain⟨c,fr,rfl,_⟩:=h;grind
 | view=>obtain⟨c,ty,fr,rfl,_⟩:=h;grind
 | loop=>subst h;grind
 | map=>subst h;grind
 | fmap=>obtain⟨es,c,rfl,_⟩:=h;grind
 | Qn=>subst h;grind
 | vq=>exact h.elim
 | lH=>exact h.elim
def SB.nj:SB->Bool
 | .vq .. =>true
 | .lH .. =>true
 | _=>false
def SB.jD (b:Nat):SB->Nat->Prop
 | .vq D _ _ _ _,a=>D a=true
 | .lH D _ _ _,a=>D a=true
 | B,a=>B.no=false/\a=b
def SB.el:SB->Nat->SB
 | .vq _ cs tot ty _,a=>.cells (cs.map (aK.at a)) tot ty
 | .lH _ n av _,a=>.view false 0 (n a) (av.map (dm.at a))
 | B,_=>B
theorem SB.Bu {B:SB}(h:B.no=false):B.nj=false:=by cases B<;>first | rfl | cases h
theorem SB.oV {B:SB}(h:B.nj=false){a b:Nat}:B.jD b a↔B.no=false/\a=b:=by cases B<;>first | exact Iff.rfl | cases h
theorem SB.nv {B:SB}(h:B.no=false)(b:Nat):B.jD b b:=(by grind [SB.oV,SB.Bu])
theorem SB.xq {B:SB}(h:B.nj=false)(a:Nat):B.el a=B:=by cases B<;>first | rfl | cases h
theorem SB.akN {B:SB}(h:B.nj=true){a b b':Nat}:B.jD b a->B.jD b' a:=by cases B<;>first | exact id | cases h
theorem aK.adL (a:Nat): ∀ l:List aK,SV.gM 0 (l.map (aK.at a))=true
 | []=>rfl
 | c::r=>by simp only[List.map_cons,SV.gM,aK.L7,aK.adL a r,Bool.and_self]
theorem SB.YC {B:SB}{nx:Nat}(h:B.wf nx=true)(a:Nat):(B.el a).wf nx=true:=by cases B<;>first | exact h | exact SV.l8 (Nat.zero_le _) _ (aK.adL a _) | rfl
structure Ext (M:Nat->Prop)(w w':World):Prop where
 os:w'.os=w.os
 tape:w'.tape=w.tape
 output:w'.output=w.output
 size:w.heap.size<=w'.heap.size
 block: ∀ k,k<w.heap.size->¬ M k->w'.heap[k]?=w.heap[k]?
theorem Ext.refl (M:Nat->Prop)(w:World):Ext M w w:=⟨rfl,rfl,rfl,Nat.le_refl _,fun _ _ _=>rfl⟩
theorem Ext.trans {M:Nat->Prop}{a b c:World}(h:Ext M a b)(k:Ext M b c):Ext M a c :=
 ⟨k.os.trans h.os,k.tape.trans h.tape,k.output.trans h.output,Nat.le_trans h.size k.size,
  fun i hi hm=>(k.block i (Nat.lt_of_lt_of_le hi h.size) hm).trans (h.block i hi hm)⟩
theorem Ext.below {M:Nat->Prop}{a b:World}(h:Ext M a b)(hM: ∀ k,¬ M k):RowKit.Below a.heap.size a b :=⟨h.os,h.tape,h.output,h.size,fun k hk=>h.block k hk (hM k)⟩
theorem Ext.agm {M:Nat->Prop}{a b:World}(h:RowKit.Below a.heap.size a b):Ext M a b :=⟨h.os,h.tape,h.output,h.size,fun k hk _=>h.block k hk⟩
def w6 (w:World):Prop:=∀ p∈ xA,∃ c ty fr,w.heap[p.1]?=some (.cells c ty fr)/\∀(i:Nat) (v:Value),p.2[i]?=some v->c[i]?=some v
structure aQ where
 w0:World
 M0:Nat->Prop
 E0:Nat->Nat
 wB:Nat
 keep:List Nat
 gl:w6 w0
 gm: ∀ p∈ xA,¬ M0 p.1
 tail:List Deferred:=[]
 rf:Bool:=true
def aQ.own (Γ:aQ):aQ:={Γ with tail:=[],rf:=true}
structure aQ.le (Γ Δ:aQ):Prop where
 w:Δ.w0=Γ.w0
 m:Δ.M0=Γ.M0
 nx:Γ.wB<=Δ.wB
 e: ∀ k,k<Γ.wB->Δ.E0 k=Γ.E0 k
 keep: ∀ D,D∈ Γ.keep->D∈ Δ.keep
theorem aQ.le_refl (Γ:aQ):Γ.le Γ:=⟨rfl,rfl,Nat.le_refl _,fun _ _=>rfl,fun _ h=>h⟩
theorem aQ.le_trans {Γ Δ Θ:aQ}(h:Γ.le Δ)(h':Δ.le Θ):Γ.le Θ :=⟨h'.w.trans h.w,h'.m.trans h.m,Nat.le_trans h.nx h'.nx,fun k hk=>(h'.e k (Nat.lt_of_lt_of_le hk h.nx)).trans (h.e k hk),fun D hD=>h'.keep D (h.keep D hD)⟩
structure aG (Γ:aQ)(E:Nat->Nat)(m:Mem)(nx:Nat)(w:World):Prop where
 jK: ∀ k B a,m.get k=some B->B.jD (E k) a->∃ o,w.heap[a]?=some o/\bw E (B.el a) o
 j9: ∀ k k' B B' a,m.get k=some B->B.jD (E k) a->m.get k'=some B'->B'.jD (E k') a->(B.ro=false∨B'.ro=false)->k=k'
 lt: ∀ k B,m.get k=some B->k<nx
 lE: ∀ k B a,m.get k=some B->B.jD (E k) a->B.ro=false->Γ.M0 a∨Γ.w0.heap.size<=a
 ext:Ext Γ.M0 Γ.w0 w
 cx:Γ.wB<=nx/\∀ k,k<Γ.wB->E k=Γ.E0 k
 kp: ∀ D∈ Γ.keep,w.heap[D]?=some (.deferred (some []))
section
variable {Γ : aQ} {E : Nat -> Nat} {m : Mem} {nx : Nat} {w : World}
theorem aG.qD (h:aG Γ E m nx w)(k:Nat)(B:SB)(hk:m.get k=some B)(hn:B.no=false): ∃ o,w.heap[E k]?=some o/\bw E B o:=by
 have:=h.jK k B (E k) hk (SB.nv hn _)
 grind [SB.xq,SB.Bu]
theorem aG.inj (h:aG Γ E m nx w)(k k':Nat)(B B':SB)(hk:m.get k=some B)(hn:B.no=false)(hk':m.get k'=some B')(hn':B'.no=false)(hr:B.ro=false∨B'.ro=false)(e:E k=E k'):k=k' :=h.j9 k k' B B' (E k) hk (SB.nv hn _) hk' (by grind [SB.nv]) hr
theorem aG.own (h:aG Γ E m nx w)(k:Nat)(B:SB)(hk:m.get k=some B)(hn:B.no=false)(hr:B.ro=false):Γ.M0 (E k)∨Γ.w0.heap.size<=E k:=h.lE k B _ hk (SB.nv hn _) hr
theorem aG.glt (h:aG Γ E m nx w){k:Nat}{B:SB}{a:Nat}(hk:m.get k=some B)(ha:B.jD (E k) a):a<w.heap.size:=by
 obtain⟨o,ho,_⟩:=h.jK k B a hk ha
 grind
end
theorem aQ.agt (Γ:aQ):Γ.le Γ.own:=⟨rfl,rfl,Nat.le_refl _,fun _ _=>rfl,fun _ h=>h⟩
theorem aG.aqh {Γ E m nx w}(h:aG Γ E m nx w):aG Γ.own E m nx w:=⟨h.jK,h.j9,h.lt,h.lE,h.ext,h.cx,h.kp⟩
theorem aG.GV {Γ:aQ}{E m nx w}(h:aG Γ.own E m nx w):aG Γ E m nx w:=⟨h.jK,h.j9,h.lt,h.lE,h.ext,h.cx,h.kp⟩
theorem aG.G2 {Γ E m nx w}(h:aG Γ E m nx w):w6 w:=fun p hp=>by obtain⟨c,ty,fr,hg,hc⟩:=Γ.gl p hp;exact⟨c,ty,fr,by rw[h.ext.block p.1 (Array.getElem?_eq_some_iff.1 hg).1 (Γ.gm p hp)];exact hg,hc⟩
theorem aG.drew {Γ E m nx w}(h:aG Γ E m nx w)(n:Nat):aG Γ E m nx {w with drawn:=n} :=⟨h.jK,h.j9,h.lt,h.lE,⟨h.ext.os,h.ext.tape,h.ext.output,h.ext.size,h.ext.block⟩,h.cx,h.kp⟩
theorem aG.sub {Γ E m nx w}(h:aG Γ E m nx w){m':Mem}(hs: ∀ k B,m'.get k=some B->m.get k=some B){nx':Nat}
  (hn: ∀ k B,m'.get k=some B->k<nx') (hnx:nx<=nx'∨Γ.wB<=nx'):aG Γ E m' nx' w :=
 ⟨fun k B a hk=>h.jK k B a (hs k B hk),fun k k' B B' a hk hn hk'=>h.j9 k k' B B' a (hs _ _ hk) hn (hs _ _ hk'),hn,fun k B a hk=>h.lE k B a (hs k B hk),h.ext,⟨by rcases hnx with h1 | h1;exact Nat.le_trans h.cx.1 h1;exact h1,h.cx.2⟩,h.kp⟩
theorem Mem.jt {k0:Nat}{B0:SB}{m:Mem}{k:Nat}{B:SB}(h:Mem.get k ((k0,B0)::m)=some B):(k=k0/\B=B0)∨(k≠k0/\m.get k=some B):=by
 by_cases e:k0=k
 ·simp only[Mem.get,e,if_true] at h;grind
 ·simp only[Mem.get,e,if_false] at h;grind
theorem aG.amE {Γ E m nx w}(h:aG Γ E m nx w)(hw:Mem.wf nx m=true){m':Mem}(hsub: ∀ k B,m'.get k=some B->m.get k=some B){b:Nat}{B:SB}{w':World}
  (hB: ∀ a,B.jD b a->(∃ o,w'.heap[a]?=some o/\bw (fun k=>if k=nx then b else E k) (B.el a) o)/\(B.ro=false->Γ.M0 a∨Γ.w0.heap.size<=a)/\∀ k X,m'.get k=some X->¬ X.jD (E k) a)
  (hkeep: ∀ k X a,m'.get k=some X->X.jD (E k) a->w'.heap[a]?=w.heap[a]?) (hx:Ext Γ.M0 Γ.w0 w') (hkp: ∀ D∈ Γ.keep,w'.heap[D]?=w.heap[D]?) :
  aG Γ (fun k=>if k=nx then b else E k) ((nx,B)::m') (nx+1) w':=by
 have hE': ∀ k,k<nx->(fun k=>if k=nx then b else E k) k=E k:=(by grind)
 have hg: ∀ {k X a},Mem.get k ((nx,B)::m')=some X->X.jD ((fun k=>if k=nx then b else E k) k) a->(k=nx/\X=B/\B.jD b a)∨(m'.get k=some X/\X.jD (E k) a):=fun hk ha=>by
  rcases Mem.jt hk with ⟨rfl,rfl⟩ | ⟨hne,hk⟩
  ·grind
  grind
 refine⟨fun k X a hk ha=> ?_,fun k k' X X' a hk ha hk' ha' hr=> ?_,fun k X hk=> ?_,fun k X a hk ha hro=> ?_,hx,⟨Nat.le_succ_of_le h.cx.1,fun k hk=>(hE' k (Nat.lt_of_lt_of_le hk h.cx.1)).trans (h.cx.2 k hk)⟩,fun D hD=>by rw[hkp D hD];exact h.kp D hD⟩
 ·rcases hg hk ha with ⟨_,rfl,hn⟩ | ⟨hk,ha⟩
  ·grind
  ·obtain⟨o,ho,hb⟩:=h.jK k X a (hsub k X hk) ha;exact⟨o,by grind,hb.congr hE' (by grind [SB.YC,Mem.Rj])⟩
 ·rcases hg hk ha with ⟨e1,_,h1⟩ | ⟨hk1,ha1⟩<;>rcases hg hk' ha' with ⟨e2,_,h2⟩ | ⟨hk2,ha2⟩
  ·omega
  ·grind
  ·grind
  ·exact h.j9 k k' X X' a (hsub _ _ hk1) ha1 (hsub _ _ hk2) ha2 hr
 ·rcases Mem.jt hk with ⟨rfl,rfl⟩ | ⟨hne,hk⟩
  ·omega
  ·have:=h.lt k X (hsub k X hk);omega
 ·rcases hg hk ha with ⟨_,rfl,hn⟩ | ⟨hk,ha⟩
  ·grind
  ·exact h.lE k X a (hsub k X hk) ha hro
theorem aG.push {Γ E m nx w}(h:aG Γ E m nx w)(hw:Mem.wf nx m=true){m':Mem}(hsub: ∀ k B,m'.get k=some B->m.get k=some B){b:Nat}{B:SB}{w':World}
  (hE: ∀ k X a,m'.get k=some X->X.jD (E k) a->a≠b) (hkeep: ∀ i,i≠b->i<w.heap.size->w'.heap[i]?=w.heap[i]?) (hx:Ext Γ.M0 Γ.w0 w')
  (hown:B.no=false->B.ro=false->Γ.M0 b∨Γ.w0.heap.size<=b) (hkb: ∀ D∈ Γ.keep,D≠b)
  (hB:B.no=false->∃ o,w'.heap[b]?=some o/\bw (fun k=>if k=nx then b else E k) B o) (hF:B.nj=false) :
  aG Γ (fun k=>if k=nx then b else E k) ((nx,B)::m') (nx+1) w':=by
 refine h.amE hw hsub (fun a ha=> ?_) (fun k X a hk ha=>hkeep a (hE k X a hk ha) (h.glt (hsub k X hk) ha)) hx (fun D hD=>hkeep D (hkb D hD) (Array.getElem?_eq_some_iff.1 (h.kp D hD)).1)
 grind [SB.oV,SB.xq]
theorem bw.nj {E:Nat->Nat}{B:SB}{o:Obj}(h:bw E B o):B.nj=false:=by cases B<;>first | rfl | exact h.elim
theorem aG.alloc {Γ E m nx w}(h:aG Γ E m nx w)(hw:Mem.wf nx m=true){B:SB}{o:Obj}
  (hB:bw (fun k=>if k=nx then w.heap.size else E k) B o) :
  aG Γ (fun k=>if k=nx then w.heap.size else E k) ((nx,B)::m) (nx+1) {w with heap:=w.heap.push o}:=by
 refine h.push hw (fun _ _ h=>h) (fun k X a hk ha=>Nat.ne_of_lt (h.glt hk ha)) (fun i hi hlt=> ?_) ⟨h.ext.os,h.ext.tape,h.ext.output,?_,fun k hk hm=> ?_⟩ (fun _ _=>.inr h.ext.size) (fun D hD=>Nat.ne_of_lt (Array.getElem?_eq_some_iff.1 (h.kp D hD)).1) (fun _=>⟨o,by simp,hB⟩) hB.nj
 ·show(w.heap.push o)[i]?=_;rw[Array.getElem?_push,if_neg hi]
 ·have:=h.ext.size;simp;omega
 ·show(w.heap.push o)[k]?=_;have:=h.ext.size;rw[Array.getElem?_push,if_neg (by omega)];exact h.ext.block k hk hm
theorem aG.pG {Γ E m nx w}(h:aG Γ E m nx w){k:Nat}{B:SB}(hk:m.get k=some B)(hn:B.no=false): ∀ D∈ Γ.keep,D≠E k:=fun D hD e=>by obtain⟨o,ho,hb⟩:=h.qD k B hk hn;have:=h.kp D hD;rw[e,ho] at this;exact hb.pG _ (Option.some.inj this)
theorem aG.RX {Γ E m nx w}(h:aG Γ E m nx w){k:Nat}{B:SB}(hk:m.get k=some B)(hn:B.no=false)(hro:B.ro=false)(o:Obj) :
  Ext Γ.M0 Γ.w0 {w with heap:=w.heap.setIfInBounds (E k) o}:=by
 refine⟨h.ext.os,h.ext.tape,h.ext.output,by simpa using h.ext.size,fun i hi hm=> ?_⟩;show(w.heap.setIfInBounds (E k) o)[i]?=_;have:E k≠i:=fun e=>by
  rcases h.own k B hk hn hro with h' | h'
  ·grind
  ·omega
 rw[Array.getElem?_setIfInBounds_ne this];exact h.ext.block i hi hm
theorem aG.write {Γ E m nx w}(h:aG Γ E m nx w){k:Nat}{B B':SB}(hk:m.get k=some B)(hn:B.no=false)(hro:B.ro=false){o:Obj}
  (hB:bw E B' o) (hro':B'.ro=false):aG Γ E (m.put k B') nx {w with heap:=w.heap.setIfInBounds (E k) o}:=by
 obtain⟨o0,ho0,_⟩:=h.qD k B hk hn;have hlt:=(Array.getElem?_eq_some_iff.1 ho0).1;have hg: ∀ {j X a},(m.put k B').get j=some X->X.jD (E j) a->(j=k/\X=B'/\a=E k)∨(m.get j=some X/\X.jD (E j) a/\a≠E k):=fun hj ha=>by
  rcases Mem.kT hj with ⟨rfl,rfl,_⟩ | ⟨hne,hj⟩
  ·exact .inl ⟨rfl,rfl,((SB.oV hB.nj).1 ha).2⟩
  ·exact .inr ⟨hj,ha,fun e=>hne (h.j9 _ k _ B _ hj ha hk (by grind [SB.nv]) (.inr hro))⟩
 refine⟨fun j X a hj ha=> ?_,fun j j' X X' a hj ha hj' ha' hr=> ?_,fun j X hj=> ?_,fun j X a hj ha hr=> ?_,h.RX hk hn hro o,h.cx,fun D hD=> ?_⟩
 ·rcases hg hj ha with ⟨_,rfl,rfl⟩ | ⟨hj,ha,hne⟩
  ·exact⟨o,by simp[hlt],by rw[SB.xq hB.nj];exact hB⟩
  ·obtain⟨o',ho',hb⟩:=h.jK j X a hj ha
   grind
 ·rcases hg hj ha with ⟨e1,_,e⟩ | ⟨hj1,ha1,hne⟩<;>rcases hg hj' ha' with ⟨e2,_,e'⟩ | ⟨hj2,ha2,hne'⟩
  ·omega
  ·omega
  ·omega
  ·exact h.j9 _ _ _ _ _ hj1 ha1 hj2 ha2 hr
 ·rcases Mem.kT hj with ⟨rfl,_,hs⟩ | ⟨_,hj⟩
  ·exact h.lt _ _ hk
  ·exact h.lt _ _ hj
 ·rcases hg hj ha with ⟨_,rfl,rfl⟩ | ⟨hj,ha,_⟩
  ·exact h.own _ _ hk hn hro
  ·exact h.lE _ _ _ hj ha hr
 ·show(w.heap.setIfInBounds (E k) o)[D]?=_;rw[Array.getElem?_setIfInBounds_ne (fun e=>h.pG hk hn D hD e.symm)];exact h.kp D hD
theorem aG.ajx {Γ E m nx w}(h:aG Γ E m nx w){k:Nat}{D:Nat->Bool}{cs cs':List aK}{tot:Nat}{ty:TypeId}(hk:m.get k=some (.vq D cs tot ty false)){b:Nat}(hb:D b=true){o:Obj}
  (hB:bw E (.cells (cs'.map (aK.at b)) tot ty) o) (hs: ∀ a,a≠b->cs'.map (aK.at a)=cs.map (aK.at a)):aG Γ E (m.put k (.vq D cs' tot ty false)) nx {w with heap:=w.heap.setIfInBounds b o}:=by
 have hlt:=h.glt (a:=b) hk hb;have hg: ∀ {j X a},(m.put k (.vq D cs' tot ty false)).get j=some X->X.jD (E j) a->∃ X0,m.get j=some X0/\X0.jD (E j) a/\(a≠b->X.el a=X0.el a)/\(a=b->j=k/\X=.vq D cs' tot ty false)/\X.ro=X0.ro:=fun {j X a} hj ha=>by
  rcases Mem.kT hj with ⟨rfl,rfl,_⟩ | ⟨hne,hj⟩
  ·exact⟨_,hk,ha,fun e=>congrArg (fun l=>SB.cells l tot ty) (hs a e),fun _=>⟨rfl,rfl⟩,rfl⟩
  ·exact⟨X,hj,ha,fun _=>rfl,fun e=>absurd (h.j9 _ k _ _ a hj ha hk (by subst e;exact hb) (.inr rfl)) hne,rfl⟩
 refine⟨fun j X a hj ha=> ?_,fun j j' X X' a hj ha hj' ha' hr=> ?_,fun j X hj=> ?_,fun j X a hj ha hr=> ?_,⟨h.ext.os,h.ext.tape,h.ext.output,by simpa using h.ext.size,fun i hi hm=> ?_⟩,h.cx,fun D' hD=> ?_⟩
 ·obtain⟨X0,h1,h2,h3,h4,_⟩:=hg hj ha;by_cases e:a=b
  ·obtain⟨_,rfl⟩:=h4 e;subst e;exact⟨o,by simp[hlt],hB⟩
  ·obtain⟨o',ho',hb'⟩:=h.jK j X0 a h1 h2
   grind
 ·obtain⟨X0,h1,h2,_,_,h5⟩:=hg hj ha;obtain⟨X0',h1',h2',_,_,h5'⟩:=hg hj' ha';exact h.j9 j j' X0 X0' a h1 h2 h1' h2' (by grind)
 ·rcases Mem.kT hj with ⟨rfl,_,_⟩ | ⟨_,hj⟩
  ·exact h.lt _ _ hk
  ·exact h.lt _ _ hj
 ·obtain⟨X0,h1,h2,_,_,h5⟩:=hg hj ha;exact h.lE j X0 a h1 h2 (by grind)
 ·show(w.heap.setIfInBounds b o)[i]?=_;have:b≠i:=fun e=>by
   rcases h.lE k _ b hk hb rfl with h' | h'
   ·grind
   ·omega
  rw[Array.getElem?_setIfInBounds_ne this];exact h.ext.block i hi hm
 ·show(w.heap.setIfInBounds b o)[D']?=_;rw[Array.getElem?_setIfInBounds_ne (fun e=> ?_)]
  ·exact h.kp D' hD
  ·obtain⟨o',ho',hb'⟩:=h.jK k _ b hk hb;rw[e,h.kp D' hD] at ho';exact hb'.pG _ (Option.some.inj ho').symm
theorem aG.move {Γ E m nx w}(h:aG Γ E m nx w)(hw:Mem.wf nx m=true){k:Nat}{B B':SB}(hk:m.get k=some B)(hn:B.no=false)(hro:B.ro=false){o:Obj}
  (hB:bw (fun j=>if j=nx then E k else E j) B' o) :
  aG Γ (fun j=>if j=nx then E k else E j) ((nx,B')::m.drop k) (nx+1) {w with heap:=w.heap.setIfInBounds (E k) o}:=by
 obtain⟨o0,ho0,_⟩:=h.qD k B hk hn;have hlt:=(Array.getElem?_eq_some_iff.1 ho0).1
 refine h.push hw (by grind [Mem.hG]) (fun j X a hj ha e=>(Mem.hG hj).1 (h.j9 j k X B a (Mem.hG hj).2 ha hk (by grind [SB.nv]) (.inr hro))) (fun i hi hl=> ?_) (h.RX hk hn hro o)
  (fun _ _=>h.own k B hk hn hro) (h.pG hk hn) (by grind) hB.nj
 grind
def af (B B':SB):Prop:=B'.nj=B.nj/\∀ b a,B'.jD b a->B.jD b a/\(∀ E o,bw E (B.el a) o->bw E (B'.el a) o)/\(B'.ro=false->B.ro=false)
theorem af.refl (B:SB):af B B:=(by grind [Sx.af])
theorem af.of {B B':SB}(hB:B.nj=false)(hB':B'.nj=false)(h:B'.no=false->B.no=false/\(∀ E o,bw E B o->bw E B' o)/\(B'.ro=false->B.ro=false)):af B B' :=⟨hB'.trans hB.symm,(by grind [SB.oV,SB.xq])⟩
theorem af.old {B B':SB}(h:af B B')(hn:B'.no=false):B.no=false/\(∀ E o,bw E B o->bw E B' o)/\(B'.ro=false->B.ro=false):=by have hF:=SB.Bu hn;obtain⟨h1,h2⟩:=h.2 0 0 (SB.nv hn 0);rw[SB.xq hF,SB.xq (h.1.symm.trans hF)] at h2;exact⟨((SB.oV (h.1.symm.trans hF)).1 h1).1,h2⟩
theorem af.trans {A B C:SB}(h:af A B)(h':af B C):af A C:=⟨h'.1.trans h.1,fun b a ha=>by obtain⟨h1,h2,h3⟩:=h'.2 b a ha;obtain⟨g1,g2,g3⟩:=h.2 b a h1;exact⟨g1,fun E o x=>h2 E o (g2 E o x),fun x=>g3 (h3 x)⟩⟩
theorem aG.conv {Γ E m nx w}(h:aG Γ E m nx w){m':Mem}(hm: ∀ k Y,m'.get k=some Y->∃ X,m.get k=some X/\∀ a,Y.jD (E k) a->X.jD (E k) a/\(∀ o,bw E (X.el a) o->bw E (Y.el a) o)/\(Y.ro=false->X.ro=false)):aG Γ E m' nx w:=by
 refine⟨fun i Z a hi ha=> ?_,fun i i' Z Z' a hi ha hi' ha' hr=> ?_,fun i Z hi=> ?_,fun i Z a hi ha hr=> ?_,h.ext,h.cx,h.kp⟩
 ·obtain⟨X,h1,h2⟩:=hm i Z hi;obtain⟨g1,g2,_⟩:=h2 a ha;obtain⟨o,ho,hb⟩:=h.jK i X a h1 g1
  grind
 ·obtain⟨X,h1,h2⟩:=hm i Z hi;obtain⟨X',h1',h2'⟩:=hm i' Z' hi';exact h.j9 i i' X X' a h1 (h2 a ha).1 h1' (h2' a ha').1 (by grind)
 ·obtain⟨X,h1,_⟩:=hm i Z hi;exact h.lt i X h1
 ·obtain⟨X,h1,h2⟩:=hm i Z hi;exact h.lE i X a h1 (h2 a ha).1 (by grind)
theorem aG.swap {Γ E m nx w}(h:aG Γ E m nx w){j:Nat}{X Y:SB}(hX:m.get j=some X)(hle:af X Y):aG Γ E (m.put j Y) nx w:=h.conv fun i Z hi=>by
 rcases Mem.kT hi with ⟨rfl,rfl,_⟩ | ⟨_,hi⟩
 ·exact⟨X,hX,fun a ha=>by
   obtain⟨g1,g2,g3⟩:=hle.2 _ a ha
   grind⟩
 simp_all
theorem aG.Va {Γ E k B B' m nx w}(h:aG Γ E ((k,B)::m) nx w)(hle:af B B'):aG Γ E ((k,B')::m) nx w:=by have:=h.swap (j:=k) (X:=B) (by simp only[Mem.get,if_true]) hle;simpa only[Mem.put,if_true] using this
theorem az {P:Program}{w:World}{t:TypeId}{d:TypeDesc}(h:P.underlying t=some d):(underlying t).run P w=.ok d w:=by simp[underlying,h]
theorem nQ {P:Program}{w:World}{t:TypeId}{i:TypeInfo}(h:P.info? t=some i):(typeInfo t).run P w=.ok i w:=by simp[typeInfo,h]
def sz (P:Program)(t:TypeId):Option Nat:=match P.info? t with | some i=>some i.size | none=>none
theorem bU {P:Program}{w:World}{t:TypeId}{n:Nat}(h:sz P t=some n):(sizeOf t).run P w=.ok n w:=by
 unfold sz at h;split at h
 ·rename_i i hi;injection h with h;subst h;simp[sizeOf,nQ hi]
 ·cases h
def iw:TypeDesc->Bool
 | .struct _=>true
 | .array _ _=>true
 | _=>false
theorem cJ {P:Program}{w:World}{t:TypeId}{d:TypeDesc}(h:P.underlying t=some d):(isAgg t).run P w=.ok (iw d) w:=by cases d<;>simp[isAgg,az h,iw]
theorem cN (b o n:Nat):(⟨b,o,none⟩:Addr).add n=⟨b,o+n,none⟩:=by grind [Addr.add]
theorem cell_of {w:World}{b o:Nat}{c:Array Value}{ty:TypeId}{fr:Nat×Nat}(h:w.heap[b]?=some (.cells c ty fr)) :
  w.cell? ⟨b,o,none⟩=c[o]?:=by
 simp[World.cell?,h]
theorem run_loadCellsFrom {P:Program}{w:World}{b:Nat}{c:Array Value}{ty:TypeId}{fr:Nat×Nat}(h:w.heap[b]?=some (.cells c ty fr))(o:Nat) :
  ∀(vs:List Value) (i:Nat) (acc:Array Value),(∀ j v,vs[j]?=some v->c[o+i+j]?=some v) ->
   (loadCellsFrom ⟨b,o,none⟩ i vs.length acc).run P w=.ok (acc++vs.toArray) w:=by
 intro vs;induction vs with
 | nil=>intro i acc _;simp[loadCellsFrom]
 | cons v r ih =>
   intro i acc hv;have h0:=hv 0 v rfl;simp only[List.length_cons,loadCellsFrom,Sem.run_bind,run_load,cN,cell_of h];rw[show o+i+0=o+i from rfl] at h0
   rw[h0];simp only[Result.andThen_ok];rw[ih (i+1) (acc.push v) (fun j u hu=>by have:=hv (j+1) u (by simpa using hu);rw[← this];congr 1;omega)];simp
theorem run_loadCells {P:Program}{w:World}{b:Nat}{c:Array Value}{ty:TypeId}{fr:Nat×Nat}(h:w.heap[b]?=some (.cells c ty fr))(o:Nat)
  (vs:List Value) (hv: ∀(j:Nat) v,vs[j]?=some v->c[o+j]?=some v) :
  (loadCells ⟨b,o,none⟩ vs.length).run P w=.ok vs.toArray w:=by
 grind [run_loadCellsFrom,loadCells]
def jQ (cs:List SV)(o n:Nat):Option (List SV) :=
 match o,cs with
 | 0,cs=>(match n,cs with
   | 0,_=>some []
   | n+1,x::r=>(match jQ r 0 n with | some l=>some (x::l) | none=>none)
   | _+1,[]=>none)
 | o+1,_::r=>jQ r o n
 | _+1,[]=>none
termination_by structural cs
theorem cW: ∀ {cs:List SV} {o n:Nat} {l:List SV},jQ cs o n=some l->l.length=n/\∀ j v,l[j]?=some v->cs[o+j]?=some v
 | cs,0,0,l,h=>by cases cs<;>simp[jQ] at h<;>subst h<;>simp
 | [],0,n+1,l,h=>by simp[jQ] at h
 | x::r,0,n+1,l,h=>by
   simp only[jQ] at h;split at h
   ·rename_i l' hl;injection h with h;subst h;have:=cW hl;refine⟨by simp[this.1],fun j v hj=> ?_⟩;cases j with
    | zero=>simpa using hj
    | succ j=>have:=this.2 j v (by simpa using hj);simpa using this
   ·cases h
 | [],o+1,n,l,h=>by simp[jQ] at h
 | x::r,o+1,n,l,h=>by simp only[jQ] at h;have:=cW h;refine⟨this.1,fun j v hj=> ?_⟩;have:=this.2 j v hj;rw[show o+1+j=(o+j)+1 by omega];simpa using this
abbrev QT:=(Option SV->VC)->VC
abbrev qA:=Nat->Option SB
def Compat (E:Nat->Nat)(look:qA)(w:World):Prop:=(∀ k B,look k=some B->B.no=false->∃ o,w.heap[E k]?=some o/\bw E B o)/\w6 w/\∀ k B a,look k=some B->B.jD (E k) a->∃ o,w.heap[a]?=some o/\bw E (B.el a) o
def Reads (E:Nat->Nat)(σ:Operand->Option SV)(ρ:Operand->Value):Prop:=∀ x v,σ x=some v->ρ x=v.val E
def aM (P:Program)(look:qA)(σ:Operand->Option SV)(s:(Operand->Value)->Sem Value)(t:QT):Prop :=
 ∃(obl:Prop) (sv:Option SV),(∀ K,(t K).holds↔obl/\(K sv).holds) /\
  (∀ E w ρ,Compat E look w->Reads E σ ρ->obl->∃ r,(s ρ).run P w=.ok r w/\∀ v,sv=some v->r=v.val E)
section
variable {P : Program} {look : qA} {σ : Operand -> Option SV} {s : (Operand -> Value) -> Sem Value}
theorem aM.fail (why:String):aM P look σ s (fun _=>.fail why) :=⟨False,none,fun _K=>⟨fun h=>h.elim,fun h=>h.1.elim⟩,fun _ _ _ _ _ h=>h.elim⟩
theorem aM.k (sv:Option SV)(h: ∀ E w ρ,Compat E look w->Reads E σ ρ->∃ r,(s ρ).run P w=.ok r w/\∀ v,sv=some v->r=v.val E) :
  aM P look σ s (fun K=>K sv) :=
 ⟨True,sv,(by grind),(by grind)⟩
theorem aM.v (v:SV)(h: ∀ E w ρ,Compat E look w->Reads E σ ρ->(s ρ).run P w=.ok (v.val E) w):aM P look σ s (fun K=>K (some v)) :=aM.k _ (by grind)
theorem aM.atom {p:Prop}{t:QT}(h:p->aM P look σ s t):aM P look σ s (fun K=>.and (.atom p) (t K)):=by
 by_cases hp:p
 ·obtain⟨obl,sv,h1,h2⟩:=h hp;exact⟨obl,sv,fun K=>⟨fun x=>(h1 K).1 x.2,fun x=>⟨hp,(h1 K).2 x⟩⟩,h2⟩
 ·exact⟨False,none,fun K=>⟨fun x=>(hp x.1).elim,fun x=>x.1.elim⟩,fun _ _ _ _ _ h=>h.elim⟩
theorem aM.fork {b:Bool}{t:Bool->QT}(h:aM P look σ s (t b)):aM P look σ s (fun K=>Sx.fork b (fun c=>t c K)):=by obtain⟨obl,sv,h1,h2⟩:=h;exact⟨obl,sv,(by grind [dx]),h2⟩
theorem aM.ite {c:Prop}[Decidable c]{t u:QT}(h:c->aM P look σ s t)(h': ¬ c->aM P look σ s u) :
  aM P look σ s (fun K=>if c then t K else u K):=by
 by_cases hc:c
 ·simp_all
 simp_all
end
def lo:IntKind->Int
 | .i8=> -128 | .i16=> -32768 | .i32=> -2147483648 | .i64=> -9223372036854775808
 | _=>0
def hi:IntKind->Int
 | .i8=>127 | .i16=>32767 | .i32=>2147483647 | .i64=>9223372036854775807
 | .u8=>255 | .u16=>65535 | .u32=>4294967295 | .u64=>18446744073709551615
def md:IntKind->Int
 | .i8 | .u8=>256 | .i16 | .u16=>65536 | .i32 | .u32=>4294967296 | .i64 | .u64=>18446744073709551616
theorem zV {k:IntKind}{n:Int}(h:lo k<=n/\n<=hi k):k.wrap n=n:=by obtain⟨h1,h2⟩:=h;cases k<;>simp only[lo,hi] at h1 h2<;>simp only[IntKind.wrap,IntKind.bits,IntKind.signed]<;>simp<;>(try split)<;>omega
theorem amd {k:IntKind}(hs:k.signed=false)(n:Int):k.wrap n=n% md k:=by cases k<;>simp[IntKind.signed] at hs<;>simp[IntKind.wrap,IntKind.bits,IntKind.signed,md]
def Bi (k:IntKind):List SV->Option (List Int)
 | []=>some []
 | .int k' _ n::r=>if k=k' then(match Bi k r with
   | some l=>some (n::l)
   | none=>none)else none
 | _::_=>none
def afs:List SV->IntKind
 | .int k _ _::_=>k
 | _=>.i64
def LR (l:List Int)(i:Nat):Int:=l.getD i 0
theorem vA {k:IntKind}: ∀ {cs:List SV} {l:List Int},Bi k cs=some l->l.length=cs.length/\∀(i:Nat) (v:SV),cs[i]?=some v->∃ b,v=.int k b (LR l i)
 | [],l,h=>by simp[Bi] at h;subst h;exact⟨rfl,fun i v hv=>by simp at hv⟩
 | .int k' b n::r,l,h=>by
   simp only[Bi] at h;split at h
   ·rename_i e;subst e;split at h
    ·rename_i l' hl;injection h with h;subst h;obtain⟨h1,h2⟩:=vA hl;refine⟨by simp[h1],fun i v hv=> ?_⟩;cases i with
     | zero=>simp at hv;subst hv;exact⟨b,rfl⟩
     | succ i=>obtain⟨b',hb⟩:=h2 i v (by simpa using hv);exact⟨b',by rw[hb];rfl⟩
    ·cases h
   ·cases h
def tH:List SV->Option (List (List UInt8))
 | []=>some []
 | .str _ s::r=>(match tH r with
   | some l=>some (s::l)
   | none=>none)
 | _::_=>none
def lZ (l:List (List UInt8))(i:Nat):List UInt8:=l.getD i []
theorem sn: ∀ {cs:List SV} {l:List (List UInt8)},tH cs=some l->∀(i:Nat) (v:SV),cs[i]?=some v->∃ b,v=.str b (lZ l i)
 | [],l,h,i,v,hv=>by simp at hv
 | .str b s::r,l,h,i,v,hv=>by
   simp only[tH] at h;split at h
   ·rename_i l' hl;injection h with h;subst h;cases i with
    | zero=>simp at hv;subst hv;exact⟨b,rfl⟩
    | succ i=>obtain⟨b',hb⟩:=sn hl i v (by simpa using hv);exact⟨b',by rw[hb];rfl⟩
   ·cases h
theorem BN: ∀ {cs:List SV} {l:List (List UInt8)},tH cs=some l->l.length=cs.length
 | [],l,h=>by simp[tH] at h;subst h;rfl
 | .str b s::r,l,h=>by
   simp only[tH] at h;split at h
   ·rename_i l' hl;injection h with h;subst h;simp[BN hl]
   ·cases h
def p6 (av:List aK)(i k n:Nat):Option (List SV):=jQ (av.map (aK.at i)) k n
noncomputable def PI (g:Nat):List (Nat×Array Value)->Option (Array Value)
 | []=>none
 | e::r=>if e.1=g then some e.2 else PI g r
theorem Be {g:Nat}: ∀ {l:List (Nat×Array Value)} {cs:Array Value},PI g l=some cs->(g,cs)∈ l
 | [],_,h=>by cases h
 | e::r,cs,h=>by
   simp only[PI] at h;split at h
   ·rename_i he;injection h with h;subst h;subst he;exact List.mem_cons_self ..
   ·exact List.mem_cons_of_mem _ (Be h)
def SV.W5:Value->Option SV
 | .iface t (.agg cs)=>some (.iface t (.agg (cs.toList.map SV.raw)))
 | v=>SV.Bx v
theorem SV.W6 {E:Nat->Nat}{v:Value}{x:SV}(h:SV.W5 v=some x):x.val E=v:=by
 unfold SV.W5 at h;split at h
 ·injection h with h;subst h;have: ∀ l:List Value,SV.vals E (l.map SV.raw)=l:=by
   intro l;induction l with
   | nil=>rfl
   | cons a r ih=>grind [SV.vals,SV.val]
  simp[SV.val,this]
 ·exact SV.By h
def DO (k:IntKind):List Value->Option (List Int)
 | []=>some []
 | .int k' n::r=>if k=k' then(match DO k r with
   | some l=>some (n::l)
   | none=>none)else none
 | _::_=>none
def alG:List Value->Option IntKind
 | .int k _::_::_=>some k
 | _=>none
theorem GW {k:IntKind}: ∀ {cs:List Value} {l:List Int},DO k cs=some l->l.length=cs.length/\∀(i:Nat),i<l.length->cs[i]?=some (.int k (LR l i))
 | [],l,h=>by simp[DO] at h;subst h;exact⟨rfl,fun i hi=>absurd hi (Nat.not_lt_zero _)⟩
 | v::r,l,h=>by
   unfold DO at h;split at h
   ·rename_i e;cases e
   ·rename_i k' n r' e;injection e with e1 e2;subst e1;subst e2;split at h
    ·rename_i e;subst e;split at h
     ·rename_i l' hl;injection h with h;subst h;obtain⟨h1,h2⟩:=GW hl;refine⟨by simp[h1],fun i hi=> ?_⟩;cases i with
      | zero=>rfl
      | succ i=>simpa [LR] using h2 i (by simpa using hi)
     ·cases h
    ·cases h
   ·cases h
def jn (c:aK)(o:Nat):Nat->List SV
 | 0=>[]
 | n+1=>c.at o::jn c (o+1) n
theorem sD (c:aK): ∀(n o:Nat),(jn c o n).length=n
 | 0,_=>rfl
 | n+1,o=>by simp[jn,sD c n (o+1)]
theorem xo (c:aK): ∀(n o j:Nat) (v:SV),(jn c o n)[j]?=some v->j<n/\v=c.at (o+j)
 | 0,_,j,v,h=>by simp[jn] at h
 | n+1,o,0,v,h=>by simp[jn] at h;grind
 | n+1,o,j+1,v,h=>by
   simp only[jn,List.getElem?_cons_succ] at h;obtain⟨h1,h2⟩:=xo c n (o+1) j v h
   grind
noncomputable def Zm (P:Program)(look:qA)(t:TypeId)(a:Option SV)(K:Option SV->VC):VC :=
 match P.underlying t with
 | none=>.fail "load: no type"
 | some d =>
   match a with
   | some (.ptr key true o)=>(match look key with
     | some (.cells cs _ _)=>(match iw d with
       | true=>(match sz P t with
         | some n=>(match jQ cs o n with
           | some l=>K (some (.agg l))
           | none=>.fail "load: not so many cells")
         | none=>.fail "load: no size")
       | false=>(match cs[o]? with
         | some v=>K (some v)
         | none=>.fail "load: no such cell"))
     | some (.rows false n [c] _ _ _)=>(match iw d with
       | true=>(match sz P t with
         | some m=>.and (.atom (o+m<=n)) (K (some (.agg (jn c o m))))
         | none=>.fail "load: no size")
       | false=>.and (.atom (o<n)) (K (some (c.at o))))
     | _=>.fail "load: no such block")
   | some (.o5 key w i k)=>(match look key with
     | some (.rows _z n av _ro _tot _ty)=>(if av.length=w then(match iw d with
       | true=>(match sz P t with
         | some m=>(match p6 av i k m with
           | some l=>.and (.atom (i<n)) (K (some (.agg l)))
           | none=>.fail "load: not so many columns")
         | none=>.fail "load: no size")
       | false=>(match av[k]? with
         | some c=>.and (.atom (i<n)) (K (some (c.at i)))
         | none=>.fail "load: no such column"))else .fail "load: another row")
     | _=>.fail "load: not a row")
   | some (.lA key w o i k)=>(match look key with
     | some (.view _z o' n av)=>(if av.length=w then(match iw d with
       | true=>(match sz P t with
         | some m=>(match p6 av i k m with
           | some l=>.and (.atom (o'=o/\i<n)) (K (some (.agg l)))
           | none=>.fail "load: not so many columns")
         | none=>.fail "load: no size")
       | false=>(match av[k]? with
         | some c=>.and (.atom (o'=o/\i<n)) (K (some (c.at i)))
         | none=>.fail "load: no such column"))else .fail "load: another row")
     | _=>.fail "load: not a view")
   | some (.tM key base n i)=>(match look key with
     | some (.cells cs _ _)=>(match iw d,jQ cs base n with
       | false,some l=>(match Bi (afs l) l with
         | some zs=>.and (.atom (i<n)) (K (some (.int (afs l) false (LR zs i))))
         | none=>(match tH l with
           | some ss=>.and (.atom (i<n)) (K (some (.str false (lZ ss i))))
           | none=>.fail "load: no integers"))
       | _,_=>.fail "load: not so many cells")
     | some (.rows false nb [c] _ _ _)=>(match iw d with
       | false=>.and (.atom (i<n/\base+i<nb)) (K (some (c.at (base+i))))
       | true=>.fail "load: not so many cells")
     | _=>.fail "load: no such block")
   | some (.raw (.pointer (some ⟨g,o,none⟩)))=>(match iw d,PI g xA with
     | false,some cs=>(match alG cs.toList with
       | some k=>(match DO k cs.toList with
         | some zs=>.and (.atom (o<zs.length)) (K (some (.int k false (LR zs o))))
         | none=>.fail "load: what a variable holds")
       | none=>(match o with
         | 0=>(match cs[0]? with
           | some v=>(match SV.W5 v with
             | some x=>K (some x)
             | none=>.fail "load: what a variable holds")
           | none=>.fail "load: no cell")
         | _+1=>.fail "load: a variable's element"))
     | _,_=>.fail "load: a variable that is not listed")
   | some (.iq key a o)=>(match look key with
     | some (.vq D cs _ _ _)=>(match iw d with
       | true=>(match sz P t with
         | some m=>(match p6 cs a o m with
           | some l=>.and (.atom (D a=true)) (K (some (.agg l)))
           | none=>.fail "load: not so many columns")
         | none=>.fail "load: no size")
       | false=>(match cs[o]? with
         | some c=>.and (.atom (D a=true)) (K (some (c.at a)))
         | none=>.fail "load: no such column"))
     | _=>.fail "load: no family")
   | some (.su key w a i k)=>(match look key with
     | some (.lH D n av _)=>(if(av.map (dm.at a)).length=w then(match iw d with
       | true=>(match sz P t with
         | some m=>(match p6 (av.map (dm.at a)) i k m with
           | some l=>.and (.atom (D a=true/\i<n a)) (K (some (.agg l)))
           | none=>.fail "load: not so many columns")
         | none=>.fail "load: no size")
       | false=>(match(av.map (dm.at a))[k]? with
         | some c=>.and (.atom (D a=true/\i<n a)) (K (some (c.at i)))
         | none=>.fail "load: no such column"))else .fail "load: another row")
     | _=>.fail "load: no family")
   | _=>.fail "load: no pointer"
theorem agH {P:Program}{look:qA}{σ:Operand->Option SV}(t:TypeId)(x:Operand) :
  aM P look σ (fun ρ=>Instr.loadAt t (ρ x)) (Zm P look t (σ x)):=by
 unfold Zm;cases hd:P.underlying t with
 | none=>exact aM.fail _
 | some d =>
   simp only;split
   ·rename_i key o hx;split
    ·rename_i cs tot ty hk;cases ha:iw d with
     | true =>
       simp only;cases hn:sz P t with
       | none=>exact aM.fail _
       | some n =>
         simp only;cases hl:jQ cs o n with
         | none=>exact aM.fail _
         | some l =>
           refine aM.v _ fun E w ρ hc hr=> ?_;obtain⟨ob,ho,c,fr,rfl,_,h2,_⟩:=hc.1 key _ hk rfl;have hg:=cW hl;have hll:=run_loadCells (P:=P) ho o (l.map (SV.val E)) (fun j v hj=>by
            rw[List.getElem?_map] at hj;cases hjl:l[j]? with
            | none=>rw[hjl] at hj;cases hj
            | some u=>rw[hjl] at hj;injection hj with hj;subst hj;exact h2 _ _ (hg.2 j u hjl))
           rw[List.length_map,hg.1] at hll;simp[Instr.loadAt,hr x _ hx,SV.val,Instr.sureAddr,loadVar,cJ hd,ha,bU hn,hll,SV.bA]
     | false =>
       simp only;cases hv:cs[o]? with
       | none=>exact aM.fail _
       | some v =>refine aM.v _ fun E w ρ hc hr=> ?_;obtain⟨ob,ho,c,fr,rfl,_,h2,_⟩:=hc.1 key _ hk rfl;simp[Instr.loadAt,hr x _ hx,SV.val,Instr.sureAddr,loadVar,cJ hd,ha,cell_of ho,h2 _ _ hv]
    ·rename_i n col ro tot ty hk;cases ha:iw d with
     | true =>
       simp only;cases hn:sz P t with
       | none=>exact aM.fail _
       | some m =>
         refine aM.atom fun hi=>aM.v _ fun E w ρ hc hr=> ?_;obtain⟨ob,ho,c,fr,rfl,_,_,_,h2⟩:=hc.1 key _ hk rfl;have hll:=run_loadCells (P:=P) ho o ((jn col o m).map (SV.val E)) (fun j v hj=>by
          rw[List.getElem?_map] at hj;cases hjl:(jn col o m)[j]? with
          | none=>rw[hjl] at hj;cases hj
          | some u =>rw[hjl] at hj;injection hj with hj;subst hj;obtain⟨g1,g2⟩:=xo col m o j u hjl;subst g2;have:=h2 (o+j) 0 col (by omega) rfl;simpa using this)
         rw[List.length_map,sD] at hll;simp[Instr.loadAt,hr x _ hx,SV.val,Instr.sureAddr,loadVar,cJ hd,ha,bU hn,hll,SV.bA]
     | false =>refine aM.atom fun hi=>aM.v _ fun E w ρ hc hr=> ?_;obtain⟨ob,ho,c,fr,rfl,_,_,_,h2⟩:=hc.1 key _ hk rfl;have h3:=h2 o 0 col hi rfl;simp only[List.length_cons,List.length_nil,Nat.zero_add,Nat.mul_one,Nat.add_zero] at h3;simp[Instr.loadAt,hr x _ hx,SV.val,Instr.sureAddr,loadVar,cJ hd,ha,cell_of ho,h3]
    ·exact aM.fail _
   ·rename_i key w i k hx;split
    ·rename_i z n av ro tot ty hk;refine aM.ite (fun hw=> ?_) (fun _=>aM.fail _);subst hw;cases ha:iw d with
     | true =>
       simp only;cases hn:sz P t with
       | none=>exact aM.fail _
       | some m =>
         simp only;cases hl:p6 av i k m with
         | none=>exact aM.fail _
         | some l =>
           refine aM.atom fun hi=>aM.v _ fun E w ρ hc hr=> ?_;obtain⟨ob,ho,c,fr,rfl,_,h1,_,h2⟩:=hc.1 key _ hk (SB.mc hi);have hg:=cW hl;have hll:=run_loadCells (P:=P) ho (i*av.length+k) (l.map (SV.val E)) (fun j v hj=>by
            rw[List.getElem?_map] at hj;cases hjl:l[j]? with
            | none=>rw[hjl] at hj;cases hj
            | some u =>
              rw[hjl] at hj;injection hj with hj;subst hj;have:=hg.2 j u hjl;rw[List.getElem?_map] at this;cases hcl:av[k+j]? with
              | none=>rw[hcl] at this;cases this
              | some col =>rw[hcl] at this;injection this with this;subst this;rw[Nat.add_assoc];exact h2 i (k+j) col hi hcl)
           rw[List.length_map,hg.1] at hll;simp[Instr.loadAt,hr x _ hx,SV.val,Instr.sureAddr,loadVar,cJ hd,ha,bU hn,hll,SV.bA]
     | false =>
       simp only;cases hv:av[k]? with
       | none=>exact aM.fail _
       | some col =>refine aM.atom fun hi=>aM.v _ fun E w ρ hc hr=> ?_;obtain⟨ob,ho,c,fr,rfl,_,h1,_,h2⟩:=hc.1 key _ hk (SB.mc hi);simp[Instr.loadAt,hr x _ hx,SV.val,Instr.sureAddr,loadVar,cJ hd,ha,cell_of ho,h2 _ _ _ hi hv]
    ·exact aM.fail _
   ·rename_i key w o i k hx;split
    ·rename_i z o' n av hk;refine aM.ite (fun hw=> ?_) (fun _=>aM.fail _);subst hw;cases ha:iw d with
     | true =>
       simp only;cases hn:sz P t with
       | none=>exact aM.fail _
       | some m =>
         simp only;cases hl:p6 av i k m with
         | none=>exact aM.fail _
         | some l =>
           refine aM.atom fun hlh=>aM.v _ fun E w ρ hc hr=> ?_;obtain⟨rfl,hi⟩:=hlh;obtain⟨ob,ho,c,ty,fr,rfl,h2⟩:=hc.1 key _ hk (SB.HD hi);have hg:=cW hl;have hll:=run_loadCells (P:=P) ho (o'+i*av.length+k) (l.map (SV.val E)) (fun j v hj=>by
            rw[List.getElem?_map] at hj;cases hjl:l[j]? with
            | none=>rw[hjl] at hj;cases hj
            | some u =>
              rw[hjl] at hj;injection hj with hj;subst hj;have:=hg.2 j u hjl;rw[List.getElem?_map] at this;cases hcl:av[k+j]? with
              | none=>rw[hcl] at this;cases this
              | some col =>rw[hcl] at this;injection this with this;subst this;rw[Nat.add_assoc];exact h2 i (k+j) col hi hcl)
           rw[List.length_map,hg.1] at hll;simp[Instr.loadAt,hr x _ hx,SV.val,Instr.sureAddr,loadVar,cJ hd,ha,bU hn,hll,SV.bA]
     | false =>
       simp only;cases hv:av[k]? with
       | none=>exact aM.fail _
       | some col =>refine aM.atom fun hlh=>aM.v _ fun E w ρ hc hr=> ?_;obtain⟨rfl,hi⟩:=hlh;obtain⟨ob,ho,c,ty,fr,rfl,h2⟩:=hc.1 key _ hk (SB.HD hi);simp[Instr.loadAt,hr x _ hx,SV.val,Instr.sureAddr,loadVar,cJ hd,ha,cell_of ho,h2 _ _ _ hi hv]
    ·exact aM.fail _
   ·rename_i key base n i hx;split
    ·rename_i cs tot ty hk;split
     ·rename_i l ha hl;split
      ·rename_i zs hz;refine aM.atom fun hi=>aM.v _ fun E w ρ hc hr=> ?_;obtain⟨ob,ho,c,fr,rfl,_,h2,_⟩:=hc.1 key _ hk rfl;have hg:=cW hl;have hzg:=vA hz;have hil:i<l.length:=by rw[hg.1];exact hi
       obtain⟨b,hb⟩:=hzg.2 i l[i] (List.getElem?_eq_getElem hil);have:=h2 _ _ (hg.2 i l[i] (List.getElem?_eq_getElem hil));rw[hb] at this;simp[Instr.loadAt,hr x _ hx,SV.val,Instr.sureAddr,loadVar,cJ hd,ha,cell_of ho,this]
      ·split
       ·rename_i ss hz;refine aM.atom fun hi=>aM.v _ fun E w ρ hc hr=> ?_;obtain⟨ob,ho,c,fr,rfl,_,h2,_⟩:=hc.1 key _ hk rfl;have hg:=cW hl;have hil:i<l.length:=by rw[hg.1];exact hi
        obtain⟨b,hb⟩:=sn hz i l[i] (List.getElem?_eq_getElem hil);have:=h2 _ _ (hg.2 i l[i] (List.getElem?_eq_getElem hil));rw[hb] at this;simp[Instr.loadAt,hr x _ hx,SV.val,Instr.sureAddr,loadVar,cJ hd,ha,cell_of ho,this]
       ·exact aM.fail _
     ·exact aM.fail _
    ·rename_i nb col ro tot ty hk;split
     ·rename_i ha;refine aM.atom fun hi=>aM.v _ fun E w ρ hc hr=> ?_;obtain⟨ob,ho,c,fr,rfl,_,_,_,h2⟩:=hc.1 key _ hk rfl;have h3:=h2 (base+i) 0 col hi.2 rfl;simp only[List.length_cons,List.length_nil,Nat.zero_add,Nat.mul_one,Nat.add_zero] at h3;simp[Instr.loadAt,hr x _ hx,SV.val,Instr.sureAddr,loadVar,cJ hd,ha,cell_of ho,h3]
     ·exact aM.fail _
    ·exact aM.fail _
   ·rename_i g o hx;split
    ·rename_i cs ha hcs;split
     ·rename_i k hk;split
      ·rename_i zs hz;refine aM.atom fun ho=>aM.v _ fun E w ρ hc hr=> ?_;obtain⟨c,ty,fr,hg,hgc⟩:=hc.2.1 _ (Be hcs);have hv:=(GW hz).2 o ho;rw[Array.getElem?_toList] at hv;have hv:=hgc _ _ hv;simp[Instr.loadAt,hr x _ hx,SV.val,Instr.sureAddr,loadVar,cJ hd,ha,cell_of hg,hv]
      ·exact aM.fail _
     ·split
      ·split
       ·rename_i v hv;split
        ·rename_i y hy;refine aM.v _ fun E w ρ hc hr=> ?_;obtain⟨c,ty,fr,hg,hgc⟩:=hc.2.1 _ (Be hcs);simp[Instr.loadAt,hr x _ hx,SV.val,Instr.sureAddr,loadVar,cJ hd,ha,cell_of hg,hgc _ _ hv,SV.W6 hy]
        ·exact aM.fail _
       ·exact aM.fail _
      ·exact aM.fail _
    ·exact aM.fail _
   ·rename_i key a o hx;split
    ·rename_i D cs tot ty ro hk;cases ha:iw d with
     | true =>
       simp only;cases hn:sz P t with
       | none=>exact aM.fail _
       | some m =>
         simp only;cases hl:p6 cs a o m with
         | none=>exact aM.fail _
         | some l =>
           refine aM.atom fun hD=>aM.v _ fun E w ρ hc hr=> ?_;obtain⟨ob,ho,c,fr,rfl,_,h2,_⟩:=hc.2.2 key _ a hk hD;have hg:=cW hl;have hll:=run_loadCells (P:=P) ho o (l.map (SV.val E)) (fun j v hj=>by
            rw[List.getElem?_map] at hj;cases hjl:l[j]? with
            | none=>rw[hjl] at hj;cases hj
            | some u=>rw[hjl] at hj;injection hj with hj;subst hj;exact h2 _ _ (hg.2 j u hjl))
           rw[List.length_map,hg.1] at hll;simp[Instr.loadAt,hr x _ hx,SV.val,Instr.sureAddr,loadVar,cJ hd,ha,bU hn,hll,SV.bA]
     | false =>
       simp only;cases hv:cs[o]? with
       | none=>exact aM.fail _
       | some col =>refine aM.atom fun hD=>aM.v _ fun E w ρ hc hr=> ?_;obtain⟨ob,ho,c,fr,rfl,_,h2,_⟩:=hc.2.2 key _ a hk hD;simp[Instr.loadAt,hr x _ hx,SV.val,Instr.sureAddr,loadVar,cJ hd,ha,cell_of ho,h2 o (col.at a) (by rw[List.getElem?_map,hv];rfl)]
    ·exact aM.fail _
   ·rename_i key w a i k hx;split
    ·rename_i D n av ro hk;have hel:SB.el (.lH D n av ro) a=.view false 0 (n a) (av.map (dm.at a)):=rfl;generalize av.map (dm.at a)=cl at hel ⊢;refine aM.ite (fun hw=> ?_) (fun _=>aM.fail _);subst hw;cases ha:iw d with
     | true =>
       simp only;cases hn:sz P t with
       | none=>exact aM.fail _
       | some m =>
         simp only;cases hl:p6 cl i k m with
         | none=>exact aM.fail _
         | some l =>
           refine aM.atom fun hD=>aM.v _ fun E w ρ hc hr=> ?_;obtain⟨ob,ho,hb⟩:=hc.2.2 key _ a hk hD.1;rw[hel] at hb;obtain⟨c,ty,fr,rfl,h2⟩:=hb;have hg:=cW hl;have hll:=run_loadCells (P:=P) ho (i*cl.length+k) (l.map (SV.val E)) (fun j v hj=>by
            rw[List.getElem?_map] at hj;cases hjl:l[j]? with
            | none=>rw[hjl] at hj;cases hj
            | some u =>
              rw[hjl] at hj;injection hj with hj;subst hj;have:=hg.2 j u hjl;rw[List.getElem?_map] at this;cases hcl:cl[k+j]? with
              | none=>rw[hcl] at this;cases this
              | some col =>rw[hcl] at this;injection this with this;subst this;have:=h2 i (k+j) col hD.2 hcl;rw[Nat.add_assoc,← this];congr 1;omega)
           rw[List.length_map,hg.1] at hll;simp[Instr.loadAt,hr x _ hx,SV.val,Instr.sureAddr,loadVar,cJ hd,ha,bU hn,hll,SV.bA]
     | false =>
       simp only;cases hv:cl[k]? with
       | none=>exact aM.fail _
       | some col =>refine aM.atom fun hD=>aM.v _ fun E w ρ hc hr=> ?_;obtain⟨ob,ho,hb⟩:=hc.2.2 key _ a hk hD.1;rw[hel] at hb;obtain⟨c,ty,fr,rfl,h2⟩:=hb;have:=h2 i k col hD.2 hv;rw[Nat.zero_add] at this;simp[Instr.loadAt,hr x _ hx,SV.val,Instr.sureAddr,loadVar,cJ hd,ha,cell_of ho,this]
    ·exact aM.fail _
   ·exact aM.fail _
def aox (f:Field)(P:Program):Option Nat:=match sz P f.type with
 | some (_n+1)=>some f.offset
 | _=>none
def BD (P:Program)(s:TypeId)(x:Option SV)(f:Nat)(K:Option SV->VC):VC :=
 match P.underlying s with
 | some (.struct fs)=>(match fs[f]? with
   | some fd=>(match aox fd P with
     | some o=>(match x with
       | some (.ptr key ol a)=>K (some (.ptr key ol (a+o)))
       | some (.o5 key w i k)=>K (some (.o5 key w i (k+o)))
       | some (.lA key w b i k)=>K (some (.lA key w b i (k+o)))
       | some (.iq key b i)=>K (some (.iq key b (i+o)))
       | some (.su key w b i k)=>K (some (.su key w b i (k+o)))
       | _=>.fail "fieldAddr: no pointer")
     | none=>.fail "fieldAddr: a field without cells")
   | none=>.fail "fieldAddr: no such field")
 | _=>.fail "fieldAddr: no struct"
theorem LH {P:Program}{look:qA}{σ:Operand->Option SV}(s:TypeId)(x:Operand)(f:Nat) :
  aM P look σ (fun ρ=>Instr.fieldAt s (ρ x) f) (BD P s (σ x) f):=by
 unfold BD;split
 ·rename_i fs hd;split
  ·rename_i fd hf;cases ho:aox fd P with
   | none=>exact aM.fail _
   | some o =>
     have hsz: ∃ n,sz P fd.type=some (n+1)/\fd.offset=o:=by grind [aox]
     obtain⟨n,hn,rfl⟩:=hsz;simp only;split
     ·rename_i key ol a hx;refine aM.v _ fun E w ρ hc hr=> ?_;simp[Instr.fieldAt,hr x _ hx,SV.val,Instr.sureAddr,az hd,hf,fieldPlace,bU hn,cN]
     ·rename_i key w i k hx;refine aM.v _ fun E w ρ hc hr=> ?_;simp[Instr.fieldAt,hr x _ hx,SV.val,Instr.sureAddr,az hd,hf,fieldPlace,bU hn,cN,Nat.add_assoc]
     ·rename_i key w b i k hx;refine aM.v _ fun E w ρ hc hr=> ?_;simp[Instr.fieldAt,hr x _ hx,SV.val,Instr.sureAddr,az hd,hf,fieldPlace,bU hn,cN,Nat.add_assoc]
     ·rename_i key b i hx;refine aM.v _ fun E w ρ hc hr=> ?_;simp[Instr.fieldAt,hr x _ hx,SV.val,Instr.sureAddr,az hd,hf,fieldPlace,bU hn,cN]
     ·rename_i key w b i k hx;refine aM.v _ fun E w ρ hc hr=> ?_;simp[Instr.fieldAt,hr x _ hx,SV.val,Instr.sureAddr,az hd,hf,fieldPlace,bU hn,cN,Nat.add_assoc]
     ·exact aM.fail _
  ·exact aM.fail _
 ·exact aM.fail _
def places (i:Int)(t:Nat->VC):Nat->VC
 | 0=>.tt
 | n+1=>.and (places i t n) (.imp (i=n) (t n))
theorem JM {i:Int}{t:Nat->VC}: ∀ {n:Nat},0<=i->i<n->((places i t n).holds↔(t i.toNat).holds)
 | 0,h,h'=>by omega
 | n+1,h,h'=>by
   simp only[places,VC.holds];by_cases e:i=n
   ·subst e;simp only[Int.toNat_natCast];constructor
    ·intro x;exact x.2 trivial
    ·intro x;refine⟨?_,fun _=>x⟩;have: ∀ m,m<=n->(places (n:Int) t m).holds:=by
      intro m;induction m with
      | zero=>intro _;exact trivial
      | succ m ih=>intro hm;exact⟨ih (by omega),fun e=>by omega⟩
     exact this n (Nat.le_refl _)
   ·have:=JM (i:=i) (t:=t) (n:=n) h (by omega);rw[this];exact⟨fun x=>x.1,fun x=>⟨x,fun e'=>absurd e' e⟩⟩
def zU (l:Bool)(i:Int)(n:Nat)(t:Nat->VC):VC :=
 match l with
 | true=>if 0<=i/\i<n then t i.toNat else .fail "index out of range"
 | false=>.and (.atom (0<=i/\i<n)) (places i t n)
theorem aM.index {P:Program}{look:qA}{σ:Operand->Option SV}{s:(Operand->Value)->Sem Value}{l:Bool}{i:Int}{n:Nat}{t:Nat->QT}
  (h:0<=i->i<n->aM P look σ s (t i.toNat)):aM P look σ s (fun K=>zU l i n (fun j=>t j K)):=by
 unfold zU;cases l with
 | true=>exact aM.ite (by grind) (fun _=>aM.fail _)
 | false =>refine aM.atom fun hc=> ?_;obtain⟨obl,sv,h1,h2⟩:=h hc.1 hc.2;exact⟨obl,sv,(by grind [JM]),h2⟩
def BE (P:Program)(t:TypeId)(x i:Option SV)(K:Option SV->VC):VC :=
 match P.underlying t,i with
 | some (.array len elem),some (.int _ l n)=>(match sz P elem,x with
   | some m,some (.ptr key true o)=>(match l|| !Nat.beq m 1 with
     | true=>zU l n len (fun j=>K (some (.ptr key true (o+j*m))))
     | false=>.and (.atom (0<=n/\n<len)) (K (some (.tM key o len n.toNat))))
   | some 1,some (.raw (.pointer (some ⟨g,0,none⟩)))=>.and (.atom (0<=n/\n<len)) (K (some (.raw (.pointer (some ⟨g,n.toNat,none⟩)))))
   | _,_=>.fail "indexAddr: array")
 | some (.slice elem),some (.int _ l n)=>(match sz P elem,x with
   | some m,some (.slc key o len _ _)=>(match l|| !Nat.beq m 1||Nat.blt len 16 with
     | true=>zU l n len (fun j=>K (some (.ptr key true (o+j*m))))
     | false=>.and (.atom (0<=n/\n<len)) (K (some (.tM key o len n.toNat))))
   | some m,some (.bI key w _z i0 len _)=>if m=w then .and (.atom (0<=n/\n<len)) (K (some (.o5 key w (i0+n.toNat) 0)))else .fail "indexAddr: another row"
   | some m,some (.cC key w _z b i0 len _)=>if m=w then .and (.atom (0<=n/\n<len)) (K (some (.lA key w b (i0+n.toNat) 0)))else .fail "indexAddr: another row"
   | some m,some (.fq key w _z b i0 len _)=>if m=w then .and (.atom (0<=n/\n<len)) (K (some (.su key w b (i0+n.toNat) 0)))else .fail "indexAddr: another row"
   | _,_=>.fail "indexAddr: slice")
 | _,_=>.fail "indexAddr"
theorem LI {P:Program}{look:qA}{σ:Operand->Option SV}(t:TypeId)(x i:Operand) :
  aM P look σ (fun ρ=>Instr.indexAt t (ρ x) (ρ i)) (BE P t (σ x) (σ i)):=by
 unfold BE;split
 ·rename_i len elem k l n hd hi;split
  ·rename_i m key o hm hx;split
   ·refine aM.index fun h0 h1=>aM.v _ fun E w ρ hc hr=> ?_;simp[Instr.indexAt,hr x _ hx,hr i _ hi,SV.val,asIntOf,Instr.sureAddr,az hd,bU hm,h0,h1,cN]
   ·rename_i hcond;have hm1:m=1:=by simp_all
    refine aM.atom fun h0=>aM.v _ fun E w ρ hc hr=> ?_;simp[Instr.indexAt,hr x _ hx,hr i _ hi,SV.val,asIntOf,Instr.sureAddr,az hd,bU hm,h0.1,h0.2,cN,hm1]
  ·rename_i g hm hx;refine aM.atom fun h0=>aM.v _ fun E w ρ hc hr=> ?_;simp[Instr.indexAt,hr x _ hx,hr i _ hi,SV.val,asIntOf,Instr.sureAddr,az hd,bU hm,h0.1,h0.2,cN]
  ·exact aM.fail _
 ·rename_i elem k l n hd hi;split
  ·rename_i m key o len cl c hm hx;split
   ·refine aM.index fun h0 h1=>aM.v _ fun E w ρ hc hr=> ?_;simp[Instr.indexAt,hr x _ hx,hr i _ hi,SV.val,asIntOf,az hd,bU hm,h0,h1,cN]
   ·rename_i hcond;have hm1:m=1:=by simp_all
    refine aM.atom fun h0=>aM.v _ fun E w ρ hc hr=> ?_;simp[Instr.indexAt,hr x _ hx,hr i _ hi,SV.val,asIntOf,az hd,bU hm,h0.1,h0.2,cN,hm1]
  ·rename_i m key w z i0 len c hm hx;refine aM.ite (fun e=> ?_) (fun _=>aM.fail _);subst e;refine aM.atom fun h0=>aM.v _ fun E w ρ hc hr=> ?_
   have hne:Nat.beq len 0=false:=by cases len with
    | zero=>omega
    | succ n=>rfl
   simp[Instr.indexAt,hr x _ hx,hr i _ hi,SV.val,asIntOf,az hd,bU hm,h0.1,h0.2,cN,Nat.add_mul,hne]
  ·rename_i m key w z b i0 len c hm hx;refine aM.ite (fun e=> ?_) (fun _=>aM.fail _);subst e;refine aM.atom fun h0=>aM.v _ fun E w ρ hc hr=> ?_
   have hne:Nat.beq len 0=false:=by cases len with
    | zero=>omega
    | succ n=>rfl
   simp[Instr.indexAt,hr x _ hx,hr i _ hi,SV.val,asIntOf,az hd,bU hm,h0.1,h0.2,cN,Nat.add_mul,hne,Nat.add_assoc]
  ·rename_i m key w z b i0 len c hm hx;refine aM.ite (fun e=> ?_) (fun _=>aM.fail _);subst e;refine aM.atom fun h0=>aM.v _ fun E w ρ hc hr=> ?_
   have hne:Nat.beq len 0=false:=by cases len with
    | zero=>omega
    | succ n=>rfl
   simp[Instr.indexAt,hr x _ hx,hr i _ hi,SV.val,asIntOf,az hd,bU hm,h0.1,h0.2,cN,Nat.add_mul,hne]
  ·exact aM.fail _
 ·exact aM.fail _
end Go.Proofs.YtpaaiebohjjieaaGreatDoor.Sx
