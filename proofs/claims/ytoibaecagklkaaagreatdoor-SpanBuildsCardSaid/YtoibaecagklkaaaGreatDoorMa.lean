/- A part of the proof. -/
import Derived.Test.YtoibaecagklkaaaGreatDoorProg
import Derived.KernelRfl
import Derived.Calls
import Derived.RangeFuncIn
import Derived.RangeFuncLeaves
import Derived.RangeFuncCalls
import Derived.OrdersIn
import Derived.Orders
import Derived.Laws.Sem
import Derived.Below
import Derived.MapKept
import Derived.Laws.StructEq
open Array renaming getElem?_eq_some_iff->a_,getElem?_push->cB,getElem?_setIfInBounds_ne->a!
open Bool renaming and_eq_true->V,false->G,true->H
open Go.Instr renaming fieldAt->ag,indexAt->T,loadAt->N,sureAddr->J
open List renaming getElem?_eq_getElem->bf,getElem?_map->S,length_cons->bn,length_map->an,length_nil->cL,map_cons->bU
open Nat renaming add_assoc->W,add_mul->b_,add_zero->cO,beq->O,blt->Q,blt_eq->L,le_refl->bl,le_trans->b!,lt_of_lt_of_le->ct,mul_one->c4,ne_of_lt->c5,zero_add->cy
open Option renaming none->I,some->F
namespace Go.Proofs.YtoibaecagklkaaaGreatDoor
theorem i_ {p:Prop}[i:Decidable p]:Decidable.decide p=Bool.true->p:=of_decide_eq_true
theorem j_ {p:Prop}[i:Decidable p]:Decidable.decide p=Bool.false->Not p:=of_decide_eq_false
theorem k_ {p:Prop}[i:Decidable p]:p->Decidable.decide p=Bool.true:=decide_eq_true
theorem l_ {p:Prop}[i:Decidable p]:Not p->Decidable.decide p=Bool.false:=decide_eq_false
theorem m_ {p:Prop}[i:Decidable p]:(Decidable.decide p=Bool.true)=p:=decide_eq_true_eq
theorem n_ {p:Prop}{i:Decidable p}:Decidable.decide p=Bool.false↔Not p:=decide_eq_false_iff_not
theorem o_ {c:Prop}{h:Decidable c}(a:c){α:Sort _}{t e:α}:ite c t e=t:=if_pos a
theorem p_ {c:Prop}{h:Decidable c}(a:Not c){α:Sort _}{t e:α}:ite c t e=e:=if_neg a
abbrev h_:=List UInt8
open Go
variable {c:Array Value}{a b i n nx:Nat}{E':Nat->Nat}{M:Nat->Prop}{fr:Nat×Nat}{o:Obj}{P:Program}{t ty:TypeId}{w:World}
section
open Go
def hB:Nat:=3
noncomputable def gx:List (Nat×Nat):=[(30,2),(290,22),(293,20),(294,22),(122,22),(87,22),(89,22),(253,22),(184,22)]
noncomputable def tJ:List (Nat×Nat):=[(294,293),(122,30),(89,87)]
noncomputable def Vn:List (Nat×Bool):=[(30,H)]
noncomputable def VQ:List (Nat×Nat×Bool):=[(87,84,H),(30,84,H)]
noncomputable def JQ:List (Nat×Nat×Bool):=[(253,30,G),(87,87,H),(30,30,H),
 (290,30,G),(290,293,H)]
noncomputable def Tm:List (Nat×Nat×Bool):=[(30,293,G)]
noncomputable def QX:List (Nat×Nat×Bool):=[(87,87,G),(30,30,G),(293,290,H)]
end
namespace Sx
open Go
noncomputable def CG:List (Nat×Array Value) :=
 (0,#[.iface 212 (.agg #[.pointer (F ⟨Tryz.prog.globals.size,84,I⟩)])]) ::
 (1,#[.int .u32 1116352408,.int .u32 1899447441,.int .u32 3049323471,.int .u32 3921009573,.int .u32 961987163,.int .u32 1508970993,.int .u32 2453635748,.int .u32 2870763221,.int .u32 3624381080,.int .u32 310598401,.int .u32 607225278,.int .u32 1426881987,.int .u32 1925078388,.int .u32 2162078206,.int .u32 2614888103,.int .u32 3248222580,.int .u32 3835390401,.int .u32 4022224774,.int .u32 264347078,.int .u32 604807628,.int .u32 770255983,.int .u32 1249150122,.int .u32 1555081692,.int .u32 1996064986,.int .u32 2554220882,.int .u32 2821834349,.int .u32 2952996808,.int .u32 3210313671,.int .u32 3336571891,.int .u32 3584528711,.int .u32 113926993,.int .u32 338241895,.int .u32 666307205,.int .u32 773529912,.int .u32 1294757372,.int .u32 1396182291,.int .u32 1695183700,.int .u32 1986661051,.int .u32 2177026350,.int .u32 2456956037,.int .u32 2730485921,.int .u32 2820302411,.int .u32 3259730800,.int .u32 3345764771,.int .u32 3516065817,.int .u32 3600352804,.int .u32 4094571909,.int .u32 275423344,.int .u32 430227734,.int .u32 506948616,.int .u32 659060556,.int .u32 883997877,.int .u32 958139571,.int .u32 1322822218,.int .u32 1537002063,.int .u32 1747873779,.int .u32 1955562222,.int .u32 2024104815,.int .u32 2227730452,.int .u32 2361852424,.int .u32 2428436474,.int .u32 2756734187,.int .u32 3204031479,.int .u32 3329325298]) ::
 []
universe u
inductive VC:Type 1 where
 | tt
 | fail (why:String)
 | atom (p:Prop)
 | and (a b:VC)
 | imp (p:Prop) (a:VC)
 | all (α:Type) (f:α->VC)
 | ex (α:Type) (f:α->VC)
 | eqv (p q:Prop) (h:q)
 | fork (b:Bool) (x y:VC)
def VC.holds:VC->Prop
 | .tt=>True
 | .fail _=>False
 | .atom p=>p
 | .and a b=>a.holds/\b.holds
 | .imp p a=>p->a.holds
 | .all α f=>∀ x:α,(f x).holds
 | .ex α f=>∃ x:α,(f x).holds
 | .eqv p _ _=>p
 | .fork b x y=>(b=H->x.holds)/\(b=G->y.holds)
def sU {α:Sort u}(a b:α):VC:=.eqv (a=b) (a=a) rfl
def fork (b:Bool)(f:Bool->VC):VC:=.fork b (f H) (f G)
theorem dY {b:Bool}{f:Bool->VC}:(fork b f).holds↔(f b).holds:=by
 constructor
 ·intro h;cases b
  ·exact h.2 rfl
  ·exact h.1 rfl
 ·intro h;cases b
  ·exact⟨(by grind),λ_=>h⟩
  ·exact⟨λ_=>h,(by grind)⟩
inductive SV where
 | int (k:IntKind) (l:Bool) (n:Int)
 | bool (l:Bool) (b:Bool)
 | str (l:Bool) (s:h_)
 | ptr (key:Nat) (ol:Bool) (o:Nat)
 | uI (key w i k:Nat)
 | Aq (key base n i:Nat)
 | eJ
 | slc (key:Nat) (o n:Nat) (cl:Bool) (c:Nat)
 | bY (key w:Nat) (z:Bool) (i n c:Nat)
 | cT (key w:Nat) (z:Bool) (o i n c:Nat)
 | qi (key w o i k:Nat)
 | bW
 | agg (cs:List SV)
 | dr (vs:List SV)
 | iface (t:TypeId) (v:SV)
 | cj
 | func (fn:Fn) (first captured:List SV)
 | lE
 | yield (key:Nat)
 | map (key:Nat)
 | mo
 | raw (v:Value)
 | l7 (key a o:Nat)
 | iP (key w:Nat) (z:Bool) (a i n c:Nat)
 | yp (key w a i k:Nat)
mutual
def SV.val (E:Nat->Nat):SV->Value
 | .int k _ n=>.int k n
 | .bool _ b=>.bool b
 | .str _ s=>.string ⟨s.toArray⟩
 | .ptr key _ o=>.pointer (F ⟨E key,o,I⟩)
 | .uI key w i k=>.pointer (F ⟨E key,i*w+k,I⟩)
 | .Aq key base _ i=>.pointer (F ⟨E key,base+i,I⟩)
 | .eJ=>.pointer I
 | .slc key o n _ c=>.slice (F ⟨E key,o,I⟩) n c
 | .bY key w z i n c=>.slice (bif z&&O n 0 then I else F ⟨E key,i*w,I⟩) n (bif z&&O n 0 then 0 else c)
 | .cT key w z o i n c=>.slice (bif z&&O n 0 then I else F ⟨E key,o+i*w,I⟩) n (bif z&&O n 0 then 0 else c)
 | .qi key w o i k=>.pointer (F ⟨E key,o+i*w+k,I⟩)
 | .bW=>.slice I 0 0
 | .agg cs=>.agg (SV.vals E cs).toArray
 | .dr vs=>.tuple (SV.vals E vs).toArray
 | .iface t v=>.iface t (v.val E)
 | .cj=>.nilIface
 | .func fn a b=>.func fn (SV.vals E a).toArray (SV.vals E b).toArray
 | .lE=>.nilFunc
 | .yield key=>.func (.yield (E key)) #[] #[]
 | .map key=>.map (F (E key))
 | .mo=>.map I
 | .raw v=>v
 | .l7 _ a o=>.pointer (F ⟨a,o,I⟩)
 | .iP _ w z a i n c=>.slice (bif z&&O n 0 then I else F ⟨a,i*w,I⟩) n (bif z&&O n 0 then 0 else c)
 | .yp _ w a i k=>.pointer (F ⟨a,i*w+k,I⟩)
def SV.vals (E:Nat->Nat):List SV->List Value
 | []=>[]
 | x::r=>x.val E::SV.vals E r
end
theorem SV.cF (E:Nat->Nat)(l:List SV):SV.vals E l=l.map (SV.val E):=by
 induction l with
 | nil=>rfl
 | cons x r ih=>simp[SV.vals,ih]
mutual
def SV.wf (nx:Nat):SV->Bool
 | .ptr key _ _=>Q key nx
 | .uI key _ _ _=>Q key nx
 | .Aq key _ _ _=>Q key nx
 | .slc key _ _ _ _=>Q key nx
 | .bY key _ _ _ _ _=>Q key nx
 | .cT key _ _ _ _ _ _=>Q key nx
 | .qi key _ _ _ _=>Q key nx
 | .map key=>Q key nx
 | .yield key=>Q key nx
 | .agg cs=>SV.lY nx cs
 | .dr vs=>SV.lY nx vs
 | .iface _ v=>v.wf nx
 | .func _ a b=>SV.lY nx a&&SV.lY nx b
 | _=>H
def SV.lY (nx:Nat):List SV->Bool
 | []=>H
 | x::r=>x.wf nx&&SV.lY nx r
end
mutual
theorem SV.val_congr {E:Nat->Nat}(h: ∀ k,k<nx->E' k=E k):(v:SV)->v.wf nx=H->v.val E'=v.val E
 | .int ..,_=>rfl
 | .bool ..,_=>rfl
 | .str ..,_=>rfl
 | .ptr key _ _,hw=>by simp[SV.wf,L] at hw;simp[SV.val,h key hw]
 | .uI key _ _ _,hw=>by simp[SV.wf,L] at hw;simp[SV.val,h key hw]
 | .Aq key _ _ _,hw=>by simp[SV.wf,L] at hw;simp[SV.val,h key hw]
 | .eJ,_=>rfl
 | .slc key _ _ _ _,hw=>by simp[SV.wf,L] at hw;simp[SV.val,h key hw]
 | .bY key _ _ _ _ _,hw=>by simp[SV.wf,L] at hw;simp[SV.val,h key hw]
 | .cT key _ _ _ _ _ _,hw=>by simp[SV.wf,L] at hw;simp[SV.val,h key hw]
 | .qi key _ _ _ _,hw=>by simp[SV.wf,L] at hw;simp[SV.val,h key hw]
 | .bW,_=>rfl
 | .agg cs,hw=>by simp only[SV.wf] at hw;simp only[SV.val,SV.oU h cs hw]
 | .dr vs,hw=>by simp only[SV.wf] at hw;simp only[SV.val,SV.oU h vs hw]
 | .iface _ v,hw=>by simp only[SV.wf] at hw;simp only[SV.val,SV.val_congr h v hw]
 | .cj,_=>rfl
 | .func _ a b,hw=>by simp only[SV.wf,V] at hw;simp only[SV.val,SV.oU h a hw.1,SV.oU h b hw.2]
 | .lE,_=>rfl
 | .map key,hw=>by simp[SV.wf,L] at hw;simp[SV.val,h key hw]
 | .yield key,hw=>by simp[SV.wf,L] at hw;simp[SV.val,h key hw]
 | .mo,_=>rfl
 | .raw _,_=>rfl
 | .l7 ..,_=>rfl
 | .iP ..,_=>rfl
 | .yp ..,_=>rfl
theorem SV.oU {E:Nat->Nat}(h: ∀ k,k<nx->E' k=E k):(l:List SV)->SV.lY nx l=H->SV.vals E' l=SV.vals E l
 | [],_=>rfl
 | x::r,hw=>by simp only[SV.lY,V] at hw;simp only[SV.vals,SV.val_congr h x hw.1,SV.oU h r hw.2]
end
mutual
theorem SV.pz {m:Nat}(h:n<=m):(v:SV)->v.wf n=H->v.wf m=H
 | .int ..,_=>rfl
 | .bool ..,_=>rfl
 | .str ..,_=>rfl
 | .ptr key _ _,hw=>by simp[SV.wf,L] at hw ⊢;omega
 | .uI key _ _ _,hw=>by simp[SV.wf,L] at hw ⊢;omega
 | .Aq key _ _ _,hw=>by simp[SV.wf,L] at hw ⊢;omega
 | .eJ,_=>rfl
 | .slc key _ _ _ _,hw=>by simp[SV.wf,L] at hw ⊢;omega
 | .bY key _ _ _ _ _,hw=>by simp[SV.wf,L] at hw ⊢;omega
 | .cT key _ _ _ _ _ _,hw=>by simp[SV.wf,L] at hw ⊢;omega
 | .qi key _ _ _ _,hw=>by simp[SV.wf,L] at hw ⊢;omega
 | .bW,_=>rfl
 | .agg cs,hw=>by simp only[SV.wf] at hw ⊢;exact SV.qj h cs hw
 | .dr vs,hw=>by simp only[SV.wf] at hw ⊢;exact SV.qj h vs hw
 | .iface _ v,hw=>by simp only[SV.wf] at hw ⊢;exact SV.pz h v hw
 | .cj,_=>rfl
 | .func _ a b,hw=>by simp only[SV.wf,V] at hw ⊢;exact⟨SV.qj h a hw.1,SV.qj h b hw.2⟩
 | .lE,_=>rfl
 | .map key,hw=>by simp[SV.wf,L] at hw ⊢;omega
 | .yield key,hw=>by simp[SV.wf,L] at hw ⊢;omega
 | .mo,_=>rfl
 | .raw _,_=>rfl
 | .l7 ..,_=>rfl
 | .iP ..,_=>rfl
 | .yp ..,_=>rfl
theorem SV.qj {m:Nat}(h:n<=m):(l:List SV)->SV.lY n l=H->SV.lY m l=H
 | [],_=>rfl
 | x::r,hw=>by simp only[SV.lY,V] at hw ⊢;exact⟨SV.pz h x hw.1,SV.qj h r hw.2⟩
end
def SV.wu:SV->Bool
 | .agg _ | .dr _=>G
 | .raw (.pointer _)=>H
 | .raw _=>G
 | _=>H
theorem SV.AL {E:Nat->Nat}{v:SV}(h:v.wu=H):(v.val E).oneCell'=true:=by
 cases v
 case raw u=>cases u<;>simp_all [SV.wu,SV.val,Value.oneCell']
 all_goals simp_all [SV.wu,SV.val,Value.oneCell']
def SV.cells:SV->List SV
 | .agg cs=>cs
 | v=>[v]
def SV.plain:SV->Bool
 | .raw (.pointer _)=>H
 | .raw _=>G
 | _=>H
theorem SV.lA {E:Nat->Nat}{v:SV}(h:v.plain=H):(v.val E).cells=(v.cells.map (SV.val E)).toArray:=by
 cases v
 case raw u=>cases u<;>simp_all [SV.plain,SV.cells,SV.val,Value.cells]
 all_goals simp_all [SV.plain,SV.cells,SV.val,Value.cells,SV.cF]
def SV.Gw:Value->Option SV
 | .int k n=>F (.int k H n)
 | .bool b=>F (.bool H b)
 | .string s=>F (.str H s.data.toList)
 | .pointer I=>F .eJ
 | .slice I 0 0=>F .bW
 | .map I=>F .mo
 | .nilFunc=>F .lE
 | .nilIface=>F .cj
 | _=>I
def SV.xX:List Value->Option (List SV)
 | []=>F []
 | v::r=>match SV.Gw v,SV.xX r with
   | some x,F l=>F (x::l)
   | _,_=>I
def SV.ofConst:Value->Option SV
 | .agg cs=>match SV.xX cs.toList with
   | some l=>F (.agg l)
   | none=>I
 | v=>SV.Gw v
theorem SV.Gx {E:Nat->Nat}{v:Value}{x:SV}(h:SV.Gw v=F x):x.val E=v:=by unfold SV.Gw at h;split at h<;>first | (injection h with h;subst h;simp[SV.val];done) | cases h
theorem SV.ZK {E:Nat->Nat}{l:List Value}{xs:List SV}(h:SV.xX l=F xs):xs.map (SV.val E)=l:=by
 induction l generalizing xs with
 | nil=>grind [SV.xX]
 | cons v r ih =>grind [SV.Gx,SV.xX]
theorem SV.LN {E:Nat->Nat}{v:Value}{x:SV}(h:SV.ofConst v=F x):x.val E=v:=by
 unfold SV.ofConst at h;split at h
 ·split at h
  ·rename_i cs l hl;injection h with h;subst h;have:=SV.ZK (E:=E) hl;simp[SV.val,SV.cF,this]
  ·cases h
 ·exact SV.Gx h
inductive bh where
 | int (k:IntKind) (f:Nat->Int)
 | bool (f:Nat->Bool)
 | str (f:Nat->h_)
 | raw (f:Nat->Value)
 | ref (key:Nat) (f:Nat->Nat)
 | iP (key w:Nat) (z:Bool) (f n c:Nat->Nat)
def bh.at (i:Nat):bh->SV
 | .int k f=>.int k G (f i)
 | .bool f=>.bool G (f i)
 | .str f=>.str G (f i)
 | .raw f=>.raw (f i)
 | .ref key f=>.l7 key (f i) 0
 | .iP key w z f n c=>.iP key w z (f i) 0 (n i) (c i)
theorem bh.R4 (i nx:Nat)(c:bh):(c.at i).wf nx=true:=by cases c<;>rfl
inductive fW where
 | int (k:IntKind) (f:Nat->Nat->Int)
 | bool (f:Nat->Nat->Bool)
 | str (f:Nat->Nat->h_)
 | ref (key:Nat) (f:Nat->Nat->Nat)
def fW.at (a:Nat):fW->bh
 | .int k f=>.int k (f a)
 | .bool f=>.bool (f a)
 | .str f=>.str (f a)
 | .ref key f=>.ref key (f a)
mutual
def SV.hint:SV->Bool
 | .l7 .. =>H
 | .iP .. =>H
 | .yp .. =>H
 | .agg l=>SV.hints l
 | .dr l=>SV.hints l
 | .iface _ v=>v.hint
 | .func _ a b=>SV.hints a||SV.hints b
 | _=>G
def SV.hints:List SV->Bool
 | []=>G
 | x::r=>x.hint||SV.hints r
end
inductive iO where
 | int (k:IntKind) (g:h_->Int)
 | raw (g:h_->Value)
 | ref (key:Nat) (g:h_->Nat)
def iO.val (s:h_):iO->Value
 | .int k g=>.int k (g s)
 | .raw g=>g s
 | .ref _ g=>.pointer (F ⟨g s,0,I⟩)
def xz (s:h_):Value:=.string ⟨s.toArray⟩
structure JJ (d:h_->Bool)(c:iO)(pend:Option (h_×Int))(es:Array MapEntry)(clock:Nat):Prop where
 st:MapKept.Stamped es clock
 ks: ∀ x∈ es.toList,MapKept.IsKey .string x.key
 has: ∀ s,d s=H->∃ e∈ es.toList,e.key=xz s/\e.val=c.val s
 no: ∀ s,d s=G->∀ e∈ es.toList,e.key≠xz s
 pd: ∀ s b,pend=F (s,b)->∃ e∈ es.toList,(e.born:Int)=b/\e.key=xz s
inductive SB where
 | cells (cs:List SV) (tot:Nat) (ty:TypeId)
 | rows (z:Bool) (n:Nat) (ay:List bh) (ro:Bool) (tot:Nat) (ty:TypeId)
 | view (z:Bool) (o n:Nat) (ay:List bh)
 | loop (st:LoopState) (pend:Option Code) (R:Loop)
 | map (es:List (Nat×SV×SV)) (clock:Nat)
 | fmap (d:h_->Bool) (c:iO) (pend:Option (h_×Int))
 | mit (mp:Option Nat) (since:Nat) (seen:List Nat) (last:Nat)
 | sy (D:Nat->Bool) (cs:List bh) (tot:Nat) (ty:TypeId) (fro:Bool)
 | ni (D:Nat->Bool) (n:Nat->Nat) (ay:List fW) (fro:Bool)
def ac8 (nx:Nat):List (Nat×SV×SV)->Bool
 | []=>H
 | e::r=>e.2.1.wf nx&&e.2.2.wf nx&&ac8 nx r
def SB.ro:SB->Bool
 | .cells .. =>G
 | .rows _ _ _ ro _ _=>ro
 | .view .. =>H
 | .sy _ _ _ _ ro=>ro
 | .ni _ _ _ ro=>ro
 | _=>G
def SB.no:SB->Bool
 | .cells .. =>G
 | .rows z n _ _ _ _=>z&&O n 0
 | .view z _ n _=>z&&O n 0
 | .sy .. =>H
 | .ni .. =>H
 | _=>G
theorem SB.o5 {z:Bool}{ay:List bh}{ro:Bool}{tot:Nat}(h:i<n):(SB.rows z n ay ro tot ty).no=false:=by
 have:O n 0=false:=by cases n with
  | zero=>omega
  | succ n=>rfl
 grind [SB.no]
theorem SB.NA {z:Bool}{ay:List bh}{o:Nat}(h:i<n):(SB.view z o n ay).no=false:=by
 have:O n 0=false:=by cases n with
  | zero=>omega
  | succ n=>rfl
 grind [SB.no]
def SB.wf (nx:Nat):SB->Bool
 | .cells cs _ _=>SV.lY nx cs
 | .rows .. =>H
 | .view .. =>H
 | .loop .. =>H
 | .map es _=>ac8 nx es
 | .fmap .. =>H
 | .mit mp _ _ _=>match mp with
   | some k=>Q k nx
   | none=>H
 | .sy .. =>H
 | .ni .. =>H
abbrev Mem:=List (Nat×SB)
def Mem.get (key:Nat):Mem->Option SB
 | []=>I
 | e::r=>if e.1=key then F e.2 else Mem.get key r
def Mem.put (key:Nat)(B:SB):Mem->Mem
 | []=>[]
 | e::r=>if e.1=key then(e.1,B)::r else e::Mem.put key B r
def Mem.drop (key:Nat):Mem->Mem
 | []=>[]
 | e::r=>if e.1=key then Mem.drop key r else e::Mem.drop key r
def Mem.wf (nx:Nat):Mem->Bool
 | []=>H
 | e::r=>e.2.wf nx&&Mem.wf nx r
theorem Mem.mV {key:Nat}{B:SB}{m:Mem}{k:Nat}{X:SB}(h:(Mem.put key B m).get k=F X) :
  (k=key/\X=B/\(m.get k).isSome)∨(k≠key/\m.get k=F X):=by
 induction m with
 | nil=>grind [Mem.put,Mem.get]
 | cons e r ih =>
   by_cases he:e.1=key
   ·by_cases hk:key=k
    ·subst hk;rw[Mem.put,o_ he,Mem.get,o_ he] at h;injection h with h;exact .inl ⟨rfl,h.symm,by rw[Mem.get,o_ he];rfl⟩
    ·rw[Mem.put,o_ he,Mem.get,p_ (by omega)] at h;rw[Mem.get,p_ (by omega)]
     grind
   ·rw[Mem.put,p_ he] at h;by_cases hk:e.1=k
    ·rw[Mem.get,o_ hk] at h ⊢
     grind
    ·rw[Mem.get,p_ hk] at h ⊢;exact ih h
theorem Mem.adi {key:Nat}{B:SB}{m:Mem}{k:Nat}(h:k≠key):(Mem.put key B m).get k=m.get k:=by
 induction m with
 | nil=>rfl
 | cons e r ih =>
   by_cases he:e.1=key
   ·rw[Mem.put,o_ he,Mem.get,p_ (by omega),Mem.get,p_ (by omega)]
   ·rw[Mem.put,p_ he];by_cases hk:e.1=k
    ·rw[Mem.get,o_ hk,Mem.get,o_ hk]
    ·rw[Mem.get,p_ hk,Mem.get,p_ hk];exact ih
theorem Mem.lD {key:Nat}{m:Mem}{k:Nat}{X:SB}(h:(Mem.drop key m).get k=F X):k≠key/\m.get k=F X:=by
 induction m with
 | nil=>grind [Mem.drop,Mem.get]
 | cons e r ih =>
   by_cases he:e.1=key
   ·rw[Mem.drop,o_ he] at h;have:=ih h;refine⟨this.1,?_⟩;rw[Mem.get,p_ (by omega)];exact this.2
   ·rw[Mem.drop,p_ he] at h;by_cases hk:e.1=k
    ·rw[Mem.get,o_ hk] at h ⊢
     grind
    ·rw[Mem.get,p_ hk] at h ⊢;exact ih h
theorem Mem.Xt {m:Mem}(h:m.wf nx=H){k:Nat}{B:SB}(hg:m.get k=F B):B.wf nx=true:=by
 induction m with
 | nil=>cases hg
 | cons e r ih =>
   simp only[Mem.wf,V] at h;by_cases hk:e.1=k
   ·simp only[Mem.get,hk,if_true] at hg;grind
   ·simp only[Mem.get,hk,if_false] at hg;grind
def jM (E:Nat->Nat)(es:List (Nat×SV×SV)):List MapEntry:=es.map λp=>{key:=p.2.1.val E,val:=p.2.2.val E,born:=p.1}
def cq (E:Nat->Nat):SB->Obj->Prop
 | .cells cs tot ty,o=>∃ c fr,o=.cells c ty fr/\(∀ i,c.size<=i∨¬ (fr.1<=i/\i<fr.2))/\
    (∀(i:Nat) (v:SV),cs[i]?=F v->c[i]?=F (v.val E))/\c.size=tot
 | .rows _ n ay ro tot ty,o=>∃ c fr,o=.cells c ty fr/\(ro=G->∀ i,c.size<=i∨¬ (fr.1<=i/\i<fr.2))/\
    n*ay.length<=c.size/\c.size=tot/\(∀(i k:Nat) (col:bh),i<n->ay[k]?=F col->c[i*ay.length+k]?=F ((col.at i).val E))
 | .view _ o n ay,ob=>∃ c ty fr,ob=.cells c ty fr/\(∀(i k:Nat) (col:bh),i<n->ay[k]?=F col->c[o+i*ay.length+k]?=F ((col.at i).val E))
 | .loop st pend R,ob=>ob=.loop {R with state:=st,pending:=pend}
 | .map es clock,ob=>ob=.map (jM E es).toArray clock
 | .fmap d c pend,ob=>∃ es clock,ob=.map es clock/\JJ d c pend es clock
 | .mit mp since seen last,ob=>ob=.mapIter (mp.map E) since seen.toArray last
 | .sy ..,_=>False
 | .ni ..,_=>False
theorem Oe {E E':Nat->Nat}{nx:Nat}(h: ∀ k,k<nx->E' k=E k): ∀ {es:List (Nat×SV×SV)},ac8 nx es=H->jM E' es=jM E es
 | [],_=>rfl
 | e::r,hw=>by
   simp only[ac8,V] at hw;have:=Oe h hw.2
   grind [SV.val_congr,jM]
theorem Sl {n m:Nat}(h:n<=m): ∀ {es:List (Nat×SV×SV)},ac8 n es=H->ac8 m es=H
 | [],_=>rfl
 | e::r,hw=>by simp only[ac8,V] at hw ⊢;exact⟨⟨SV.pz h _ hw.1.1,SV.pz h _ hw.1.2⟩,Sl h hw.2⟩
theorem SB.pz {m:Nat}(h:n<=m){B:SB}(hw:B.wf n=H):B.wf m=true:=by
 cases B with
 | cells cs tot ty=>exact SV.qj h cs hw
 | map es c=>exact Sl h hw
 | mit mp a b c=>cases mp with
   | none=>rfl
   | some k=>grind [L,SB.wf]
 | _=>rfl
theorem SV.EZ {l:List SV}(h:SV.lY nx l=H){v:SV}(hg:l[i]?=F v):v.wf nx=true:=by
 induction l generalizing i with
 | nil=>cases hg
 | cons x r ih =>
   simp only[SV.lY,V] at h
   grind
theorem cq.congr {E:Nat->Nat}(h: ∀ k,k<nx->E' k=E k){B:SB}(hw:B.wf nx=H)(hb:cq E B o):cq E' B o:=by
 cases B with
 | cells cs tot ty =>obtain⟨c,fr,rfl,h1,h2,h3⟩:=hb;exact⟨c,fr,rfl,h1,λi v hv=>by rw[SV.val_congr h v (SV.EZ hw hv)];grind,h3⟩
 | rows z n ay ro tot ty =>obtain⟨c,fr,rfl,h1,h2,ht,h3⟩:=hb;exact⟨c,fr,rfl,h1,h2,ht,λi k col hi hk=>by rw[SV.val_congr h _ (bh.R4 i nx col)];grind⟩
 | view z o n ay =>obtain⟨c,ty,fr,rfl,h3⟩:=hb;exact⟨c,ty,fr,rfl,λi k col hi hk=>by rw[SV.val_congr h _ (bh.R4 i nx col)];grind⟩
 | loop st pend R=>exact hb
 | map es clock=>subst hb;show _=_;rw[Oe h hw]
 | fmap=>exact hb
 | mit mp since seen last =>
   subst hb;cases mp with
   | none=>rfl
   | some k =>
     have hk:k<nx:=by grind [L,SB.wf]
     grind [Sx.cq]
 | sy=>exact hb.elim
 | ni=>exact hb.elim
theorem cq.tZ {E:Nat->Nat}{B:SB}(h:cq E B o)(ds:Option (List Deferred)):o≠.deferred ds:=by
 cases B with
 | cells=>obtain⟨c,fr,rfl,_⟩:=h;grind
 | rows=>obtain⟨c,fr,rfl,_⟩:=h;grind
 | view=>obtain⟨c,ty,fr,rfl,_⟩:=h;grind
 | loop=>subst h;grind
 | map=>subst h;grind
 | fmap=>obtain⟨es,c,rfl,_⟩:=h;grind
 | mit=>subst h;grind
 | sy=>exact h.elim
 | ni=>exact h.elim
def SB.ry:SB->Bool
 | .sy .. =>H
 | .ni .. =>H
 | _=>G
def SB.nc (b:Nat):SB->Nat->Prop
 | .sy D _ _ _ _,a=>D a=H
 | .ni D _ _ _,a=>D a=H
 | B,a=>B.no=G/\a=b
def SB.el:SB->Nat->SB
 | .sy _ cs tot ty _,a=>.cells (cs.map (bh.at a)) tot ty
 | .ni _ n ay _,a=>.view G 0 (n a) (ay.map (fW.at a))
 | B,_=>B
theorem SB.Gu {B:SB}(h:B.no=G):B.ry=false:=by cases B<;>first | rfl | cases h
theorem SB.tL {B:SB}(h:B.ry=G):B.nc b a↔B.no=G/\a=b:=by cases B<;>first | exact Iff.rfl | cases h
theorem SB.rD {B:SB}(h:B.no=G)(b:Nat):B.nc b b:=(by grind [SB.tL,SB.Gu])
theorem SB.Cy {B:SB}(h:B.ry=G)(a:Nat):B.el a=B:=by cases B<;>first | rfl | cases h
theorem SB.avk {B:SB}(h:B.ry=H){b':Nat}:B.nc b a->B.nc b' a:=by cases B<;>first | exact id | cases h
theorem bh.amC (a:Nat): ∀ l:List bh,SV.lY 0 (l.map (bh.at a))=H
 | []=>rfl
 | c::r=>by simp only[bU,SV.lY,bh.R4,bh.amC a r,Bool.and_self]
theorem SB.agl {B:SB}(h:B.wf nx=H)(a:Nat):(B.el a).wf nx=true:=by cases B<;>first | exact h | exact SV.qj (Nat.zero_le _) _ (bh.amC a _) | rfl
structure Ext (M:Nat->Prop)(w w':World):Prop where
 os:w'.os=w.os
 tape:w'.tape=w.tape
 output:w'.output=w.output
 size:w.heap.size<=w'.heap.size
 block: ∀ k,k<w.heap.size->¬ M k->w'.heap[k]?=w.heap[k]?
theorem Ext.refl (M:Nat->Prop)(w:World):Ext M w w:=⟨rfl,rfl,rfl,bl _,λ_ _ _=>rfl⟩
theorem Ext.trans {a b c:World}(h:Ext M a b)(k:Ext M b c):Ext M a c :=
 ⟨k.os.trans h.os,k.tape.trans h.tape,k.output.trans h.output,b! h.size k.size,
  λi hi hm=>(k.block i (ct hi h.size) hm).trans (h.block i hi hm)⟩
theorem Ext.below {a b:World}(h:Ext M a b)(hM: ∀ k,¬ M k):RowKit.Below a.heap.size a b :=⟨h.os,h.tape,h.output,h.size,λk hk=>h.block k hk (hM k)⟩
theorem Ext.apO {a b:World}(h:RowKit.Below a.heap.size a b):Ext M a b :=⟨h.os,h.tape,h.output,h.size,λk hk _=>h.block k hk⟩
def Cf (w:World):Prop:=∀ p∈ CG,∃ c ty fr,w.heap[p.1]?=F (.cells c ty fr)/\∀(i:Nat) (v:Value),p.2[i]?=F v->c[i]?=F v
structure b5 where
 w0:World
 M0:Nat->Prop
 E0:Nat->Nat
 E9:Nat
 keep:List Nat
 gl:Cf w0
 gm: ∀ p∈ CG,¬ M0 p.1
 tail:List Deferred:=[]
 rf:Bool:=H
def b5.own (Γ:b5):b5:={Γ with tail:=[],rf:=H}
structure b5.le (Γ Δ:b5):Prop where
 w:Δ.w0=Γ.w0
 m:Δ.M0=Γ.M0
 nx:Γ.E9<=Δ.E9
 e: ∀ k,k<Γ.E9->Δ.E0 k=Γ.E0 k
 keep: ∀ D,D∈ Γ.keep->D∈ Δ.keep
theorem b5.le_refl (Γ:b5):Γ.le Γ:=⟨rfl,rfl,bl _,λ_ _=>rfl,λ_ h=>h⟩
theorem b5.le_trans {Γ Δ Θ:b5}(h:Γ.le Δ)(h':Δ.le Θ):Γ.le Θ :=⟨h'.w.trans h.w,h'.m.trans h.m,b! h.nx h'.nx,λk hk=>(h'.e k (ct hk h.nx)).trans (h.e k hk),λD hD=>h'.keep D (h.keep D hD)⟩
structure bp (Γ:b5)(E:Nat->Nat)(m:Mem)(nx:Nat)(w:World):Prop where
 p7: ∀ k B a,m.get k=F B->B.nc (E k) a->∃ o,w.heap[a]?=F o/\cq E (B.el a) o
 qq: ∀ k k' B B' a,m.get k=F B->B.nc (E k) a->m.get k'=F B'->B'.nc (E k') a->(B.ro=G∨B'.ro=G)->k=k'
 lt: ∀ k B,m.get k=F B->k<nx
 rq: ∀ k B a,m.get k=F B->B.nc (E k) a->B.ro=G->Γ.M0 a∨Γ.w0.heap.size<=a
 ext:Ext Γ.M0 Γ.w0 w
 cx:Γ.E9<=nx/\∀ k,k<Γ.E9->E k=Γ.E0 k
 kp: ∀ D∈ Γ.keep,w.heap[D]?=F (.deferred (F []))
section
variable {Γ : b5} {E : Nat-> Nat} {m : Mem} {nx : Nat} {w : World}
theorem bp.yZ (h:bp Γ E m nx w)(k:Nat)(B:SB)(hk:m.get k=F B)(hn:B.no=G): ∃ o,w.heap[E k]?=F o/\cq E B o:=by
 have:=h.p7 k B (E k) hk (SB.rD hn _)
 grind [SB.Cy,SB.Gu]
theorem bp.inj (h:bp Γ E m nx w)(k k':Nat)(B B':SB)(hk:m.get k=F B)(hn:B.no=G)(hk':m.get k'=F B')(hn':B'.no=G)(hr:B.ro=G∨B'.ro=G)(e:E k=E k'):k=k' :=h.qq k k' B B' (E k) hk (SB.rD hn _) hk' (by grind [SB.rD]) hr
theorem bp.own (h:bp Γ E m nx w)(k:Nat)(B:SB)(hk:m.get k=F B)(hn:B.no=G)(hr:B.ro=G):Γ.M0 (E k)∨Γ.w0.heap.size<=E k:=h.rq k B _ hk (SB.rD hn _) hr
theorem bp.glt (h:bp Γ E m nx w){k:Nat}{B:SB}(hk:m.get k=F B)(ha:B.nc (E k) a):a<w.heap.size:=by
 obtain⟨o,ho,_⟩:=h.p7 k B a hk ha
 grind
end
theorem b5.apU (Γ:b5):Γ.le Γ.own:=⟨rfl,rfl,bl _,λ_ _=>rfl,λ_ h=>h⟩
theorem bp.aBB {Γ E m nx w}(h:bp Γ E m nx w):bp Γ.own E m nx w:=⟨h.p7,h.qq,h.lt,h.rq,h.ext,h.cx,h.kp⟩
theorem bp.MP {Γ:b5}{E m nx w}(h:bp Γ.own E m nx w):bp Γ E m nx w:=⟨h.p7,h.qq,h.lt,h.rq,h.ext,h.cx,h.kp⟩
theorem bp.adj {Γ E m nx w}(h:bp Γ E m nx w):Cf w:=λp hp=>by obtain⟨c,ty,fr,hg,hc⟩:=Γ.gl p hp;exact⟨c,ty,fr,by rw[h.ext.block p.1 (a_.1 hg).1 (Γ.gm p hp)];exact hg,hc⟩
theorem bp.drew {Γ E m nx w}(h:bp Γ E m nx w)(n:Nat):bp Γ E m nx {w with drawn:=n} :=⟨h.p7,h.qq,h.lt,h.rq,⟨h.ext.os,h.ext.tape,h.ext.output,h.ext.size,h.ext.block⟩,h.cx,h.kp⟩
theorem bp.sub {Γ E m nx w}(h:bp Γ E m nx w){m':Mem}(hs: ∀ k B,m'.get k=F B->m.get k=F B){nx':Nat}
  (hn: ∀ k B,m'.get k=F B->k<nx') (hnx:nx<=nx'∨Γ.E9<=nx'):bp Γ E m' nx' w :=
 ⟨λk B a hk=>h.p7 k B a (hs k B hk),λk k' B B' a hk hn hk'=>h.qq k k' B B' a (hs _ _ hk) hn (hs _ _ hk'),hn,λk B a hk=>h.rq k B a (hs k B hk),h.ext,⟨by rcases hnx with h1 | h1;exact b! h.cx.1 h1;exact h1,h.cx.2⟩,h.kp⟩
theorem Mem.nq {k0:Nat}{B0:SB}{m:Mem}{k:Nat}{B:SB}(h:Mem.get k ((k0,B0)::m)=F B):(k=k0/\B=B0)∨(k≠k0/\m.get k=F B):=by
 by_cases e:k0=k
 ·simp only[Mem.get,e,if_true] at h;grind
 ·simp only[Mem.get,e,if_false] at h;grind
theorem bp.axn {Γ E m nx w}(h:bp Γ E m nx w)(hw:Mem.wf nx m=H){m':Mem}(hsub: ∀ k B,m'.get k=F B->m.get k=F B){B:SB}{w':World}
  (hB: ∀ a,B.nc b a->(∃ o,w'.heap[a]?=F o/\cq (λk=>if k=nx then b else E k) (B.el a) o)/\(B.ro=G->Γ.M0 a∨Γ.w0.heap.size<=a)/\∀ k X,m'.get k=F X->¬ X.nc (E k) a)
  (hkeep: ∀ k X a,m'.get k=F X->X.nc (E k) a->w'.heap[a]?=w.heap[a]?) (hx:Ext Γ.M0 Γ.w0 w') (hkp: ∀ D∈ Γ.keep,w'.heap[D]?=w.heap[D]?) :
  bp Γ (λk=>if k=nx then b else E k) ((nx,B)::m') (nx+1) w':=by
 have hE': ∀ k,k<nx->(λk=>if k=nx then b else E k) k=E k:=(by grind)
 have hg: ∀ {k X a},Mem.get k ((nx,B)::m')=F X->X.nc ((λk=>if k=nx then b else E k) k) a->(k=nx/\X=B/\B.nc b a)∨(m'.get k=F X/\X.nc (E k) a):=λhk ha=>by
  rcases Mem.nq hk with ⟨rfl,rfl⟩ | ⟨hne,hk⟩
  ·grind
  grind
 refine⟨λk X a hk ha=> ?_,λk k' X X' a hk ha hk' ha' hr=> ?_,λk X hk=> ?_,λk X a hk ha hro=> ?_,hx,⟨Nat.le_succ_of_le h.cx.1,λk hk=>(hE' k (ct hk h.cx.1)).trans (h.cx.2 k hk)⟩,λD hD=>by rw[hkp D hD];exact h.kp D hD⟩
 ·rcases hg hk ha with ⟨_,rfl,hn⟩ | ⟨hk,ha⟩
  ·grind
  ·obtain⟨o,ho,hb⟩:=h.p7 k X a (hsub k X hk) ha;exact⟨o,by grind,hb.congr hE' (by grind [SB.agl,Mem.Xt])⟩
 ·rcases hg hk ha with ⟨e1,_,h1⟩ | ⟨hk1,ha1⟩<;>rcases hg hk' ha' with ⟨e2,_,h2⟩ | ⟨hk2,ha2⟩
  ·omega
  ·grind
  ·grind
  ·exact h.qq k k' X X' a (hsub _ _ hk1) ha1 (hsub _ _ hk2) ha2 hr
 ·rcases Mem.nq hk with ⟨rfl,rfl⟩ | ⟨hne,hk⟩
  ·omega
  ·have:=h.lt k X (hsub k X hk);omega
 ·rcases hg hk ha with ⟨_,rfl,hn⟩ | ⟨hk,ha⟩
  ·grind
  ·exact h.rq k X a (hsub k X hk) ha hro
theorem bp.push {Γ E m nx w}(h:bp Γ E m nx w)(hw:Mem.wf nx m=H){m':Mem}(hsub: ∀ k B,m'.get k=F B->m.get k=F B){B:SB}{w':World}
  (hE: ∀ k X a,m'.get k=F X->X.nc (E k) a->a≠b) (hkeep: ∀ i,i≠b->i<w.heap.size->w'.heap[i]?=w.heap[i]?) (hx:Ext Γ.M0 Γ.w0 w')
  (hown:B.no=G->B.ro=G->Γ.M0 b∨Γ.w0.heap.size<=b) (hkb: ∀ D∈ Γ.keep,D≠b)
  (hB:B.no=G->∃ o,w'.heap[b]?=F o/\cq (λk=>if k=nx then b else E k) B o) (hF:B.ry=G) :
  bp Γ (λk=>if k=nx then b else E k) ((nx,B)::m') (nx+1) w':=by
 refine h.axn hw hsub (λa ha=> ?_) (λk X a hk ha=>hkeep a (hE k X a hk ha) (h.glt (hsub k X hk) ha)) hx (λD hD=>hkeep D (hkb D hD) (a_.1 (h.kp D hD)).1)
 grind [SB.tL,SB.Cy]
theorem cq.ry {E:Nat->Nat}{B:SB}(h:cq E B o):B.ry=false:=by cases B<;>first | rfl | exact h.elim
theorem bp.alloc {Γ E m nx w}(h:bp Γ E m nx w)(hw:Mem.wf nx m=H){B:SB}
  (hB:cq (λk=>if k=nx then w.heap.size else E k) B o) :
  bp Γ (λk=>if k=nx then w.heap.size else E k) ((nx,B)::m) (nx+1) {w with heap:=w.heap.push o}:=by
 refine h.push hw (λ_ _ h=>h) (λk X a hk ha=>c5 (h.glt hk ha)) (λi hi hlt=> ?_) ⟨h.ext.os,h.ext.tape,h.ext.output,?_,λk hk hm=> ?_⟩ (λ_ _=>.inr h.ext.size) (λD hD=>c5 (a_.1 (h.kp D hD)).1) (λ_=>⟨o,by simp,hB⟩) hB.ry
 ·show(w.heap.push o)[i]?=_;rw[cB,p_ hi]
 ·have:=h.ext.size;simp;omega
 ·show(w.heap.push o)[k]?=_;have:=h.ext.size;rw[cB,p_ (by omega)];exact h.ext.block k hk hm
theorem bp.tZ {Γ E m nx w}(h:bp Γ E m nx w){k:Nat}{B:SB}(hk:m.get k=F B)(hn:B.no=G): ∀ D∈ Γ.keep,D≠E k:=λD hD e=>by obtain⟨o,ho,hb⟩:=h.yZ k B hk hn;have:=h.kp D hD;rw[e,ho] at this;exact hb.tZ _ (Option.some.inj this)
theorem bp.Ym {Γ E m nx w}(h:bp Γ E m nx w){k:Nat}{B:SB}(hk:m.get k=F B)(hn:B.no=G)(hro:B.ro=G)(o:Obj) :
  Ext Γ.M0 Γ.w0 {w with heap:=w.heap.setIfInBounds (E k) o}:=by
 refine⟨h.ext.os,h.ext.tape,h.ext.output,by simpa using h.ext.size,λi hi hm=> ?_⟩;show(w.heap.setIfInBounds (E k) o)[i]?=_;have:E k≠i:=λe=>by
  rcases h.own k B hk hn hro with h' | h'
  ·grind
  ·omega
 rw[a! this];exact h.ext.block i hi hm
theorem bp.write {Γ E m nx w}(h:bp Γ E m nx w){k:Nat}{B B':SB}(hk:m.get k=F B)(hn:B.no=G)(hro:B.ro=G)
  (hB:cq E B' o) (hro':B'.ro=G):bp Γ E (m.put k B') nx {w with heap:=w.heap.setIfInBounds (E k) o}:=by
 obtain⟨o0,ho0,_⟩:=h.yZ k B hk hn;have hlt:=(a_.1 ho0).1;have hg: ∀ {j X a},(m.put k B').get j=F X->X.nc (E j) a->(j=k/\X=B'/\a=E k)∨(m.get j=F X/\X.nc (E j) a/\a≠E k):=λhj ha=>by
  rcases Mem.mV hj with ⟨rfl,rfl,_⟩ | ⟨hne,hj⟩
  ·exact .inl ⟨rfl,rfl,((SB.tL hB.ry).1 ha).2⟩
  ·exact .inr ⟨hj,ha,λe=>hne (h.qq _ k _ B _ hj ha hk (by grind [SB.rD]) (.inr hro))⟩
 refine⟨λj X a hj ha=> ?_,λj j' X X' a hj ha hj' ha' hr=> ?_,λj X hj=> ?_,λj X a hj ha hr=> ?_,h.Ym hk hn hro o,h.cx,λD hD=> ?_⟩
 ·rcases hg hj ha with ⟨_,rfl,rfl⟩ | ⟨hj,ha,hne⟩
  ·exact⟨o,by simp[hlt],by rw[SB.Cy hB.ry];exact hB⟩
  ·obtain⟨o',ho',hb⟩:=h.p7 j X a hj ha
   grind
 ·rcases hg hj ha with ⟨e1,_,e⟩ | ⟨hj1,ha1,hne⟩<;>rcases hg hj' ha' with ⟨e2,_,e'⟩ | ⟨hj2,ha2,hne'⟩
  ·omega
  ·omega
  ·omega
  ·exact h.qq _ _ _ _ _ hj1 ha1 hj2 ha2 hr
 ·rcases Mem.mV hj with ⟨rfl,_,hs⟩ | ⟨_,hj⟩
  ·exact h.lt _ _ hk
  ·exact h.lt _ _ hj
 ·rcases hg hj ha with ⟨_,rfl,rfl⟩ | ⟨hj,ha,_⟩
  ·exact h.own _ _ hk hn hro
  ·exact h.rq _ _ _ hj ha hr
 ·show(w.heap.setIfInBounds (E k) o)[D]?=_;rw[a! (λe=>h.tZ hk hn D hD e.symm)];exact h.kp D hD
theorem bp.atM {Γ E m nx w}(h:bp Γ E m nx w){k:Nat}{D:Nat->Bool}{cs cs':List bh}{tot:Nat}(hk:m.get k=F (.sy D cs tot ty G))(hb:D b=H)
  (hB:cq E (.cells (cs'.map (bh.at b)) tot ty) o) (hs: ∀ a,a≠b->cs'.map (bh.at a)=cs.map (bh.at a)):bp Γ E (m.put k (.sy D cs' tot ty G)) nx {w with heap:=w.heap.setIfInBounds b o}:=by
 have hlt:=h.glt (a:=b) hk hb;have hg: ∀ {j X a},(m.put k (.sy D cs' tot ty G)).get j=F X->X.nc (E j) a->∃ X0,m.get j=F X0/\X0.nc (E j) a/\(a≠b->X.el a=X0.el a)/\(a=b->j=k/\X=.sy D cs' tot ty G)/\X.ro=X0.ro:=λ{j X a} hj ha=>by
  rcases Mem.mV hj with ⟨rfl,rfl,_⟩ | ⟨hne,hj⟩
  ·exact⟨_,hk,ha,λe=>congrArg (λl=>SB.cells l tot ty) (hs a e),λ_=>⟨rfl,rfl⟩,rfl⟩
  ·exact⟨X,hj,ha,λ_=>rfl,λe=>absurd (h.qq _ k _ _ a hj ha hk (by subst e;exact hb) (.inr rfl)) hne,rfl⟩
 refine⟨λj X a hj ha=> ?_,λj j' X X' a hj ha hj' ha' hr=> ?_,λj X hj=> ?_,λj X a hj ha hr=> ?_,⟨h.ext.os,h.ext.tape,h.ext.output,by simpa using h.ext.size,λi hi hm=> ?_⟩,h.cx,λD' hD=> ?_⟩
 ·obtain⟨X0,h1,h2,h3,h4,_⟩:=hg hj ha;by_cases e:a=b
  ·obtain⟨_,rfl⟩:=h4 e;subst e;exact⟨o,by simp[hlt],hB⟩
  ·obtain⟨o',ho',hb'⟩:=h.p7 j X0 a h1 h2
   grind
 ·obtain⟨X0,h1,h2,_,_,h5⟩:=hg hj ha;obtain⟨X0',h1',h2',_,_,h5'⟩:=hg hj' ha';exact h.qq j j' X0 X0' a h1 h2 h1' h2' (by grind)
 ·rcases Mem.mV hj with ⟨rfl,_,_⟩ | ⟨_,hj⟩
  ·exact h.lt _ _ hk
  ·exact h.lt _ _ hj
 ·obtain⟨X0,h1,h2,_,_,h5⟩:=hg hj ha;exact h.rq j X0 a h1 h2 (by grind)
 ·show(w.heap.setIfInBounds b o)[i]?=_;have:b≠i:=λe=>by
   rcases h.rq k _ b hk hb rfl with h' | h'
   ·grind
   ·omega
  rw[a! this];exact h.ext.block i hi hm
 ·show(w.heap.setIfInBounds b o)[D']?=_;rw[a! (λe=> ?_)]
  ·exact h.kp D' hD
  ·obtain⟨o',ho',hb'⟩:=h.p7 k _ b hk hb;rw[e,h.kp D' hD] at ho';exact hb'.tZ _ (Option.some.inj ho').symm
theorem bp.move {Γ E m nx w}(h:bp Γ E m nx w)(hw:Mem.wf nx m=H){k:Nat}{B B':SB}(hk:m.get k=F B)(hn:B.no=G)(hro:B.ro=G)
  (hB:cq (λj=>if j=nx then E k else E j) B' o) :
  bp Γ (λj=>if j=nx then E k else E j) ((nx,B')::m.drop k) (nx+1) {w with heap:=w.heap.setIfInBounds (E k) o}:=by
 obtain⟨o0,ho0,_⟩:=h.yZ k B hk hn;have hlt:=(a_.1 ho0).1
 refine h.push hw (by grind [Mem.lD]) (λj X a hj ha e=>(Mem.lD hj).1 (h.qq j k X B a (Mem.lD hj).2 ha hk (by grind [SB.rD]) (.inr hro))) (λi hi hl=> ?_) (h.Ym hk hn hro o)
  (λ_ _=>h.own k B hk hn hro) (h.tZ hk hn) (by grind) hB.ry
 grind
def aa (B B':SB):Prop:=B'.ry=B.ry/\∀ b a,B'.nc b a->B.nc b a/\(∀ E o,cq E (B.el a) o->cq E (B'.el a) o)/\(B'.ro=G->B.ro=G)
theorem aa.refl (B:SB):aa B B:=(by grind [Sx.aa])
theorem aa.of {B B':SB}(hB:B.ry=G)(hB':B'.ry=G)(h:B'.no=G->B.no=G/\(∀ E o,cq E B o->cq E B' o)/\(B'.ro=G->B.ro=G)):aa B B' :=⟨hB'.trans hB.symm,(by grind [SB.tL,SB.Cy])⟩
theorem aa.old {B B':SB}(h:aa B B')(hn:B'.no=G):B.no=G/\(∀ E o,cq E B o->cq E B' o)/\(B'.ro=G->B.ro=G):=by have hF:=SB.Gu hn;obtain⟨h1,h2⟩:=h.2 0 0 (SB.rD hn 0);rw[SB.Cy hF,SB.Cy (h.1.symm.trans hF)] at h2;exact⟨((SB.tL (h.1.symm.trans hF)).1 h1).1,h2⟩
theorem aa.trans {A B C:SB}(h:aa A B)(h':aa B C):aa A C:=⟨h'.1.trans h.1,λb a ha=>by obtain⟨h1,h2,h3⟩:=h'.2 b a ha;obtain⟨g1,g2,g3⟩:=h.2 b a h1;exact⟨g1,λE o x=>h2 E o (g2 E o x),λx=>g3 (h3 x)⟩⟩
theorem bp.conv {Γ E m nx w}(h:bp Γ E m nx w){m':Mem}(hm: ∀ k Y,m'.get k=F Y->∃ X,m.get k=F X/\∀ a,Y.nc (E k) a->X.nc (E k) a/\(∀ o,cq E (X.el a) o->cq E (Y.el a) o)/\(Y.ro=G->X.ro=G)):bp Γ E m' nx w:=by
 refine⟨λi Z a hi ha=> ?_,λi i' Z Z' a hi ha hi' ha' hr=> ?_,λi Z hi=> ?_,λi Z a hi ha hr=> ?_,h.ext,h.cx,h.kp⟩
 ·obtain⟨X,h1,h2⟩:=hm i Z hi;obtain⟨g1,g2,_⟩:=h2 a ha;obtain⟨o,ho,hb⟩:=h.p7 i X a h1 g1
  grind
 ·obtain⟨X,h1,h2⟩:=hm i Z hi;obtain⟨X',h1',h2'⟩:=hm i' Z' hi';exact h.qq i i' X X' a h1 (h2 a ha).1 h1' (h2' a ha').1 (by grind)
 ·obtain⟨X,h1,_⟩:=hm i Z hi;exact h.lt i X h1
 ·obtain⟨X,h1,h2⟩:=hm i Z hi;exact h.rq i X a h1 (h2 a ha).1 (by grind)
theorem bp.swap {Γ E m nx w}(h:bp Γ E m nx w){j:Nat}{X Y:SB}(hX:m.get j=F X)(hle:aa X Y):bp Γ E (m.put j Y) nx w:=h.conv λi Z hi=>by
 rcases Mem.mV hi with ⟨rfl,rfl,_⟩ | ⟨_,hi⟩
 ·exact⟨X,hX,λa ha=>by
   obtain⟨g1,g2,g3⟩:=hle.2 _ a ha
   grind⟩
 simp_all
theorem bp.abL {Γ E k B B' m nx w}(h:bp Γ E ((k,B)::m) nx w)(hle:aa B B'):bp Γ E ((k,B')::m) nx w:=by have:=h.swap (j:=k) (X:=B) (by simp only[Mem.get,if_true]) hle;simpa only[Mem.put,if_true] using this
theorem aL {d:TypeDesc}(h:P.underlying t=F d):(underlying t).run P w=.ok d w:=by simp[underlying,h]
theorem rY {i:TypeInfo}(h:P.info? t=F i):(typeInfo t).run P w=.ok i w:=by simp[typeInfo,h]
def sz (P:Program)(t:TypeId):Option Nat:=match P.info? t with | some i=>F i.size | none=>I
theorem dV (h:sz P t=F n):(sizeOf t).run P w=.ok n w:=by
 unfold sz at h;split at h
 ·rename_i i hi;injection h with h;subst h;simp[sizeOf,rY hi]
 ·cases h
def lP:TypeDesc->Bool
 | .struct _=>H
 | .array _ _=>H
 | _=>G
theorem fK {d:TypeDesc}(h:P.underlying t=F d):(isAgg t).run P w=.ok (lP d) w:=by cases d<;>simp[isAgg,aL h,lP]
theorem fS (b o n:Nat):(⟨b,o,I⟩:Addr).add n=⟨b,o+n,I⟩:=by grind [Addr.add]
theorem cell_of {o:Nat}(h:w.heap[b]?=F (.cells c ty fr)) :
  w.cell? ⟨b,o,I⟩=c[o]?:=by
 simp[World.cell?,h]
theorem run_loadCellsFrom (h:w.heap[b]?=F (.cells c ty fr))(o:Nat) :
  ∀(vs:List Value) (i:Nat) (acc:Array Value),(∀ j v,vs[j]?=F v->c[o+i+j]?=F v)->
   (loadCellsFrom ⟨b,o,I⟩ i vs.length acc).run P w=.ok (acc++vs.toArray) w:=by
 intro vs;induction vs with
 | nil=>intro i acc _;simp[loadCellsFrom]
 | cons v r ih =>
   intro i acc hv;have h0:=hv 0 v rfl;simp only[bn,loadCellsFrom,Sem.run_bind,run_load,fS,cell_of h];rw[show o+i+0=o+i from rfl] at h0
   rw[h0];simp only[Result.andThen_ok];rw[ih (i+1) (acc.push v) (λj u hu=>by have:=hv (j+1) u (by simpa using hu);rw[← this];congr 1;omega)];simp
theorem run_loadCells (h:w.heap[b]?=F (.cells c ty fr))(o:Nat)
  (vs:List Value) (hv: ∀(j:Nat) v,vs[j]?=F v->c[o+j]?=F v) :
  (loadCells ⟨b,o,I⟩ vs.length).run P w=.ok vs.toArray w:=by
 grind [run_loadCellsFrom,loadCells]
def nN (cs:List SV)(o n:Nat):Option (List SV) :=
 match o,cs with
 | 0,cs=>(match n,cs with
   | 0,_=>F []
   | n+1,x::r=>(match nN r 0 n with | some l=>F (x::l) | none=>I)
   | _+1,[]=>I)
 | o+1,_::r=>nN r o n
 | _+1,[]=>I
termination_by structural cs
theorem fY: ∀ {cs:List SV} {o n:Nat} {l:List SV},nN cs o n=F l->l.length=n/\∀ j v,l[j]?=F v->cs[o+j]?=F v
 | cs,0,0,l,h=>by cases cs<;>simp[nN] at h<;>subst h<;>simp
 | [],0,n+1,l,h=>by simp[nN] at h
 | x::r,0,n+1,l,h=>by
   simp only[nN] at h;split at h
   ·rename_i l' hl;injection h with h;subst h;have:=fY hl;refine⟨by simp[this.1],λj v hj=> ?_⟩;cases j with
    | zero=>simpa using hj
    | succ j=>have:=this.2 j v (by simpa using hj);simpa using this
   ·cases h
 | [],o+1,n,l,h=>by simp[nN] at h
 | x::r,o+1,n,l,h=>by simp only[nN] at h;have:=fY h;refine⟨this.1,λj v hj=> ?_⟩;have:=this.2 j v hj;rw[show o+1+j=(o+j)+1 by omega];simpa using this
abbrev QT:=(Option SV->VC)->VC
abbrev vn:=Nat->Option SB
def Compat (E:Nat->Nat)(look:vn)(w:World):Prop:=(∀ k B,look k=F B->B.no=G->∃ o,w.heap[E k]?=F o/\cq E B o)/\Cf w/\∀ k B a,look k=F B->B.nc (E k) a->∃ o,w.heap[a]?=F o/\cq E (B.el a) o
def Reads (E:Nat->Nat)(σ:Operand->Option SV)(ρ:Operand->Value):Prop:=∀ x v,σ x=F v->ρ x=v.val E
def bD (P:Program)(look:vn)(σ:Operand->Option SV)(s:(Operand->Value)->Sem Value)(t:QT):Prop :=
 ∃(obl:Prop) (sv:Option SV),(∀ K,(t K).holds↔obl/\(K sv).holds)/\
  (∀ E w ρ,Compat E look w->Reads E σ ρ->obl->∃ r,(s ρ).run P w=.ok r w/\∀ v,sv=F v->r=v.val E)
section
variable {P : Program} {look : vn} {σ : Operand-> Option SV} {s : (Operand-> Value)-> Sem Value}
theorem bD.fail (why:String):bD P look σ s (λ_=>.fail why) :=⟨False,I,λ_K=>⟨λh=>h.elim,λh=>h.1.elim⟩,λ_ _ _ _ _ h=>h.elim⟩
theorem bD.k (sv:Option SV)(h: ∀ E w ρ,Compat E look w->Reads E σ ρ->∃ r,(s ρ).run P w=.ok r w/\∀ v,sv=F v->r=v.val E) :
  bD P look σ s (λK=>K sv) :=
 ⟨True,sv,(by grind),(by grind)⟩
theorem bD.v (v:SV)(h: ∀ E w ρ,Compat E look w->Reads E σ ρ->(s ρ).run P w=.ok (v.val E) w):bD P look σ s (λK=>K (F v)) :=bD.k _ (by grind)
theorem bD.atom {p:Prop}{t:QT}(h:p->bD P look σ s t):bD P look σ s (λK=>.and (.atom p) (t K)):=by
 by_cases hp:p
 ·obtain⟨obl,sv,h1,h2⟩:=h hp;exact⟨obl,sv,λK=>⟨λx=>(h1 K).1 x.2,λx=>⟨hp,(h1 K).2 x⟩⟩,h2⟩
 ·exact⟨False,I,λK=>⟨λx=>(hp x.1).elim,λx=>x.1.elim⟩,λ_ _ _ _ _ h=>h.elim⟩
theorem bD.fork {b:Bool}{t:Bool->QT}(h:bD P look σ s (t b)):bD P look σ s (λK=>Sx.fork b (λc=>t c K)):=by obtain⟨obl,sv,h1,h2⟩:=h;exact⟨obl,sv,(by grind [dY]),h2⟩
theorem bD.ite {c:Prop}[Decidable c]{t u:QT}(h:c->bD P look σ s t)(h': ¬ c->bD P look σ s u) :
  bD P look σ s (λK=>if c then t K else u K):=by
 by_cases hc:c
 ·simp_all
 simp_all
end
def lo:IntKind->Int
 | .i8=> -128 | .i16=> -32768 | .i32=> -2147483648 | .i64=> -9223372036854775808
 | _=>0
def hi:IntKind->Int
 | .i8=>127 | .i16=>32767 | .i32=>2147483647 | .i64=>9223372036854775807
 | .u8=>255 | .u16=>65535 | .u32=>4294967295 | .u64=>18446744073709551615
def md:IntKind->Int
 | .i8 | .u8=>256 | .i16 | .u16=>65536 | .i32 | .u32=>4294967296 | .i64 | .u64=>18446744073709551616
theorem E5 {k:IntKind}{n:Int}(h:lo k<=n/\n<=hi k):k.wrap n=n:=by obtain⟨h1,h2⟩:=h;cases k<;>simp only[lo,hi] at h1 h2<;>simp only[IntKind.wrap,IntKind.bits,IntKind.signed]<;>simp<;>(try split)<;>omega
theorem awT {k:IntKind}(hs:k.signed=G)(n:Int):k.wrap n=n%md k:=by cases k<;>simp[IntKind.signed] at hs<;>simp[IntKind.wrap,IntKind.bits,IntKind.signed,md]
def Gl (k:IntKind):List SV->Option (List Int)
 | []=>F []
 | .int k' _ n::r=>if k=k' then(match Gl k r with
   | some l=>F (n::l)
   | none=>I)else I
 | _::_=>I
def aoQ:List SV->IntKind
 | .int k _ _::_=>k
 | _=>.i64
def M8 (l:List Int)(i:Nat):Int:=l.getD i 0
theorem AK {k:IntKind}: ∀ {cs:List SV} {l:List Int},Gl k cs=F l->l.length=cs.length/\∀(i:Nat) (v:SV),cs[i]?=F v->∃ b,v=.int k b (M8 l i)
 | [],l,h=>by simp[Gl] at h;subst h;exact⟨rfl,λi v hv=>by simp at hv⟩
 | .int k' b n::r,l,h=>by
   simp only[Gl] at h;split at h
   ·rename_i e;subst e;split at h
    ·rename_i l' hl;injection h with h;subst h;obtain⟨h1,h2⟩:=AK hl;refine⟨by simp[h1],λi v hv=> ?_⟩;cases i with
     | zero=>simp at hv;subst hv;exact⟨b,rfl⟩
     | succ i=>obtain⟨b',hb⟩:=h2 i v (by simpa using hv);exact⟨b',by rw[hb];rfl⟩
    ·cases h
   ·cases h
def yR:List SV->Option (List h_)
 | []=>F []
 | .str _ s::r=>(match yR r with
   | some l=>F (s::l)
   | none=>I)
 | _::_=>I
def l9 (l:List h_)(i:Nat):h_:=l.getD i []
theorem xA: ∀ {cs:List SV} {l:List h_},yR cs=F l->∀(i:Nat) (v:SV),cs[i]?=F v->∃ b,v=.str b (l9 l i)
 | [],l,h,i,v,hv=>by simp at hv
 | .str b s::r,l,h,i,v,hv=>by
   simp only[yR] at h;split at h
   ·rename_i l' hl;injection h with h;subst h;cases i with
    | zero=>simp at hv;subst hv;exact⟨b,rfl⟩
    | succ i=>obtain⟨b',hb⟩:=xA hl i v (by simpa using hv);exact⟨b',by rw[hb];rfl⟩
   ·cases h
theorem GS: ∀ {cs:List SV} {l:List h_},yR cs=F l->l.length=cs.length
 | [],l,h=>by simp[yR] at h;subst h;rfl
 | .str b s::r,l,h=>by
   simp only[yR] at h;split at h
   ·rename_i l' hl;injection h with h;subst h;simp[GS hl]
   ·cases h
def uF (ay:List bh)(i k n:Nat):Option (List SV):=nN (ay.map (bh.at i)) k n
noncomputable def VJ (g:Nat):List (Nat×Array Value)->Option (Array Value)
 | []=>I
 | e::r=>if e.1=g then F e.2 else VJ g r
theorem Gf {g:Nat}: ∀ {l:List (Nat×Array Value)} {cs:Array Value},VJ g l=F cs->(g,cs)∈ l
 | [],_,h=>by cases h
 | e::r,cs,h=>by
   simp only[VJ] at h;split at h
   ·rename_i he;injection h with h;subst h;subst he;exact List.mem_cons_self ..
   ·exact List.mem_cons_of_mem _ (Gf h)
def SV.aex:Value->Option SV
 | .iface t (.agg cs)=>F (.iface t (.agg (cs.toList.map SV.raw)))
 | v=>SV.Gw v
theorem SV.aey {E:Nat->Nat}{v:Value}{x:SV}(h:SV.aex v=F x):x.val E=v:=by
 unfold SV.aex at h;split at h
 ·injection h with h;subst h;have: ∀ l:List Value,SV.vals E (l.map SV.raw)=l:=by
   intro l;induction l with
   | nil=>rfl
   | cons a r ih=>grind [SV.vals,SV.val]
  simp[SV.val,this]
 ·exact SV.Gx h
def Jx (k:IntKind):List Value->Option (List Int)
 | []=>F []
 | .int k' n::r=>if k=k' then(match Jx k r with
   | some l=>F (n::l)
   | none=>I)else I
 | _::_=>I
def av9:List Value->Option IntKind
 | .int k _::_::_=>F k
 | _=>I
theorem MQ {k:IntKind}: ∀ {cs:List Value} {l:List Int},Jx k cs=F l->l.length=cs.length/\∀(i:Nat),i<l.length->cs[i]?=F (.int k (M8 l i))
 | [],l,h=>by simp[Jx] at h;subst h;exact⟨rfl,λi hi=>absurd hi (Nat.not_lt_zero _)⟩
 | v::r,l,h=>by
   unfold Jx at h;split at h
   ·rename_i e;cases e
   ·rename_i k' n r' e;injection e with e1 e2;subst e1;subst e2;split at h
    ·rename_i e;subst e;split at h
     ·rename_i l' hl;injection h with h;subst h;obtain⟨h1,h2⟩:=MQ hl;refine⟨by simp[h1],λi hi=> ?_⟩;cases i with
      | zero=>rfl
      | succ i=>simpa [M8] using h2 i (by simpa using hi)
     ·cases h
    ·cases h
   ·cases h
def me (c:bh)(o:Nat):Nat->List SV
 | 0=>[]
 | n+1=>c.at o::me c (o+1) n
theorem xO (c:bh): ∀(n o:Nat),(me c o n).length=n
 | 0,_=>rfl
 | n+1,o=>by simp[me,xO c n (o+1)]
theorem Cv (c:bh): ∀(n o j:Nat) (v:SV),(me c o n)[j]?=F v->j<n/\v=c.at (o+j)
 | 0,_,j,v,h=>by simp[me] at h
 | n+1,o,0,v,h=>by simp[me] at h;grind
 | n+1,o,j+1,v,h=>by
   simp only[me,List.getElem?_cons_succ] at h;obtain⟨h1,h2⟩:=Cv c n (o+1) j v h
   grind
noncomputable def ag6 (P:Program)(look:vn)(t:TypeId)(a:Option SV)(K:Option SV->VC):VC :=
 match P.underlying t with
 | none=>.fail "load: no type"
 | some d =>
   match a with
   | some (.ptr key H o)=>(match look key with
     | some (.cells cs _ _)=>(match lP d with
       | true=>(match sz P t with
         | some n=>(match nN cs o n with
           | some l=>K (F (.agg l))
           | none=>.fail "load: not so many cells")
         | none=>.fail "load: no size")
       | false=>(match cs[o]? with
         | some v=>K (F v)
         | none=>.fail "load: no such cell"))
     | some (.rows G n [c] _ _ _)=>(match lP d with
       | true=>(match sz P t with
         | some m=>.and (.atom (o+m<=n)) (K (F (.agg (me c o m))))
         | none=>.fail "load: no size")
       | false=>.and (.atom (o<n)) (K (F (c.at o))))
     | _=>.fail "load: no such block")
   | some (.uI key w i k)=>(match look key with
     | some (.rows _z n ay _ro _tot _ty)=>(if ay.length=w then(match lP d with
       | true=>(match sz P t with
         | some m=>(match uF ay i k m with
           | some l=>.and (.atom (i<n)) (K (F (.agg l)))
           | none=>.fail "load: not so many columns")
         | none=>.fail "load: no size")
       | false=>(match ay[k]? with
         | some c=>.and (.atom (i<n)) (K (F (c.at i)))
         | none=>.fail "load: no such column"))else .fail "load: another row")
     | _=>.fail "load: not a row")
   | some (.qi key w o i k)=>(match look key with
     | some (.view _z o' n ay)=>(if ay.length=w then(match lP d with
       | true=>(match sz P t with
         | some m=>(match uF ay i k m with
           | some l=>.and (.atom (o'=o/\i<n)) (K (F (.agg l)))
           | none=>.fail "load: not so many columns")
         | none=>.fail "load: no size")
       | false=>(match ay[k]? with
         | some c=>.and (.atom (o'=o/\i<n)) (K (F (c.at i)))
         | none=>.fail "load: no such column"))else .fail "load: another row")
     | _=>.fail "load: not a view")
   | some (.Aq key base n i)=>(match look key with
     | some (.cells cs _ _)=>(match lP d,nN cs base n with
       | false,F l=>(match Gl (aoQ l) l with
         | some zs=>.and (.atom (i<n)) (K (F (.int (aoQ l) G (M8 zs i))))
         | none=>(match yR l with
           | some ss=>.and (.atom (i<n)) (K (F (.str G (l9 ss i))))
           | none=>.fail "load: no integers"))
       | _,_=>.fail "load: not so many cells")
     | some (.rows G nb [c] _ _ _)=>(match lP d with
       | false=>.and (.atom (i<n/\base+i<nb)) (K (F (c.at (base+i))))
       | true=>.fail "load: not so many cells")
     | _=>.fail "load: no such block")
   | some (.raw (.pointer (F ⟨g,o,I⟩)))=>(match lP d,VJ g CG with
     | false,F cs=>(match av9 cs.toList with
       | some k=>(match Jx k cs.toList with
         | some zs=>.and (.atom (o<zs.length)) (K (F (.int k G (M8 zs o))))
         | none=>.fail "load: what a variable holds")
       | none=>(match o with
         | 0=>(match cs[0]? with
           | some v=>(match SV.aex v with
             | some x=>K (F x)
             | none=>.fail "load: what a variable holds")
           | none=>.fail "load: no cell")
         | _+1=>.fail "load: a variable's element"))
     | _,_=>.fail "load: a variable that is not listed")
   | some (.l7 key a o)=>(match look key with
     | some (.sy D cs _ _ _)=>(match lP d with
       | true=>(match sz P t with
         | some m=>(match uF cs a o m with
           | some l=>.and (.atom (D a=H)) (K (F (.agg l)))
           | none=>.fail "load: not so many columns")
         | none=>.fail "load: no size")
       | false=>(match cs[o]? with
         | some c=>.and (.atom (D a=H)) (K (F (c.at a)))
         | none=>.fail "load: no such column"))
     | _=>.fail "load: no family")
   | some (.yp key w a i k)=>(match look key with
     | some (.ni D n ay _)=>(if(ay.map (fW.at a)).length=w then(match lP d with
       | true=>(match sz P t with
         | some m=>(match uF (ay.map (fW.at a)) i k m with
           | some l=>.and (.atom (D a=H/\i<n a)) (K (F (.agg l)))
           | none=>.fail "load: not so many columns")
         | none=>.fail "load: no size")
       | false=>(match(ay.map (fW.at a))[k]? with
         | some c=>.and (.atom (D a=H/\i<n a)) (K (F (c.at i)))
         | none=>.fail "load: no such column"))else .fail "load: another row")
     | _=>.fail "load: no family")
   | _=>.fail "load: no pointer"
theorem aqa {look:vn}{σ:Operand->Option SV}(t:TypeId)(x:Operand) :
  bD P look σ (λρ=>N t (ρ x)) (ag6 P look t (σ x)):=by
 unfold ag6;cases hd:P.underlying t with
 | none=>exact bD.fail _
 | some d =>
   simp only;split
   ·rename_i key o hx;split
    ·rename_i cs tot ty hk;cases ha:lP d with
     | true =>
       simp only;cases hn:sz P t with
       | none=>exact bD.fail _
       | some n =>
         simp only;cases hl:nN cs o n with
         | none=>exact bD.fail _
         | some l =>
           refine bD.v _ λE w ρ hc hr=> ?_;obtain⟨ob,ho,c,fr,rfl,_,h2,_⟩:=hc.1 key _ hk rfl;have hg:=fY hl;have hll:=run_loadCells (P:=P) ho o (l.map (SV.val E)) (λj v hj=>by
            rw[S] at hj;cases hjl:l[j]? with
            | none=>rw[hjl] at hj;cases hj
            | some u=>rw[hjl] at hj;injection hj with hj;subst hj;exact h2 _ _ (hg.2 j u hjl))
           rw[an,hg.1] at hll;simp[N,hr x _ hx,SV.val,J,loadVar,fK hd,ha,dV hn,hll,SV.cF]
     | false =>
       simp only;cases hv:cs[o]? with
       | none=>exact bD.fail _
       | some v =>refine bD.v _ λE w ρ hc hr=> ?_;obtain⟨ob,ho,c,fr,rfl,_,h2,_⟩:=hc.1 key _ hk rfl;simp[N,hr x _ hx,SV.val,J,loadVar,fK hd,ha,cell_of ho,h2 _ _ hv]
    ·rename_i n col ro tot ty hk;cases ha:lP d with
     | true =>
       simp only;cases hn:sz P t with
       | none=>exact bD.fail _
       | some m =>
         refine bD.atom λhi=>bD.v _ λE w ρ hc hr=> ?_;obtain⟨ob,ho,c,fr,rfl,_,_,_,h2⟩:=hc.1 key _ hk rfl;have hll:=run_loadCells (P:=P) ho o ((me col o m).map (SV.val E)) (λj v hj=>by
          rw[S] at hj;cases hjl:(me col o m)[j]? with
          | none=>rw[hjl] at hj;cases hj
          | some u =>rw[hjl] at hj;injection hj with hj;subst hj;obtain⟨g1,g2⟩:=Cv col m o j u hjl;subst g2;have:=h2 (o+j) 0 col (by omega) rfl;simpa using this)
         rw[an,xO] at hll;simp[N,hr x _ hx,SV.val,J,loadVar,fK hd,ha,dV hn,hll,SV.cF]
     | false =>refine bD.atom λhi=>bD.v _ λE w ρ hc hr=> ?_;obtain⟨ob,ho,c,fr,rfl,_,_,_,h2⟩:=hc.1 key _ hk rfl;have h3:=h2 o 0 col hi rfl;simp only[bn,cL,cy,c4,cO] at h3;simp[N,hr x _ hx,SV.val,J,loadVar,fK hd,ha,cell_of ho,h3]
    ·exact bD.fail _
   ·rename_i key w i k hx;split
    ·rename_i z n ay ro tot ty hk;refine bD.ite (λhw=> ?_) (λ_=>bD.fail _);subst hw;cases ha:lP d with
     | true =>
       simp only;cases hn:sz P t with
       | none=>exact bD.fail _
       | some m =>
         simp only;cases hl:uF ay i k m with
         | none=>exact bD.fail _
         | some l =>
           refine bD.atom λhi=>bD.v _ λE w ρ hc hr=> ?_;obtain⟨ob,ho,c,fr,rfl,_,h1,_,h2⟩:=hc.1 key _ hk (SB.o5 hi);have hg:=fY hl;have hll:=run_loadCells (P:=P) ho (i*ay.length+k) (l.map (SV.val E)) (λj v hj=>by
            rw[S] at hj;cases hjl:l[j]? with
            | none=>rw[hjl] at hj;cases hj
            | some u =>
              rw[hjl] at hj;injection hj with hj;subst hj;have:=hg.2 j u hjl;rw[S] at this;cases hcl:ay[k+j]? with
              | none=>rw[hcl] at this;cases this
              | some col =>rw[hcl] at this;injection this with this;subst this;rw[W];exact h2 i (k+j) col hi hcl)
           rw[an,hg.1] at hll;simp[N,hr x _ hx,SV.val,J,loadVar,fK hd,ha,dV hn,hll,SV.cF]
     | false =>
       simp only;cases hv:ay[k]? with
       | none=>exact bD.fail _
       | some col =>refine bD.atom λhi=>bD.v _ λE w ρ hc hr=> ?_;obtain⟨ob,ho,c,fr,rfl,_,h1,_,h2⟩:=hc.1 key _ hk (SB.o5 hi);simp[N,hr x _ hx,SV.val,J,loadVar,fK hd,ha,cell_of ho,h2 _ _ _ hi hv]
    ·exact bD.fail _
   ·rename_i key w o i k hx;split
    ·rename_i z o' n ay hk;refine bD.ite (λhw=> ?_) (λ_=>bD.fail _);subst hw;cases ha:lP d with
     | true =>
       simp only;cases hn:sz P t with
       | none=>exact bD.fail _
       | some m =>
         simp only;cases hl:uF ay i k m with
         | none=>exact bD.fail _
         | some l =>
           refine bD.atom λhlh=>bD.v _ λE w ρ hc hr=> ?_;obtain⟨rfl,hi⟩:=hlh;obtain⟨ob,ho,c,ty,fr,rfl,h2⟩:=hc.1 key _ hk (SB.NA hi);have hg:=fY hl;have hll:=run_loadCells (P:=P) ho (o'+i*ay.length+k) (l.map (SV.val E)) (λj v hj=>by
            rw[S] at hj;cases hjl:l[j]? with
            | none=>rw[hjl] at hj;cases hj
            | some u =>
              rw[hjl] at hj;injection hj with hj;subst hj;have:=hg.2 j u hjl;rw[S] at this;cases hcl:ay[k+j]? with
              | none=>rw[hcl] at this;cases this
              | some col =>rw[hcl] at this;injection this with this;subst this;rw[W];exact h2 i (k+j) col hi hcl)
           rw[an,hg.1] at hll;simp[N,hr x _ hx,SV.val,J,loadVar,fK hd,ha,dV hn,hll,SV.cF]
     | false =>
       simp only;cases hv:ay[k]? with
       | none=>exact bD.fail _
       | some col =>refine bD.atom λhlh=>bD.v _ λE w ρ hc hr=> ?_;obtain⟨rfl,hi⟩:=hlh;obtain⟨ob,ho,c,ty,fr,rfl,h2⟩:=hc.1 key _ hk (SB.NA hi);simp[N,hr x _ hx,SV.val,J,loadVar,fK hd,ha,cell_of ho,h2 _ _ _ hi hv]
    ·exact bD.fail _
   ·rename_i key base n i hx;split
    ·rename_i cs tot ty hk;split
     ·rename_i l ha hl;split
      ·rename_i zs hz;refine bD.atom λhi=>bD.v _ λE w ρ hc hr=> ?_;obtain⟨ob,ho,c,fr,rfl,_,h2,_⟩:=hc.1 key _ hk rfl;have hg:=fY hl;have hzg:=AK hz;have hil:i<l.length:=by rw[hg.1];exact hi
       obtain⟨b,hb⟩:=hzg.2 i l[i] (bf hil);have:=h2 _ _ (hg.2 i l[i] (bf hil));rw[hb] at this;simp[N,hr x _ hx,SV.val,J,loadVar,fK hd,ha,cell_of ho,this]
      ·split
       ·rename_i ss hz;refine bD.atom λhi=>bD.v _ λE w ρ hc hr=> ?_;obtain⟨ob,ho,c,fr,rfl,_,h2,_⟩:=hc.1 key _ hk rfl;have hg:=fY hl;have hil:i<l.length:=by rw[hg.1];exact hi
        obtain⟨b,hb⟩:=xA hz i l[i] (bf hil);have:=h2 _ _ (hg.2 i l[i] (bf hil));rw[hb] at this;simp[N,hr x _ hx,SV.val,J,loadVar,fK hd,ha,cell_of ho,this]
       ·exact bD.fail _
     ·exact bD.fail _
    ·rename_i nb col ro tot ty hk;split
     ·rename_i ha;refine bD.atom λhi=>bD.v _ λE w ρ hc hr=> ?_;obtain⟨ob,ho,c,fr,rfl,_,_,_,h2⟩:=hc.1 key _ hk rfl;have h3:=h2 (base+i) 0 col hi.2 rfl;simp only[bn,cL,cy,c4,cO] at h3;simp[N,hr x _ hx,SV.val,J,loadVar,fK hd,ha,cell_of ho,h3]
     ·exact bD.fail _
    ·exact bD.fail _
   ·rename_i g o hx;split
    ·rename_i cs ha hcs;split
     ·rename_i k hk;split
      ·rename_i zs hz;refine bD.atom λho=>bD.v _ λE w ρ hc hr=> ?_;obtain⟨c,ty,fr,hg,hgc⟩:=hc.2.1 _ (Gf hcs);have hv:=(MQ hz).2 o ho;rw[Array.getElem?_toList] at hv;have hv:=hgc _ _ hv;simp[N,hr x _ hx,SV.val,J,loadVar,fK hd,ha,cell_of hg,hv]
      ·exact bD.fail _
     ·split
      ·split
       ·rename_i v hv;split
        ·rename_i y hy;refine bD.v _ λE w ρ hc hr=> ?_;obtain⟨c,ty,fr,hg,hgc⟩:=hc.2.1 _ (Gf hcs);simp[N,hr x _ hx,SV.val,J,loadVar,fK hd,ha,cell_of hg,hgc _ _ hv,SV.aey hy]
        ·exact bD.fail _
       ·exact bD.fail _
      ·exact bD.fail _
    ·exact bD.fail _
   ·rename_i key a o hx;split
    ·rename_i D cs tot ty ro hk;cases ha:lP d with
     | true =>
       simp only;cases hn:sz P t with
       | none=>exact bD.fail _
       | some m =>
         simp only;cases hl:uF cs a o m with
         | none=>exact bD.fail _
         | some l =>
           refine bD.atom λhD=>bD.v _ λE w ρ hc hr=> ?_;obtain⟨ob,ho,c,fr,rfl,_,h2,_⟩:=hc.2.2 key _ a hk hD;have hg:=fY hl;have hll:=run_loadCells (P:=P) ho o (l.map (SV.val E)) (λj v hj=>by
            rw[S] at hj;cases hjl:l[j]? with
            | none=>rw[hjl] at hj;cases hj
            | some u=>rw[hjl] at hj;injection hj with hj;subst hj;exact h2 _ _ (hg.2 j u hjl))
           rw[an,hg.1] at hll;simp[N,hr x _ hx,SV.val,J,loadVar,fK hd,ha,dV hn,hll,SV.cF]
     | false =>
       simp only;cases hv:cs[o]? with
       | none=>exact bD.fail _
       | some col =>refine bD.atom λhD=>bD.v _ λE w ρ hc hr=> ?_;obtain⟨ob,ho,c,fr,rfl,_,h2,_⟩:=hc.2.2 key _ a hk hD;simp[N,hr x _ hx,SV.val,J,loadVar,fK hd,ha,cell_of ho,h2 o (col.at a) (by rw[S,hv];rfl)]
    ·exact bD.fail _
   ·rename_i key w a i k hx;split
    ·rename_i D n ay ro hk;have hel:SB.el (.ni D n ay ro) a=.view G 0 (n a) (ay.map (fW.at a)):=rfl;generalize ay.map (fW.at a)=cl at hel ⊢;refine bD.ite (λhw=> ?_) (λ_=>bD.fail _);subst hw;cases ha:lP d with
     | true =>
       simp only;cases hn:sz P t with
       | none=>exact bD.fail _
       | some m =>
         simp only;cases hl:uF cl i k m with
         | none=>exact bD.fail _
         | some l =>
           refine bD.atom λhD=>bD.v _ λE w ρ hc hr=> ?_;obtain⟨ob,ho,hb⟩:=hc.2.2 key _ a hk hD.1;rw[hel] at hb;obtain⟨c,ty,fr,rfl,h2⟩:=hb;have hg:=fY hl;have hll:=run_loadCells (P:=P) ho (i*cl.length+k) (l.map (SV.val E)) (λj v hj=>by
            rw[S] at hj;cases hjl:l[j]? with
            | none=>rw[hjl] at hj;cases hj
            | some u =>
              rw[hjl] at hj;injection hj with hj;subst hj;have:=hg.2 j u hjl;rw[S] at this;cases hcl:cl[k+j]? with
              | none=>rw[hcl] at this;cases this
              | some col =>rw[hcl] at this;injection this with this;subst this;have:=h2 i (k+j) col hD.2 hcl;rw[W,← this];congr 1;omega)
           rw[an,hg.1] at hll;simp[N,hr x _ hx,SV.val,J,loadVar,fK hd,ha,dV hn,hll,SV.cF]
     | false =>
       simp only;cases hv:cl[k]? with
       | none=>exact bD.fail _
       | some col =>refine bD.atom λhD=>bD.v _ λE w ρ hc hr=> ?_;obtain⟨ob,ho,hb⟩:=hc.2.2 key _ a hk hD.1;rw[hel] at hb;obtain⟨c,ty,fr,rfl,h2⟩:=hb;have:=h2 i k col hD.2 hv;rw[cy] at this;simp[N,hr x _ hx,SV.val,J,loadVar,fK hd,ha,cell_of ho,this]
    ·exact bD.fail _
   ·exact bD.fail _
def azN (f:Field)(P:Program):Option Nat:=match sz P f.type with
 | some (_n+1)=>F f.offset
 | _=>I
def Gz (P:Program)(s:TypeId)(x:Option SV)(f:Nat)(K:Option SV->VC):VC :=
 match P.underlying s with
 | some (.struct fs)=>(match fs[f]? with
   | some fd=>(match azN fd P with
     | some o=>(match x with
       | some (.ptr key ol a)=>K (F (.ptr key ol (a+o)))
       | some (.uI key w i k)=>K (F (.uI key w i (k+o)))
       | some (.qi key w b i k)=>K (F (.qi key w b i (k+o)))
       | some (.l7 key b i)=>K (F (.l7 key b (i+o)))
       | some (.yp key w b i k)=>K (F (.yp key w b i (k+o)))
       | _=>.fail "fieldAddr: no pointer")
     | none=>.fail "fieldAddr: a field without cells")
   | none=>.fail "fieldAddr: no such field")
 | _=>.fail "fieldAddr: no struct"
theorem RE {look:vn}{σ:Operand->Option SV}(s:TypeId)(x:Operand)(f:Nat) :
  bD P look σ (λρ=>ag s (ρ x) f) (Gz P s (σ x) f):=by
 unfold Gz;split
 ·rename_i fs hd;split
  ·rename_i fd hf;cases ho:azN fd P with
   | none=>exact bD.fail _
   | some o =>
     have hsz: ∃ n,sz P fd.type=F (n+1)/\fd.offset=o:=by grind [azN]
     obtain⟨n,hn,rfl⟩:=hsz;simp only;split
     ·rename_i key ol a hx;refine bD.v _ λE w ρ hc hr=> ?_;simp[ag,hr x _ hx,SV.val,J,aL hd,hf,fieldPlace,dV hn,fS]
     ·rename_i key w i k hx;refine bD.v _ λE w ρ hc hr=> ?_;simp[ag,hr x _ hx,SV.val,J,aL hd,hf,fieldPlace,dV hn,fS,W]
     ·rename_i key w b i k hx;refine bD.v _ λE w ρ hc hr=> ?_;simp[ag,hr x _ hx,SV.val,J,aL hd,hf,fieldPlace,dV hn,fS,W]
     ·rename_i key b i hx;refine bD.v _ λE w ρ hc hr=> ?_;simp[ag,hr x _ hx,SV.val,J,aL hd,hf,fieldPlace,dV hn,fS]
     ·rename_i key w b i k hx;refine bD.v _ λE w ρ hc hr=> ?_;simp[ag,hr x _ hx,SV.val,J,aL hd,hf,fieldPlace,dV hn,fS,W]
     ·exact bD.fail _
  ·exact bD.fail _
 ·exact bD.fail _
def places (i:Int)(t:Nat->VC):Nat->VC
 | 0=>.tt
 | n+1=>.and (places i t n) (.imp (i=n) (t n))
theorem PC {i:Int}{t:Nat->VC}: ∀ {n:Nat},0<=i->i<n->((places i t n).holds↔(t i.toNat).holds)
 | 0,h,h'=>by omega
 | n+1,h,h'=>by
   simp only[places,VC.holds];by_cases e:i=n
   ·subst e;simp only[Int.toNat_natCast];constructor
    ·intro x;exact x.2 trivial
    ·intro x;refine⟨?_,λ_=>x⟩;have: ∀ m,m<=n->(places (n:Int) t m).holds:=by
      intro m;induction m with
      | zero=>intro _;exact trivial
      | succ m ih=>intro hm;exact⟨ih (by omega),λe=>by omega⟩
     exact this n (bl _)
   ·have:=PC (i:=i) (t:=t) (n:=n) h (by omega);rw[this];exact⟨λx=>x.1,λx=>⟨x,λe'=>absurd e' e⟩⟩
def E4 (l:Bool)(i:Int)(n:Nat)(t:Nat->VC):VC :=
 match l with
 | true=>if 0<=i/\i<n then t i.toNat else .fail "index out of range"
 | false=>.and (.atom (0<=i/\i<n)) (places i t n)
theorem bD.index {look:vn}{σ:Operand->Option SV}{s:(Operand->Value)->Sem Value}{l:Bool}{i:Int}{t:Nat->QT}
  (h:0<=i->i<n->bD P look σ s (t i.toNat)):bD P look σ s (λK=>E4 l i n (λj=>t j K)):=by
 unfold E4;cases l with
 | true=>exact bD.ite (by grind) (λ_=>bD.fail _)
 | false =>refine bD.atom λhc=> ?_;obtain⟨obl,sv,h1,h2⟩:=h hc.1 hc.2;exact⟨obl,sv,(by grind [PC]),h2⟩
def GA (P:Program)(t:TypeId)(x i:Option SV)(K:Option SV->VC):VC :=
 match P.underlying t,i with
 | some (.array len elem),F (.int _ l n)=>(match sz P elem,x with
   | some m,F (.ptr key H o)=>(match l|| !Nat.beq m 1 with
     | true=>E4 l n len (λj=>K (F (.ptr key H (o+j*m))))
     | false=>.and (.atom (0<=n/\n<len)) (K (F (.Aq key o len n.toNat))))
   | some 1,F (.raw (.pointer (F ⟨g,0,I⟩)))=>.and (.atom (0<=n/\n<len)) (K (F (.raw (.pointer (F ⟨g,n.toNat,I⟩)))))
   | _,_=>.fail "indexAddr: array")
 | some (.slice elem),F (.int _ l n)=>(match sz P elem,x with
   | some m,F (.slc key o len _ _)=>(match l|| !Nat.beq m 1||Q len 16 with
     | true=>E4 l n len (λj=>K (F (.ptr key H (o+j*m))))
     | false=>.and (.atom (0<=n/\n<len)) (K (F (.Aq key o len n.toNat))))
   | some m,F (.bY key w _z i0 len _)=>if m=w then .and (.atom (0<=n/\n<len)) (K (F (.uI key w (i0+n.toNat) 0)))else .fail "indexAddr: another row"
   | some m,F (.cT key w _z b i0 len _)=>if m=w then .and (.atom (0<=n/\n<len)) (K (F (.qi key w b (i0+n.toNat) 0)))else .fail "indexAddr: another row"
   | some m,F (.iP key w _z b i0 len _)=>if m=w then .and (.atom (0<=n/\n<len)) (K (F (.yp key w b (i0+n.toNat) 0)))else .fail "indexAddr: another row"
   | _,_=>.fail "indexAddr: slice")
 | _,_=>.fail "indexAddr"
theorem RF {look:vn}{σ:Operand->Option SV}(t:TypeId)(x i:Operand) :
  bD P look σ (λρ=>T t (ρ x) (ρ i)) (GA P t (σ x) (σ i)):=by
 unfold GA;split
 ·rename_i len elem k l n hd hi;split
  ·rename_i m key o hm hx;split
   ·refine bD.index λh0 h1=>bD.v _ λE w ρ hc hr=> ?_;simp[T,hr x _ hx,hr i _ hi,SV.val,asIntOf,J,aL hd,dV hm,h0,h1,fS]
   ·rename_i hcond;have hm1:m=1:=by simp_all
    refine bD.atom λh0=>bD.v _ λE w ρ hc hr=> ?_;simp[T,hr x _ hx,hr i _ hi,SV.val,asIntOf,J,aL hd,dV hm,h0.1,h0.2,fS,hm1]
  ·rename_i g hm hx;refine bD.atom λh0=>bD.v _ λE w ρ hc hr=> ?_;simp[T,hr x _ hx,hr i _ hi,SV.val,asIntOf,J,aL hd,dV hm,h0.1,h0.2,fS]
  ·exact bD.fail _
 ·rename_i elem k l n hd hi;split
  ·rename_i m key o len cl c hm hx;split
   ·refine bD.index λh0 h1=>bD.v _ λE w ρ hc hr=> ?_;simp[T,hr x _ hx,hr i _ hi,SV.val,asIntOf,aL hd,dV hm,h0,h1,fS]
   ·rename_i hcond;have hm1:m=1:=by simp_all
    refine bD.atom λh0=>bD.v _ λE w ρ hc hr=> ?_;simp[T,hr x _ hx,hr i _ hi,SV.val,asIntOf,aL hd,dV hm,h0.1,h0.2,fS,hm1]
  ·rename_i m key w z i0 len c hm hx;refine bD.ite (λe=> ?_) (λ_=>bD.fail _);subst e;refine bD.atom λh0=>bD.v _ λE w ρ hc hr=> ?_
   have hne:O len 0=false:=by cases len with
    | zero=>omega
    | succ n=>rfl
   simp[T,hr x _ hx,hr i _ hi,SV.val,asIntOf,aL hd,dV hm,h0.1,h0.2,fS,b_,hne]
  ·rename_i m key w z b i0 len c hm hx;refine bD.ite (λe=> ?_) (λ_=>bD.fail _);subst e;refine bD.atom λh0=>bD.v _ λE w ρ hc hr=> ?_
   have hne:O len 0=false:=by cases len with
    | zero=>omega
    | succ n=>rfl
   simp[T,hr x _ hx,hr i _ hi,SV.val,asIntOf,aL hd,dV hm,h0.1,h0.2,fS,b_,hne,W]
  ·rename_i m key w z b i0 len c hm hx;refine bD.ite (λe=> ?_) (λ_=>bD.fail _);subst e;refine bD.atom λh0=>bD.v _ λE w ρ hc hr=> ?_
   have hne:O len 0=false:=by cases len with
    | zero=>omega
    | succ n=>rfl
   simp[T,hr x _ hx,hr i _ hi,SV.val,asIntOf,aL hd,dV hm,h0.1,h0.2,fS,b_,hne]
  ·exact bD.fail _
 ·exact bD.fail _
end Sx
end Go.Proofs.YtoibaecagklkaaaGreatDoor
