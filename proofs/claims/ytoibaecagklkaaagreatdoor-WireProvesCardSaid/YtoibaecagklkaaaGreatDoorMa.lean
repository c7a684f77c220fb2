/- A part of the proof. -/
import Derived.Test.YtoibaecagklkaaaGreatDoorProg
import Derived.KernelRfl
import Derived.Calls
import Derived.RangeFuncIn
import Derived.RangeFuncLeaves
import Derived.RangeFuncCalls
import Derived.OrdersIn
import Derived.Orders
import Derived.Laws.Sem
import Derived.Below
import Derived.MapKept
open Array renaming getElem?_eq_some_iff->P,getElem?_push->W,getElem?_setIfInBounds_ne->O
open Bool renaming and_eq_true->N,false->G,true->H
open Nat renaming beq->K,blt->L,blt_eq->J,le_refl->Q,le_trans->S,lt_of_lt_of_le->T,ne_of_lt->V
open Option renaming none->I,some->F
namespace Go.Proofs.YtoibaecagklkaaaGreatDoor
theorem l_ {p:Prop}[i:Decidable p]:Decidable.decide p=Bool.true->p:=of_decide_eq_true
theorem m_ {p:Prop}[i:Decidable p]:Decidable.decide p=Bool.false->Not p:=of_decide_eq_false
theorem n_ {p:Prop}[i:Decidable p]:p->Decidable.decide p=Bool.true:=decide_eq_true
theorem o_ {p:Prop}[i:Decidable p]:Not p->Decidable.decide p=Bool.false:=decide_eq_false
theorem p_ {p:Prop}[i:Decidable p]:(Decidable.decide p=Bool.true)=p:=decide_eq_true_eq
theorem q_ {p:Prop}{i:Decidable p}:Decidable.decide p=Bool.false↔Not p:=decide_eq_false_iff_not
theorem r_ {c:Prop}{h:Decidable c}(a:c){α:Sort _}{t e:α}:ite c t e=t:=if_pos a
theorem s_ {c:Prop}{h:Decidable c}(a:Not c){α:Sort _}{t e:α}:ite c t e=e:=if_neg a
abbrev f_:=List UInt8
open Go
variable {a b i k key n nx:Nat}{E E':Nat->Nat}{M:Nat->Prop}{o:Obj}
section
open Go
def hB:Nat:=3
noncomputable def di:List (Nat×Nat):=[(30,2),(290,22),(293,20),(294,22),(122,22),(87,22),(89,22),(253,22),(184,22)]
noncomputable def kS:List (Nat×Nat):=[(294,293),(122,30),(89,87)]
noncomputable def Ho:List (Nat×Bool):=[(30,H)]
noncomputable def HQ:List (Nat×Nat×Bool):=[(87,84,H),(30,84,H)]
noncomputable def yu:List (Nat×Nat×Bool):=[(253,30,G),(87,87,H),(30,30,H),
 (290,30,G),(290,293,H)]
noncomputable def F4:List (Nat×Nat×Bool):=[(30,293,G)]
noncomputable def DN:List (Nat×Nat×Bool):=[(87,87,G),(30,30,G),(293,290,H)]
end
namespace Sx
open Go
noncomputable def rX:List (Nat×Array Value) :=
 (0,#[.iface 212 (.agg #[.pointer (F ⟨Tryz.prog.globals.size,84,I⟩)])]) ::
 (1,#[.int .u32 1116352408,.int .u32 1899447441,.int .u32 3049323471,.int .u32 3921009573,.int .u32 961987163,.int .u32 1508970993,.int .u32 2453635748,.int .u32 2870763221,.int .u32 3624381080,.int .u32 310598401,.int .u32 607225278,.int .u32 1426881987,.int .u32 1925078388,.int .u32 2162078206,.int .u32 2614888103,.int .u32 3248222580,.int .u32 3835390401,.int .u32 4022224774,.int .u32 264347078,.int .u32 604807628,.int .u32 770255983,.int .u32 1249150122,.int .u32 1555081692,.int .u32 1996064986,.int .u32 2554220882,.int .u32 2821834349,.int .u32 2952996808,.int .u32 3210313671,.int .u32 3336571891,.int .u32 3584528711,.int .u32 113926993,.int .u32 338241895,.int .u32 666307205,.int .u32 773529912,.int .u32 1294757372,.int .u32 1396182291,.int .u32 1695183700,.int .u32 1986661051,.int .u32 2177026350,.int .u32 2456956037,.int .u32 2730485921,.int .u32 2820302411,.int .u32 3259730800,.int .u32 3345764771,.int .u32 3516065817,.int .u32 3600352804,.int .u32 4094571909,.int .u32 275423344,.int .u32 430227734,.int .u32 506948616,.int .u32 659060556,.int .u32 883997877,.int .u32 958139571,.int .u32 1322822218,.int .u32 1537002063,.int .u32 1747873779,.int .u32 1955562222,.int .u32 2024104815,.int .u32 2227730452,.int .u32 2361852424,.int .u32 2428436474,.int .u32 2756734187,.int .u32 3204031479,.int .u32 3329325298]) ::
 []
universe u
inductive VC:Type 1 where
 | tt
 | fail (why:String)
 | atom (p:Prop)
 | and (a b:VC)
 | imp (p:Prop) (a:VC)
 | all (α:Type) (f:α->VC)
 | ex (α:Type) (f:α->VC)
 | eqv (p q:Prop) (h:q)
 | fork (b:Bool) (x y:VC)
def VC.holds:VC->Prop
 | .tt=>True
 | .fail _=>False
 | .atom p=>p
 | .and a b=>a.holds/\b.holds
 | .imp p a=>p->a.holds
 | .all α f=>∀ x:α,(f x).holds
 | .ex α f=>∃ x:α,(f x).holds
 | .eqv p _ _=>p
 | .fork b x y=>(b=H->x.holds)/\(b=G->y.holds)
def kD {α:Sort u}(a b:α):VC:=.eqv (a=b) (a=a) rfl
def fork (b:Bool)(f:Bool->VC):VC:=.fork b (f H) (f G)
theorem bP {b:Bool}{f:Bool->VC}:(fork b f).holds↔(f b).holds:=by
 constructor
 ·intro h;cases b
  ·exact h.2 rfl
  ·exact h.1 rfl
 ·intro h;cases b
  ·exact⟨λe=>absurd e (by decide),λ_=>h⟩
  ·exact⟨λ_=>h,λe=>absurd e (by decide)⟩
inductive SV where
 | int (k:IntKind) (l:Bool) (n:Int)
 | bool (l:Bool) (b:Bool)
 | str (l:Bool) (s:f_)
 | ptr (key:Nat) (ol:Bool) (o:Nat)
 | lS (key w i k:Nat)
 | pT (key base n i:Nat)
 | cD
 | slc (key:Nat) (o n:Nat) (cl:Bool) (c:Nat)
 | aX (key w:Nat) (z:Bool) (i n c:Nat)
 | bE (key w:Nat) (z:Bool) (o i n c:Nat)
 | i9 (key w o i k:Nat)
 | aO
 | agg (cs:List SV)
 | aN (vs:List SV)
 | iface (t:TypeId) (v:SV)
 | aC
 | func (fn:Fn) (first captured:List SV)
 | fM
 | yield (key:Nat)
 | map (key:Nat)
 | fU
 | raw (v:Value)
 | ga (key a o:Nat)
 | b7 (key w:Nat) (z:Bool) (a i n c:Nat)
 | n7 (key w a i k:Nat)
mutual
def SV.val (E:Nat->Nat):SV->Value
 | .int k _ n=>.int k n
 | .bool _ b=>.bool b
 | .str _ s=>.string ⟨s.toArray⟩
 | .ptr key _ o=>.pointer (F ⟨E key,o,I⟩)
 | .lS key w i k=>.pointer (F ⟨E key,i*w+k,I⟩)
 | .pT key base _ i=>.pointer (F ⟨E key,base+i,I⟩)
 | .cD=>.pointer I
 | .slc key o n _ c=>.slice (F ⟨E key,o,I⟩) n c
 | .aX key w z i n c=>.slice (bif z&&K n 0 then I else F ⟨E key,i*w,I⟩) n (bif z&&K n 0 then 0 else c)
 | .bE key w z o i n c=>.slice (bif z&&K n 0 then I else F ⟨E key,o+i*w,I⟩) n (bif z&&K n 0 then 0 else c)
 | .i9 key w o i k=>.pointer (F ⟨E key,o+i*w+k,I⟩)
 | .aO=>.slice I 0 0
 | .agg cs=>.agg (SV.vals E cs).toArray
 | .aN vs=>.tuple (SV.vals E vs).toArray
 | .iface t v=>.iface t (v.val E)
 | .aC=>.nilIface
 | .func fn a b=>.func fn (SV.vals E a).toArray (SV.vals E b).toArray
 | .fM=>.nilFunc
 | .yield key=>.func (.yield (E key)) #[] #[]
 | .map key=>.map (F (E key))
 | .fU=>.map I
 | .raw v=>v
 | .ga _ a o=>.pointer (F ⟨a,o,I⟩)
 | .b7 _ w z a i n c=>.slice (bif z&&K n 0 then I else F ⟨a,i*w,I⟩) n (bif z&&K n 0 then 0 else c)
 | .n7 _ w a i k=>.pointer (F ⟨a,i*w+k,I⟩)
def SV.vals (E:Nat->Nat):List SV->List Value
 | []=>[]
 | x::r=>x.val E::SV.vals E r
end
theorem SV.bM (E:Nat->Nat)(l:List SV):SV.vals E l=l.map (SV.val E):=by
 induction l with
 | nil=>rfl
 | cons x r ih=>simp[SV.vals,ih]
mutual
def SV.wf (nx:Nat):SV->Bool
 | .ptr key _ _=>L key nx
 | .lS key _ _ _=>L key nx
 | .pT key _ _ _=>L key nx
 | .slc key _ _ _ _=>L key nx
 | .aX key _ _ _ _ _=>L key nx
 | .bE key _ _ _ _ _ _=>L key nx
 | .i9 key _ _ _ _=>L key nx
 | .map key=>L key nx
 | .yield key=>L key nx
 | .agg cs=>SV.fH nx cs
 | .aN vs=>SV.fH nx vs
 | .iface _ v=>v.wf nx
 | .func _ a b=>SV.fH nx a&&SV.fH nx b
 | _=>H
def SV.fH (nx:Nat):List SV->Bool
 | []=>H
 | x::r=>x.wf nx&&SV.fH nx r
end
mutual
theorem SV.val_congr (h: ∀ k,k<nx->E' k=E k):(v:SV)->v.wf nx=H->v.val E'=v.val E
 | .int ..,_=>rfl
 | .bool ..,_=>rfl
 | .str ..,_=>rfl
 | .ptr key _ _,hw=>by simp[SV.wf,J] at hw;simp[SV.val,h key hw]
 | .lS key _ _ _,hw=>by simp[SV.wf,J] at hw;simp[SV.val,h key hw]
 | .pT key _ _ _,hw=>by simp[SV.wf,J] at hw;simp[SV.val,h key hw]
 | .cD,_=>rfl
 | .slc key _ _ _ _,hw=>by simp[SV.wf,J] at hw;simp[SV.val,h key hw]
 | .aX key _ _ _ _ _,hw=>by simp[SV.wf,J] at hw;simp[SV.val,h key hw]
 | .bE key _ _ _ _ _ _,hw=>by simp[SV.wf,J] at hw;simp[SV.val,h key hw]
 | .i9 key _ _ _ _,hw=>by simp[SV.wf,J] at hw;simp[SV.val,h key hw]
 | .aO,_=>rfl
 | .agg cs,hw=>by simp only[SV.wf] at hw;simp only[SV.val,SV.fY h cs hw]
 | .aN vs,hw=>by simp only[SV.wf] at hw;simp only[SV.val,SV.fY h vs hw]
 | .iface _ v,hw=>by simp only[SV.wf] at hw;simp only[SV.val,SV.val_congr h v hw]
 | .aC,_=>rfl
 | .func _ a b,hw=>by simp only[SV.wf,N] at hw;simp only[SV.val,SV.fY h a hw.1,SV.fY h b hw.2]
 | .fM,_=>rfl
 | .map key,hw=>by simp[SV.wf,J] at hw;simp[SV.val,h key hw]
 | .yield key,hw=>by simp[SV.wf,J] at hw;simp[SV.val,h key hw]
 | .fU,_=>rfl
 | .raw _,_=>rfl
 | .ga ..,_=>rfl
 | .b7 ..,_=>rfl
 | .n7 ..,_=>rfl
theorem SV.fY (h: ∀ k,k<nx->E' k=E k):(l:List SV)->SV.fH nx l=H->SV.vals E' l=SV.vals E l
 | [],_=>rfl
 | x::r,hw=>by simp only[SV.fH,N] at hw;simp only[SV.vals,SV.val_congr h x hw.1,SV.fY h r hw.2]
end
mutual
theorem SV.iq {m:Nat}(h:n<=m):(v:SV)->v.wf n=H->v.wf m=H
 | .int ..,_=>rfl
 | .bool ..,_=>rfl
 | .str ..,_=>rfl
 | .ptr key _ _,hw=>by simp[SV.wf,J] at hw ⊢;omega
 | .lS key _ _ _,hw=>by simp[SV.wf,J] at hw ⊢;omega
 | .pT key _ _ _,hw=>by simp[SV.wf,J] at hw ⊢;omega
 | .cD,_=>rfl
 | .slc key _ _ _ _,hw=>by simp[SV.wf,J] at hw ⊢;omega
 | .aX key _ _ _ _ _,hw=>by simp[SV.wf,J] at hw ⊢;omega
 | .bE key _ _ _ _ _ _,hw=>by simp[SV.wf,J] at hw ⊢;omega
 | .i9 key _ _ _ _,hw=>by simp[SV.wf,J] at hw ⊢;omega
 | .aO,_=>rfl
 | .agg cs,hw=>by simp only[SV.wf] at hw ⊢;exact SV.ja h cs hw
 | .aN vs,hw=>by simp only[SV.wf] at hw ⊢;exact SV.ja h vs hw
 | .iface _ v,hw=>by simp only[SV.wf] at hw ⊢;exact SV.iq h v hw
 | .aC,_=>rfl
 | .func _ a b,hw=>by simp only[SV.wf,N] at hw ⊢;exact⟨SV.ja h a hw.1,SV.ja h b hw.2⟩
 | .fM,_=>rfl
 | .map key,hw=>by simp[SV.wf,J] at hw ⊢;omega
 | .yield key,hw=>by simp[SV.wf,J] at hw ⊢;omega
 | .fU,_=>rfl
 | .raw _,_=>rfl
 | .ga ..,_=>rfl
 | .b7 ..,_=>rfl
 | .n7 ..,_=>rfl
theorem SV.ja {m:Nat}(h:n<=m):(l:List SV)->SV.fH n l=H->SV.fH m l=H
 | [],_=>rfl
 | x::r,hw=>by simp only[SV.fH,N] at hw ⊢;exact⟨SV.iq h x hw.1,SV.ja h r hw.2⟩
end
def SV.mZ:SV->Bool
 | .agg _ | .aN _=>G
 | .raw (.pointer _)=>H
 | .raw _=>G
 | _=>H
theorem SV.qj {v:SV}(h:v.mZ=H):(v.val E).oneCell'=true:=by
 cases v
 case raw u=>cases u<;>simp_all [SV.mZ,SV.val,Value.oneCell']
 all_goals simp_all [SV.mZ,SV.val,Value.oneCell']
def SV.cells:SV->List SV
 | .agg cs=>cs
 | v=>[v]
def SV.plain:SV->Bool
 | .raw (.pointer _)=>H
 | .raw _=>G
 | _=>H
theorem SV.fI {v:SV}(h:v.plain=H):(v.val E).cells=(v.cells.map (SV.val E)).toArray:=by
 cases v
 case raw u=>cases u<;>simp_all [SV.plain,SV.cells,SV.val,Value.cells]
 all_goals simp_all [SV.plain,SV.cells,SV.val,Value.cells,SV.bM]
def SV.vM:Value->Option SV
 | .int k n=>F (.int k H n)
 | .bool b=>F (.bool H b)
 | .string s=>F (.str H s.data.toList)
 | .pointer I=>F .cD
 | .slice I 0 0=>F .aO
 | .map I=>F .fU
 | .nilFunc=>F .fM
 | .nilIface=>F .aC
 | _=>I
def SV.nS:List Value->Option (List SV)
 | []=>F []
 | v::r=>match SV.vM v,SV.nS r with
   | some x,F l=>F (x::l)
   | _,_=>I
def SV.ofConst:Value->Option SV
 | .agg cs=>match SV.nS cs.toList with
   | some l=>F (.agg l)
   | none=>I
 | v=>SV.vM v
theorem SV.vN {v:Value}{x:SV}(h:SV.vM v=F x):x.val E=v:=by unfold SV.vM at h;split at h<;>first | (cases h;simp[SV.val];done) | cases h
theorem SV.Lg {l:List Value}{xs:List SV}(h:SV.nS l=F xs):xs.map (SV.val E)=l:=by
 induction l generalizing xs with
 | nil=>simp[SV.nS] at h;subst h;rfl
 | cons v r ih =>
   simp only[SV.nS] at h;split at h
   ·rename_i x l' hx hl;cases h;simp[SV.vN hx,ih hl]
   ·cases h
theorem SV.AE {v:Value}{x:SV}(h:SV.ofConst v=F x):x.val E=v:=by
 unfold SV.ofConst at h;split at h
 ·split at h
  ·rename_i cs l hl;cases h;have:=SV.Lg (E:=E) hl;simp[SV.val,SV.bM,this]
  ·cases h
 ·exact SV.vN h
inductive av where
 | int (k:IntKind) (f:Nat->Int)
 | bool (f:Nat->Bool)
 | str (f:Nat->f_)
 | raw (f:Nat->Value)
 | ref (key:Nat) (f:Nat->Nat)
 | b7 (key w:Nat) (z:Bool) (f n c:Nat->Nat)
def av.at (i:Nat):av->SV
 | .int k f=>.int k G (f i)
 | .bool f=>.bool G (f i)
 | .str f=>.str G (f i)
 | .raw f=>.raw (f i)
 | .ref key f=>.ga key (f i) 0
 | .b7 key w z f n c=>.b7 key w z (f i) 0 (n i) (c i)
theorem av.ET (i nx:Nat)(c:av):(c.at i).wf nx=true:=by cases c<;>rfl
inductive cg where
 | int (k:IntKind) (f:Nat->Nat->Int)
 | bool (f:Nat->Nat->Bool)
 | str (f:Nat->Nat->f_)
 | ref (key:Nat) (f:Nat->Nat->Nat)
def cg.at (a:Nat):cg->av
 | .int k f=>.int k (f a)
 | .bool f=>.bool (f a)
 | .str f=>.str (f a)
 | .ref key f=>.ref key (f a)
mutual
def SV.hint:SV->Bool
 | .ga .. =>H
 | .b7 .. =>H
 | .n7 .. =>H
 | .agg l=>SV.hints l
 | .aN l=>SV.hints l
 | .iface _ v=>v.hint
 | .func _ a b=>SV.hints a||SV.hints b
 | _=>G
def SV.hints:List SV->Bool
 | []=>G
 | x::r=>x.hint||SV.hints r
end
inductive aE where
 | int (k:IntKind) (g:f_->Int)
 | raw (g:f_->Value)
 | ref (key:Nat) (g:f_->Nat)
def aE.val (s:f_):aE->Value
 | .int k g=>.int k (g s)
 | .raw g=>g s
 | .ref _ g=>.pointer (F ⟨g s,0,I⟩)
def nv (s:f_):Value:=.string ⟨s.toArray⟩
structure yj (d:f_->Bool)(c:aE)(pend:Option (f_×Int))(es:Array MapEntry)(clock:Nat):Prop where
 st:MapKept.Stamped es clock
 ks: ∀ x∈ es.toList,MapKept.IsKey .string x.key
 has: ∀ s,d s=H->∃ e∈ es.toList,e.key=nv s/\e.val=c.val s
 no: ∀ s,d s=G->∀ e∈ es.toList,e.key≠nv s
 pd: ∀ s b,pend=F (s,b)->∃ e∈ es.toList,(e.born:Int)=b/\e.key=nv s
inductive SB where
 | cells (cs:List SV) (tot:Nat) (ty:TypeId)
 | rows (z:Bool) (n:Nat) (az:List av) (ro:Bool) (tot:Nat) (ty:TypeId)
 | view (z:Bool) (o n:Nat) (az:List av)
 | loop (st:LoopState) (pend:Option Code) (R:Loop)
 | map (es:List (Nat×SV×SV)) (clock:Nat)
 | fmap (d:f_->Bool) (c:aE) (pend:Option (f_×Int))
 | Zw (mp:Option Nat) (since:Nat) (seen:List Nat) (last:Nat)
 | eD (D:Nat->Bool) (cs:List av) (tot:Nat) (ty:TypeId) (fro:Bool)
 | dQ (D:Nat->Bool) (n:Nat->Nat) (az:List cg) (fro:Bool)
def M6 (nx:Nat):List (Nat×SV×SV)->Bool
 | []=>H
 | e::r=>e.2.1.wf nx&&e.2.2.wf nx&&M6 nx r
def SB.ro:SB->Bool
 | .cells .. =>G
 | .rows _ _ _ ro _ _=>ro
 | .view .. =>H
 | .eD _ _ _ _ ro=>ro
 | .dQ _ _ _ ro=>ro
 | _=>G
def SB.no:SB->Bool
 | .cells .. =>G
 | .rows z n _ _ _ _=>z&&K n 0
 | .view z _ n _=>z&&K n 0
 | .eD .. =>H
 | .dQ .. =>H
 | _=>G
theorem SB.jd {z:Bool}{az:List av}{ro:Bool}{tot:Nat}{ty:TypeId}(h:i<n):(SB.rows z n az ro tot ty).no=false:=by
 have:K n 0=false:=by cases n with
  | zero=>omega
  | succ n=>rfl
 simp[SB.no,this]
theorem SB.Bu {z:Bool}{az:List av}{o:Nat}(h:i<n):(SB.view z o n az).no=false:=by
 have:K n 0=false:=by cases n with
  | zero=>omega
  | succ n=>rfl
 simp[SB.no,this]
def SB.wf (nx:Nat):SB->Bool
 | .cells cs _ _=>SV.fH nx cs
 | .rows .. =>H
 | .view .. =>H
 | .loop .. =>H
 | .map es _=>M6 nx es
 | .fmap .. =>H
 | .Zw mp _ _ _=>match mp with
   | some k=>L k nx
   | none=>H
 | .eD .. =>H
 | .dQ .. =>H
abbrev Mem:=List (Nat×SB)
def Mem.get (key:Nat):Mem->Option SB
 | []=>I
 | e::r=>if e.1=key then F e.2 else Mem.get key r
def Mem.put (key:Nat)(B:SB):Mem->Mem
 | []=>[]
 | e::r=>if e.1=key then(e.1,B)::r else e::Mem.put key B r
def Mem.drop (key:Nat):Mem->Mem
 | []=>[]
 | e::r=>if e.1=key then Mem.drop key r else e::Mem.drop key r
def Mem.wf (nx:Nat):Mem->Bool
 | []=>H
 | e::r=>e.2.wf nx&&Mem.wf nx r
theorem Mem.gJ {B:SB}{m:Mem}{X:SB}(h:(Mem.put key B m).get k=F X) :
  (k=key/\X=B/\(m.get k).isSome)∨(k≠key/\m.get k=F X):=by
 induction m with
 | nil=>simp[Mem.put,Mem.get] at h
 | cons e r ih =>
   by_cases he:e.1=key
   ·by_cases hk:key=k
    ·subst hk;rw[Mem.put,r_ he,Mem.get,r_ he] at h;injection h with h;exact .inl ⟨rfl,h.symm,by rw[Mem.get,r_ he];rfl⟩
    ·rw[Mem.put,r_ he,Mem.get,s_ (λx=>hk (he.symm.trans x))] at h;rw[Mem.get,s_ (λx=>hk (he.symm.trans x))];exact .inr ⟨λe=>hk e.symm,h⟩
   ·rw[Mem.put,s_ he] at h;by_cases hk:e.1=k
    ·rw[Mem.get,r_ hk] at h ⊢;exact .inr ⟨λe=>he (hk.trans e),h⟩
    ·rw[Mem.get,s_ hk] at h ⊢;exact ih h
theorem Mem.Nf {B:SB}{m:Mem}(h:k≠key):(Mem.put key B m).get k=m.get k:=by
 induction m with
 | nil=>rfl
 | cons e r ih =>
   by_cases he:e.1=key
   ·rw[Mem.put,r_ he,Mem.get,s_ (λx=>h (x.symm.trans he)),Mem.get,s_ (λx=>h (x.symm.trans he))]
   ·rw[Mem.put,s_ he];by_cases hk:e.1=k
    ·rw[Mem.get,r_ hk,Mem.get,r_ hk]
    ·rw[Mem.get,s_ hk,Mem.get,s_ hk];exact ih
theorem Mem.fK {m:Mem}{X:SB}(h:(Mem.drop key m).get k=F X):k≠key/\m.get k=F X:=by
 induction m with
 | nil=>simp[Mem.drop,Mem.get] at h
 | cons e r ih =>
   by_cases he:e.1=key
   ·rw[Mem.drop,r_ he] at h;have:=ih h;refine⟨this.1,?_⟩;rw[Mem.get,s_ (λe=>this.1 (e.symm.trans he))];exact this.2
   ·rw[Mem.drop,s_ he] at h;by_cases hk:e.1=k
    ·rw[Mem.get,r_ hk] at h ⊢;exact⟨λe=>he (hk.trans e),h⟩
    ·rw[Mem.get,s_ hk] at h ⊢;exact ih h
theorem Mem.Jj {m:Mem}(h:m.wf nx=H){B:SB}(hg:m.get k=F B):B.wf nx=true:=by
 induction m with
 | nil=>cases hg
 | cons e r ih =>
   simp only[Mem.wf,N] at h;by_cases hk:e.1=k
   ·simp only[Mem.get,hk,if_true] at hg;cases hg;exact h.1
   ·simp only[Mem.get,hk,if_false] at hg;exact ih h.2 hg
def eS (E:Nat->Nat)(es:List (Nat×SV×SV)):List MapEntry:=es.map λp=>{key:=p.2.1.val E,val:=p.2.2.val E,born:=p.1}
def bK (E:Nat->Nat):SB->Obj->Prop
 | .cells cs tot ty,o=>∃ c fr,o=.cells c ty fr/\(∀ i,c.size<=i∨¬ (fr.1<=i/\i<fr.2)) /\
    (∀(i:Nat) (v:SV),cs[i]?=F v->c[i]?=F (v.val E))/\c.size=tot
 | .rows _ n az ro tot ty,o=>∃ c fr,o=.cells c ty fr/\(ro=G->∀ i,c.size<=i∨¬ (fr.1<=i/\i<fr.2)) /\
    n*az.length<=c.size/\c.size=tot/\(∀(i k:Nat) (col:av),i<n->az[k]?=F col->c[i*az.length+k]?=F ((col.at i).val E))
 | .view _ o n az,ob=>∃ c ty fr,ob=.cells c ty fr/\(∀(i k:Nat) (col:av),i<n->az[k]?=F col->c[o+i*az.length+k]?=F ((col.at i).val E))
 | .loop st pend R,ob=>ob=.loop {R with state:=st,pending:=pend}
 | .map es clock,ob=>ob=.map (eS E es).toArray clock
 | .fmap d c pend,ob=>∃ es clock,ob=.map es clock/\yj d c pend es clock
 | .Zw mp since seen last,ob=>ob=.mapIter (mp.map E) since seen.toArray last
 | .eD ..,_=>False
 | .dQ ..,_=>False
theorem B7 {E E':Nat->Nat}{nx:Nat}(h: ∀ k,k<nx->E' k=E k): ∀ {es:List (Nat×SV×SV)},M6 nx es=H->eS E' es=eS E es
 | [],_=>rfl
 | e::r,hw=>by simp only[M6,N] at hw;have:=B7 h hw.2;simp only[eS,List.map_cons] at this ⊢;rw[SV.val_congr h _ hw.1.1,SV.val_congr h _ hw.1.2,this]
theorem E9 {n m:Nat}(h:n<=m): ∀ {es:List (Nat×SV×SV)},M6 n es=H->M6 m es=H
 | [],_=>rfl
 | e::r,hw=>by simp only[M6,N] at hw ⊢;exact⟨⟨SV.iq h _ hw.1.1,SV.iq h _ hw.1.2⟩,E9 h hw.2⟩
theorem SB.iq {m:Nat}(h:n<=m){B:SB}(hw:B.wf n=H):B.wf m=true:=by
 cases B with
 | cells cs tot ty=>exact SV.ja h cs hw
 | map es c=>exact E9 h hw
 | Zw mp a b c=>cases mp with
   | none=>rfl
   | some k=>simp only[SB.wf,J] at hw ⊢;omega
 | _=>rfl
theorem SV.uy {l:List SV}(h:SV.fH nx l=H){v:SV}(hg:l[i]?=F v):v.wf nx=true:=by
 induction l generalizing i with
 | nil=>cases hg
 | cons x r ih =>
   simp only[SV.fH,N] at h;cases i with
   | zero=>simp at hg;subst hg;exact h.1
   | succ i=>exact ih h.2 (by simpa using hg)
theorem bK.congr (h: ∀ k,k<nx->E' k=E k){B:SB}(hw:B.wf nx=H)(hb:bK E B o):bK E' B o:=by
 cases B with
 | cells cs tot ty =>obtain⟨c,fr,rfl,h1,h2,h3⟩:=hb;exact⟨c,fr,rfl,h1,λi v hv=>by rw[SV.val_congr h v (SV.uy hw hv)];exact h2 i v hv,h3⟩
 | rows z n az ro tot ty =>obtain⟨c,fr,rfl,h1,h2,ht,h3⟩:=hb;exact⟨c,fr,rfl,h1,h2,ht,λi k col hi hk=>by rw[SV.val_congr h _ (av.ET i nx col)];exact h3 i k col hi hk⟩
 | view z o n az =>obtain⟨c,ty,fr,rfl,h3⟩:=hb;exact⟨c,ty,fr,rfl,λi k col hi hk=>by rw[SV.val_congr h _ (av.ET i nx col)];exact h3 i k col hi hk⟩
 | loop st pend R=>exact hb
 | map es clock=>subst hb;show _=_;rw[B7 h hw]
 | fmap=>exact hb
 | Zw mp since seen last =>
   subst hb;cases mp with
   | none=>rfl
   | some k =>
     have hk:k<nx:=by simpa only[SB.wf,J] using hw
     show Obj.mapIter _ _ _ _=Obj.mapIter _ _ _ _;simp only[Option.map_some,h k hk]
 | eD=>exact hb.elim
 | dQ=>exact hb.elim
theorem bK.lE {B:SB}(h:bK E B o)(ds:Option (List Deferred)):o≠.deferred ds:=by
 cases B with
 | cells=>obtain⟨c,fr,rfl,_⟩:=h;intro e;cases e
 | rows=>obtain⟨c,fr,rfl,_⟩:=h;intro e;cases e
 | view=>obtain⟨c,ty,fr,rfl,_⟩:=h;intro e;cases e
 | loop=>subst h;intro e;cases e
 | map=>subst h;intro e;cases e
 | fmap=>obtain⟨es,c,rfl,_⟩:=h;intro e;cases e
 | Zw=>subst h;intro e;cases e
 | eD=>exact h.elim
 | dQ=>exact h.elim
def SB.jK:SB->Bool
 | .eD .. =>H
 | .dQ .. =>H
 | _=>G
def SB.gB (b:Nat):SB->Nat->Prop
 | .eD D _ _ _ _,a=>D a=H
 | .dQ D _ _ _,a=>D a=H
 | B,a=>B.no=G/\a=b
def SB.el:SB->Nat->SB
 | .eD _ cs tot ty _,a=>.cells (cs.map (av.at a)) tot ty
 | .dQ _ n az _,a=>.view G 0 (n a) (az.map (cg.at a))
 | B,_=>B
theorem SB.vK {B:SB}(h:B.no=G):B.jK=false:=by cases B<;>first | rfl | cases h
theorem SB.jP {B:SB}(h:B.jK=G):B.gB b a↔B.no=G/\a=b:=by cases B<;>first | exact Iff.rfl | cases h
theorem SB.jQ {B:SB}(h:B.no=G)(b:Nat):B.gB b b:=(SB.jP (SB.vK h)).2 ⟨h,rfl⟩
theorem SB.qa {B:SB}(h:B.jK=G)(a:Nat):B.el a=B:=by cases B<;>first | rfl | cases h
theorem SB.aaQ {B:SB}(h:B.jK=H){b':Nat}:B.gB b a->B.gB b' a:=by cases B<;>first | exact id | cases h
theorem av.UC (a:Nat): ∀ l:List av,SV.fH 0 (l.map (av.at a))=H
 | []=>rfl
 | c::r=>by simp only[List.map_cons,SV.fH,av.ET,av.UC a r,Bool.and_self]
theorem SB.PW {B:SB}(h:B.wf nx=H)(a:Nat):(B.el a).wf nx=true:=by cases B<;>first | exact h | exact SV.ja (Nat.zero_le _) _ (av.UC a _) | rfl
structure Ext (M:Nat->Prop)(w w':World):Prop where
 os:w'.os=w.os
 tape:w'.tape=w.tape
 output:w'.output=w.output
 size:w.heap.size<=w'.heap.size
 block: ∀ k,k<w.heap.size->¬ M k->w'.heap[k]?=w.heap[k]?
theorem Ext.refl (M:Nat->Prop)(w:World):Ext M w w:=⟨rfl,rfl,rfl,Q _,λ_ _ _=>rfl⟩
theorem Ext.trans {a b c:World}(h:Ext M a b)(k:Ext M b c):Ext M a c :=
 ⟨k.os.trans h.os,k.tape.trans h.tape,k.output.trans h.output,S h.size k.size,
  λi hi hm=>(k.block i (T hi h.size) hm).trans (h.block i hi hm)⟩
theorem Ext.below {a b:World}(h:Ext M a b)(hM: ∀ k,¬ M k):RowKit.Below a.heap.size a b :=⟨h.os,h.tape,h.output,h.size,λk hk=>h.block k hk (hM k)⟩
theorem Ext.Xv {a b:World}(h:RowKit.Below a.heap.size a b):Ext M a b :=⟨h.os,h.tape,h.output,h.size,λk hk _=>h.block k hk⟩
def rD (w:World):Prop:=∀ p∈ rX,∃ c ty fr,w.heap[p.1]?=F (.cells c ty fr)/\∀(i:Nat) (v:Value),p.2[i]?=F v->c[i]?=F v
structure aT where
 w0:World
 M0:Nat->Prop
 E0:Nat->Nat
 rj:Nat
 keep:List Nat
 gl:rD w0
 gm: ∀ p∈ rX,¬ M0 p.1
 tail:List Deferred:=[]
 rf:Bool:=H
def aT.own (Γ:aT):aT:={Γ with tail:=[],rf:=H}
structure aT.le (Γ Δ:aT):Prop where
 w:Δ.w0=Γ.w0
 m:Δ.M0=Γ.M0
 nx:Γ.rj<=Δ.rj
 e: ∀ k,k<Γ.rj->Δ.E0 k=Γ.E0 k
 keep: ∀ D,D∈ Γ.keep->D∈ Δ.keep
theorem aT.le_refl (Γ:aT):Γ.le Γ:=⟨rfl,rfl,Q _,λ_ _=>rfl,λ_ h=>h⟩
theorem aT.le_trans {Γ Δ Θ:aT}(h:Γ.le Δ)(h':Δ.le Θ):Γ.le Θ :=⟨h'.w.trans h.w,h'.m.trans h.m,S h.nx h'.nx,λk hk=>(h'.e k (T hk h.nx)).trans (h.e k hk),λD hD=>h'.keep D (h.keep D hD)⟩
structure aJ (Γ:aT)(E:Nat->Nat)(m:Mem)(nx:Nat)(w:World):Prop where
 hJ: ∀ k B a,m.get k=F B->B.gB (E k) a->∃ o,w.heap[a]?=F o/\bK E (B.el a) o
 iw: ∀ k k' B B' a,m.get k=F B->B.gB (E k) a->m.get k'=F B'->B'.gB (E k') a->(B.ro=G∨B'.ro=G)->k=k'
 lt: ∀ k B,m.get k=F B->k<nx
 iT: ∀ k B a,m.get k=F B->B.gB (E k) a->B.ro=G->Γ.M0 a∨Γ.w0.heap.size<=a
 ext:Ext Γ.M0 Γ.w0 w
 cx:Γ.rj<=nx/\∀ k,k<Γ.rj->E k=Γ.E0 k
 kp: ∀ D∈ Γ.keep,w.heap[D]?=F (.deferred (F []))
section
variable {Γ : aT} {E : Nat -> Nat} {m : Mem} {nx : Nat} {w : World}
theorem aJ.oB (h:aJ Γ E m nx w)(k:Nat)(B:SB)(hk:m.get k=F B)(hn:B.no=G): ∃ o,w.heap[E k]?=F o/\bK E B o:=by have:=h.hJ k B (E k) hk (SB.jQ hn _);rw[SB.qa (SB.vK hn)] at this;exact this
theorem aJ.inj (h:aJ Γ E m nx w)(k k':Nat)(B B':SB)(hk:m.get k=F B)(hn:B.no=G)(hk':m.get k'=F B')(hn':B'.no=G)(hr:B.ro=G∨B'.ro=G)(e:E k=E k'):k=k' :=h.iw k k' B B' (E k) hk (SB.jQ hn _) hk' (by rw[e];exact SB.jQ hn' _) hr
theorem aJ.own (h:aJ Γ E m nx w)(k:Nat)(B:SB)(hk:m.get k=F B)(hn:B.no=G)(hr:B.ro=G):Γ.M0 (E k)∨Γ.w0.heap.size<=E k:=h.iT k B _ hk (SB.jQ hn _) hr
theorem aJ.glt (h:aJ Γ E m nx w){B:SB}(hk:m.get k=F B)(ha:B.gB (E k) a):a<w.heap.size:=by obtain⟨o,ho,_⟩:=h.hJ k B a hk ha;exact(P.1 ho).1
end
theorem aT.XA (Γ:aT):Γ.le Γ.own:=⟨rfl,rfl,Q _,λ_ _=>rfl,λ_ h=>h⟩
theorem aJ.afT {Γ E m nx w}(h:aJ Γ E m nx w):aJ Γ.own E m nx w:=⟨h.hJ,h.iw,h.lt,h.iT,h.ext,h.cx,h.kp⟩
theorem aJ.AU {Γ:aT}{E m nx w}(h:aJ Γ.own E m nx w):aJ Γ E m nx w:=⟨h.hJ,h.iw,h.lt,h.iT,h.ext,h.cx,h.kp⟩
theorem aJ.Cl {Γ E m nx w}(h:aJ Γ E m nx w):rD w:=λp hp=>by obtain⟨c,ty,fr,hg,hc⟩:=Γ.gl p hp;exact⟨c,ty,fr,by rw[h.ext.block p.1 (P.1 hg).1 (Γ.gm p hp)];exact hg,hc⟩
theorem aJ.drew {Γ E m nx w}(h:aJ Γ E m nx w)(n:Nat):aJ Γ E m nx {w with drawn:=n} :=⟨h.hJ,h.iw,h.lt,h.iT,⟨h.ext.os,h.ext.tape,h.ext.output,h.ext.size,h.ext.block⟩,h.cx,h.kp⟩
theorem aJ.sub {Γ E m nx w}(h:aJ Γ E m nx w){m':Mem}(hs: ∀ k B,m'.get k=F B->m.get k=F B){nx':Nat}
  (hn: ∀ k B,m'.get k=F B->k<nx') (hnx:nx<=nx'∨Γ.rj<=nx'):aJ Γ E m' nx' w :=
 ⟨λk B a hk=>h.hJ k B a (hs k B hk),λk k' B B' a hk hn hk'=>h.iw k k' B B' a (hs _ _ hk) hn (hs _ _ hk'),hn,λk B a hk=>h.iT k B a (hs k B hk),h.ext,⟨by rcases hnx with h1 | h1;exact S h.cx.1 h1;exact h1,h.cx.2⟩,h.kp⟩
theorem Mem.gu {k0:Nat}{B0:SB}{m:Mem}{B:SB}(h:Mem.get k ((k0,B0)::m)=F B):(k=k0/\B=B0)∨(k≠k0/\m.get k=F B):=by
 by_cases e:k0=k
 ·simp only[Mem.get,e,if_true] at h;injection h with h;exact .inl ⟨e.symm,h.symm⟩
 ·simp only[Mem.get,e,if_false] at h;exact .inr ⟨λx=>e x.symm,h⟩
theorem aJ.ach {Γ E m nx w}(h:aJ Γ E m nx w)(hw:Mem.wf nx m=H){m':Mem}(hsub: ∀ k B,m'.get k=F B->m.get k=F B){B:SB}{w':World}
  (hB: ∀ a,B.gB b a->(∃ o,w'.heap[a]?=F o/\bK (λk=>if k=nx then b else E k) (B.el a) o)/\(B.ro=G->Γ.M0 a∨Γ.w0.heap.size<=a)/\∀ k X,m'.get k=F X->¬ X.gB (E k) a)
  (hkeep: ∀ k X a,m'.get k=F X->X.gB (E k) a->w'.heap[a]?=w.heap[a]?) (hx:Ext Γ.M0 Γ.w0 w') (hkp: ∀ D∈ Γ.keep,w'.heap[D]?=w.heap[D]?) :
  aJ Γ (λk=>if k=nx then b else E k) ((nx,B)::m') (nx+1) w':=by
 have hE': ∀ k,k<nx->(λk=>if k=nx then b else E k) k=E k:=λk hk=>by simp[V hk]
 have hg: ∀ {k X a},Mem.get k ((nx,B)::m')=F X->X.gB ((λk=>if k=nx then b else E k) k) a->(k=nx/\X=B/\B.gB b a)∨(m'.get k=F X/\X.gB (E k) a):=λhk ha=>by
  rcases Mem.gu hk with ⟨rfl,rfl⟩ | ⟨hne,hk⟩
  ·simp only[if_true] at ha;exact .inl ⟨rfl,rfl,ha⟩
  ·simp only[hne,if_false] at ha;exact .inr ⟨hk,ha⟩
 refine⟨λk X a hk ha=> ?_,λk k' X X' a hk ha hk' ha' hr=> ?_,λk X hk=> ?_,λk X a hk ha hro=> ?_,hx,⟨Nat.le_succ_of_le h.cx.1,λk hk=>(hE' k (T hk h.cx.1)).trans (h.cx.2 k hk)⟩,λD hD=>by rw[hkp D hD];exact h.kp D hD⟩
 ·rcases hg hk ha with ⟨_,rfl,hn⟩ | ⟨hk,ha⟩
  ·exact(hB a hn).1
  ·obtain⟨o,ho,hb⟩:=h.hJ k X a (hsub k X hk) ha;exact⟨o,by rw[hkeep k X a hk ha];exact ho,hb.congr hE' (SB.PW (Mem.Jj hw (hsub k X hk)) a)⟩
 ·rcases hg hk ha with ⟨e1,_,h1⟩ | ⟨hk1,ha1⟩<;>rcases hg hk' ha' with ⟨e2,_,h2⟩ | ⟨hk2,ha2⟩
  ·exact e1.trans e2.symm
  ·exact absurd ha2 ((hB a h1).2.2 _ _ hk2)
  ·exact absurd ha1 ((hB a h2).2.2 _ _ hk1)
  ·exact h.iw k k' X X' a (hsub _ _ hk1) ha1 (hsub _ _ hk2) ha2 hr
 ·rcases Mem.gu hk with ⟨rfl,rfl⟩ | ⟨hne,hk⟩
  ·omega
  ·have:=h.lt k X (hsub k X hk);omega
 ·rcases hg hk ha with ⟨_,rfl,hn⟩ | ⟨hk,ha⟩
  ·exact(hB a hn).2.1 hro
  ·exact h.iT k X a (hsub k X hk) ha hro
theorem aJ.push {Γ E m nx w}(h:aJ Γ E m nx w)(hw:Mem.wf nx m=H){m':Mem}(hsub: ∀ k B,m'.get k=F B->m.get k=F B){B:SB}{w':World}
  (hE: ∀ k X a,m'.get k=F X->X.gB (E k) a->a≠b) (hkeep: ∀ i,i≠b->i<w.heap.size->w'.heap[i]?=w.heap[i]?) (hx:Ext Γ.M0 Γ.w0 w')
  (hown:B.no=G->B.ro=G->Γ.M0 b∨Γ.w0.heap.size<=b) (hkb: ∀ D∈ Γ.keep,D≠b)
  (hB:B.no=G->∃ o,w'.heap[b]?=F o/\bK (λk=>if k=nx then b else E k) B o) (hF:B.jK=G) :
  aJ Γ (λk=>if k=nx then b else E k) ((nx,B)::m') (nx+1) w':=by
 refine h.ach hw hsub (λa ha=> ?_) (λk X a hk ha=>hkeep a (hE k X a hk ha) (h.glt (hsub k X hk) ha)) hx (λD hD=>hkeep D (hkb D hD) (P.1 (h.kp D hD)).1);obtain⟨hn,rfl⟩:=(SB.jP hF).1 ha;exact⟨by rw[SB.qa hF];exact hB hn,hown hn,λk X hk ha=>hE k X _ hk ha rfl⟩
theorem bK.jK {B:SB}(h:bK E B o):B.jK=false:=by cases B<;>first | rfl | exact h.elim
theorem aJ.alloc {Γ E m nx w}(h:aJ Γ E m nx w)(hw:Mem.wf nx m=H){B:SB}
  (hB:bK (λk=>if k=nx then w.heap.size else E k) B o) :
  aJ Γ (λk=>if k=nx then w.heap.size else E k) ((nx,B)::m) (nx+1) {w with heap:=w.heap.push o}:=by
 refine h.push hw (λ_ _ h=>h) (λk X a hk ha=>V (h.glt hk ha)) (λi hi hlt=> ?_) ⟨h.ext.os,h.ext.tape,h.ext.output,?_,λk hk hm=> ?_⟩ (λ_ _=>.inr h.ext.size) (λD hD=>V (P.1 (h.kp D hD)).1) (λ_=>⟨o,by simp,hB⟩) hB.jK
 ·show(w.heap.push o)[i]?=_;rw[W,s_ hi]
 ·have:=h.ext.size;simp;omega
 ·show(w.heap.push o)[k]?=_;have:=h.ext.size;rw[W,s_ (by omega)];exact h.ext.block k hk hm
theorem aJ.lE {Γ E m nx w}(h:aJ Γ E m nx w){B:SB}(hk:m.get k=F B)(hn:B.no=G): ∀ D∈ Γ.keep,D≠E k:=λD hD e=>by obtain⟨o,ho,hb⟩:=h.oB k B hk hn;have:=h.kp D hD;rw[e,ho] at this;exact hb.lE _ (Option.some.inj this)
theorem aJ.J0 {Γ E m nx w}(h:aJ Γ E m nx w){B:SB}(hk:m.get k=F B)(hn:B.no=G)(hro:B.ro=G)(o:Obj) :
  Ext Γ.M0 Γ.w0 {w with heap:=w.heap.setIfInBounds (E k) o}:=by
 refine⟨h.ext.os,h.ext.tape,h.ext.output,by simpa using h.ext.size,λi hi hm=> ?_⟩;show(w.heap.setIfInBounds (E k) o)[i]?=_;have:E k≠i:=λe=>by
  rcases h.own k B hk hn hro with h' | h'
  ·exact hm (e▸ h')
  ·omega
 rw[O this];exact h.ext.block i hi hm
theorem aJ.write {Γ E m nx w}(h:aJ Γ E m nx w){B B':SB}(hk:m.get k=F B)(hn:B.no=G)(hro:B.ro=G)
  (hB:bK E B' o) (hro':B'.ro=G):aJ Γ E (m.put k B') nx {w with heap:=w.heap.setIfInBounds (E k) o}:=by
 obtain⟨o0,ho0,_⟩:=h.oB k B hk hn;have hlt:=(P.1 ho0).1;have hg: ∀ {j X a},(m.put k B').get j=F X->X.gB (E j) a->(j=k/\X=B'/\a=E k)∨(m.get j=F X/\X.gB (E j) a/\a≠E k):=λhj ha=>by
  rcases Mem.gJ hj with ⟨rfl,rfl,_⟩ | ⟨hne,hj⟩
  ·exact .inl ⟨rfl,rfl,((SB.jP hB.jK).1 ha).2⟩
  ·exact .inr ⟨hj,ha,λe=>hne (h.iw _ k _ B _ hj ha hk (by rw[e];exact SB.jQ hn _) (.inr hro))⟩
 refine⟨λj X a hj ha=> ?_,λj j' X X' a hj ha hj' ha' hr=> ?_,λj X hj=> ?_,λj X a hj ha hr=> ?_,h.J0 hk hn hro o,h.cx,λD hD=> ?_⟩
 ·rcases hg hj ha with ⟨_,rfl,rfl⟩ | ⟨hj,ha,hne⟩
  ·exact⟨o,by simp[hlt],by rw[SB.qa hB.jK];exact hB⟩
  ·obtain⟨o',ho',hb⟩:=h.hJ j X a hj ha;refine⟨o',?_,hb⟩;show(w.heap.setIfInBounds (E k) o)[a]?=_;rw[O (λe=>hne e.symm)];exact ho'
 ·rcases hg hj ha with ⟨e1,_,e⟩ | ⟨hj1,ha1,hne⟩<;>rcases hg hj' ha' with ⟨e2,_,e'⟩ | ⟨hj2,ha2,hne'⟩
  ·exact e1.trans e2.symm
  ·exact absurd e hne'
  ·exact absurd e' hne
  ·exact h.iw _ _ _ _ _ hj1 ha1 hj2 ha2 hr
 ·rcases Mem.gJ hj with ⟨rfl,_,hs⟩ | ⟨_,hj⟩
  ·exact h.lt _ _ hk
  ·exact h.lt _ _ hj
 ·rcases hg hj ha with ⟨_,rfl,rfl⟩ | ⟨hj,ha,_⟩
  ·exact h.own _ _ hk hn hro
  ·exact h.iT _ _ _ hj ha hr
 ·show(w.heap.setIfInBounds (E k) o)[D]?=_;rw[O (λe=>h.lE hk hn D hD e.symm)];exact h.kp D hD
theorem aJ.Zq {Γ E m nx w}(h:aJ Γ E m nx w){D:Nat->Bool}{cs cs':List av}{tot:Nat}{ty:TypeId}(hk:m.get k=F (.eD D cs tot ty G))(hb:D b=H)
  (hB:bK E (.cells (cs'.map (av.at b)) tot ty) o) (hs: ∀ a,a≠b->cs'.map (av.at a)=cs.map (av.at a)):aJ Γ E (m.put k (.eD D cs' tot ty G)) nx {w with heap:=w.heap.setIfInBounds b o}:=by
 have hlt:=h.glt (a:=b) hk hb;have hg: ∀ {j X a},(m.put k (.eD D cs' tot ty G)).get j=F X->X.gB (E j) a->∃ X0,m.get j=F X0/\X0.gB (E j) a/\(a≠b->X.el a=X0.el a)/\(a=b->j=k/\X=.eD D cs' tot ty G)/\X.ro=X0.ro:=λ{j X a} hj ha=>by
  rcases Mem.gJ hj with ⟨rfl,rfl,_⟩ | ⟨hne,hj⟩
  ·exact⟨_,hk,ha,λe=>congrArg (λl=>SB.cells l tot ty) (hs a e),λ_=>⟨rfl,rfl⟩,rfl⟩
  ·exact⟨X,hj,ha,λ_=>rfl,λe=>absurd (h.iw _ k _ _ a hj ha hk (by subst e;exact hb) (.inr rfl)) hne,rfl⟩
 refine⟨λj X a hj ha=> ?_,λj j' X X' a hj ha hj' ha' hr=> ?_,λj X hj=> ?_,λj X a hj ha hr=> ?_,⟨h.ext.os,h.ext.tape,h.ext.output,by simpa using h.ext.size,λi hi hm=> ?_⟩,h.cx,λD' hD=> ?_⟩
 ·obtain⟨X0,h1,h2,h3,h4,_⟩:=hg hj ha;by_cases e:a=b
  ·obtain⟨_,rfl⟩:=h4 e;subst e;exact⟨o,by simp[hlt],hB⟩
  ·obtain⟨o',ho',hb'⟩:=h.hJ j X0 a h1 h2;refine⟨o',?_,by rw[h3 e];exact hb'⟩;show(w.heap.setIfInBounds b o)[a]?=_;rw[O (λe'=>e e'.symm)];exact ho'
 ·obtain⟨X0,h1,h2,_,_,h5⟩:=hg hj ha;obtain⟨X0',h1',h2',_,_,h5'⟩:=hg hj' ha';exact h.iw j j' X0 X0' a h1 h2 h1' h2' (by rw[← h5,← h5'];exact hr)
 ·rcases Mem.gJ hj with ⟨rfl,_,_⟩ | ⟨_,hj⟩
  ·exact h.lt _ _ hk
  ·exact h.lt _ _ hj
 ·obtain⟨X0,h1,h2,_,_,h5⟩:=hg hj ha;exact h.iT j X0 a h1 h2 (by rw[← h5];exact hr)
 ·show(w.heap.setIfInBounds b o)[i]?=_;have:b≠i:=λe=>by
   rcases h.iT k _ b hk hb rfl with h' | h'
   ·exact hm (e▸ h')
   ·omega
  rw[O this];exact h.ext.block i hi hm
 ·show(w.heap.setIfInBounds b o)[D']?=_;rw[O (λe=> ?_)]
  ·exact h.kp D' hD
  ·obtain⟨o',ho',hb'⟩:=h.hJ k _ b hk hb;rw[e,h.kp D' hD] at ho';exact hb'.lE _ (Option.some.inj ho').symm
theorem aJ.move {Γ E m nx w}(h:aJ Γ E m nx w)(hw:Mem.wf nx m=H){B B':SB}(hk:m.get k=F B)(hn:B.no=G)(hro:B.ro=G)
  (hB:bK (λj=>if j=nx then E k else E j) B' o) :
  aJ Γ (λj=>if j=nx then E k else E j) ((nx,B')::m.drop k) (nx+1) {w with heap:=w.heap.setIfInBounds (E k) o}:=by
 obtain⟨o0,ho0,_⟩:=h.oB k B hk hn;have hlt:=(P.1 ho0).1
 refine h.push hw (λ_ _ hj=>(Mem.fK hj).2) (λj X a hj ha e=>(Mem.fK hj).1 (h.iw j k X B a (Mem.fK hj).2 ha hk (by rw[e];exact SB.jQ hn _) (.inr hro))) (λi hi hl=> ?_) (h.J0 hk hn hro o)
  (λ_ _=>h.own k B hk hn hro) (h.lE hk hn) (λ_=>⟨o,by simp[hlt],hB⟩) hB.jK
 show(w.heap.setIfInBounds (E k) o)[i]?=_;rw[O (λe=>hi e.symm)]
def aa (B B':SB):Prop:=B'.jK=B.jK/\∀ b a,B'.gB b a->B.gB b a/\(∀ E o,bK E (B.el a) o->bK E (B'.el a) o)/\(B'.ro=G->B.ro=G)
theorem aa.refl (B:SB):aa B B:=⟨rfl,λ_ _ h=>⟨h,λ_ _ h=>h,id⟩⟩
theorem aa.of {B B':SB}(hB:B.jK=G)(hB':B'.jK=G)(h:B'.no=G->B.no=G/\(∀ E o,bK E B o->bK E B' o)/\(B'.ro=G->B.ro=G)):aa B B' :=
 ⟨hB'.trans hB.symm,λb a ha=>by rw[SB.jP hB'] at ha;rw[SB.jP hB,SB.qa hB,SB.qa hB'];obtain⟨h1,h2⟩:=h ha.1;exact⟨⟨h1,ha.2⟩,h2⟩⟩
theorem aa.old {B B':SB}(h:aa B B')(hn:B'.no=G):B.no=G/\(∀ E o,bK E B o->bK E B' o)/\(B'.ro=G->B.ro=G):=by have hF:=SB.vK hn;obtain⟨h1,h2⟩:=h.2 0 0 (SB.jQ hn 0);rw[SB.qa hF,SB.qa (h.1.symm.trans hF)] at h2;exact⟨((SB.jP (h.1.symm.trans hF)).1 h1).1,h2⟩
theorem aa.trans {A B C:SB}(h:aa A B)(h':aa B C):aa A C:=⟨h'.1.trans h.1,λb a ha=>by obtain⟨h1,h2,h3⟩:=h'.2 b a ha;obtain⟨g1,g2,g3⟩:=h.2 b a h1;exact⟨g1,λE o x=>h2 E o (g2 E o x),λx=>g3 (h3 x)⟩⟩
theorem aJ.conv {Γ E m nx w}(h:aJ Γ E m nx w){m':Mem}(hm: ∀ k Y,m'.get k=F Y->∃ X,m.get k=F X/\∀ a,Y.gB (E k) a->X.gB (E k) a/\(∀ o,bK E (X.el a) o->bK E (Y.el a) o)/\(Y.ro=G->X.ro=G)):aJ Γ E m' nx w:=by
 refine⟨λi Z a hi ha=> ?_,λi i' Z Z' a hi ha hi' ha' hr=> ?_,λi Z hi=> ?_,λi Z a hi ha hr=> ?_,h.ext,h.cx,h.kp⟩
 ·obtain⟨X,h1,h2⟩:=hm i Z hi;obtain⟨g1,g2,_⟩:=h2 a ha;obtain⟨o,ho,hb⟩:=h.hJ i X a h1 g1;exact⟨o,ho,g2 o hb⟩
 ·obtain⟨X,h1,h2⟩:=hm i Z hi;obtain⟨X',h1',h2'⟩:=hm i' Z' hi';exact h.iw i i' X X' a h1 (h2 a ha).1 h1' (h2' a ha').1 (hr.imp (h2 a ha).2.2 (h2' a ha').2.2)
 ·obtain⟨X,h1,_⟩:=hm i Z hi;exact h.lt i X h1
 ·obtain⟨X,h1,h2⟩:=hm i Z hi;exact h.iT i X a h1 (h2 a ha).1 ((h2 a ha).2.2 hr)
theorem aJ.swap {Γ E m nx w}(h:aJ Γ E m nx w){j:Nat}{X Y:SB}(hX:m.get j=F X)(hle:aa X Y):aJ Γ E (m.put j Y) nx w:=h.conv λi Z hi=>by
 rcases Mem.gJ hi with ⟨rfl,rfl,_⟩ | ⟨_,hi⟩
 ·exact⟨X,hX,λa ha=>by obtain⟨g1,g2,g3⟩:=hle.2 _ a ha;exact⟨g1,g2 E,g3⟩⟩
 ·exact⟨Z,hi,λa ha=>⟨ha,λ_ h=>h,id⟩⟩
theorem aJ.Md {Γ E k B B' m nx w}(h:aJ Γ E ((k,B)::m) nx w)(hle:aa B B'):aJ Γ E ((k,B')::m) nx w:=by have:=h.swap (j:=k) (X:=B) (by simp only[Mem.get,if_true]) hle;simpa only[Mem.put,if_true] using this
end Sx
end Go.Proofs.YtoibaecagklkaaaGreatDoor
