/-
  Rlp: which types are asked of internal/reflectlite.
-/
import Derived.Test.YtoibaecagklkaaaGreatDoorProg
import Derived.KernelRfl
import Derived.Calls
import Derived.RangeFuncIn
import Derived.RangeFuncLeaves
import Derived.RangeFuncCalls
import Derived.OrdersIn
import Derived.Orders
import Derived.Laws.Sem
import Derived.Below
import Derived.MapKept
open Array renaming getElem?_eq_some_iff->P,getElem?_push->W,getElem?_setIfInBounds_ne->O
open Bool renaming and_eq_true->N,false->G,true->H
open Nat renaming beq->K,blt->L,blt_eq->J,le_refl->Q,le_trans->S,lt_of_lt_of_le->T,ne_of_lt->V
open Option renaming none->I,some->F
namespace Go.Proofs.YtoibaecagklkaaaGreatDoor
abbrev e_:=List UInt8
open Go
variable {a b i k key n nx:Nat}{E E':Nat->Nat}{M:Nat->Prop}{o:Obj}
section
open Go
def hB:Nat:=3
noncomputable def dj:List (Nat×Nat):=[(30,2),(290,22),(293,20),(294,22),(122,22),(87,22),(89,22),(253,22),(184,22)]
noncomputable def jW:List (Nat×Nat):=[(294,293),(122,30),(89,87)]
noncomputable def EP:List (Nat×Bool):=[(30,H)]
noncomputable def Fw:List (Nat×Nat×Bool):=[(87,84,H),(30,84,H)]
noncomputable def wK:List (Nat×Nat×Bool):=[(253,30,G),(87,87,H),(30,30,H),
 (290,30,G),(290,293,H)]
noncomputable def DQ:List (Nat×Nat×Bool):=[(30,293,G)]
noncomputable def BT:List (Nat×Nat×Bool):=[(87,87,G),(30,30,G),(293,290,H)]
end
namespace Sx
open Go
noncomputable def qq:List (Nat×Array Value) :=
 (0,#[.iface 212 (.agg #[.pointer (F ⟨Tryz.prog.globals.size,84,I⟩)])]) ::
 (1,#[.int .u32 1116352408,.int .u32 1899447441,.int .u32 3049323471,.int .u32 3921009573,.int .u32 961987163,.int .u32 1508970993,.int .u32 2453635748,.int .u32 2870763221,.int .u32 3624381080,.int .u32 310598401,.int .u32 607225278,.int .u32 1426881987,.int .u32 1925078388,.int .u32 2162078206,.int .u32 2614888103,.int .u32 3248222580,.int .u32 3835390401,.int .u32 4022224774,.int .u32 264347078,.int .u32 604807628,.int .u32 770255983,.int .u32 1249150122,.int .u32 1555081692,.int .u32 1996064986,.int .u32 2554220882,.int .u32 2821834349,.int .u32 2952996808,.int .u32 3210313671,.int .u32 3336571891,.int .u32 3584528711,.int .u32 113926993,.int .u32 338241895,.int .u32 666307205,.int .u32 773529912,.int .u32 1294757372,.int .u32 1396182291,.int .u32 1695183700,.int .u32 1986661051,.int .u32 2177026350,.int .u32 2456956037,.int .u32 2730485921,.int .u32 2820302411,.int .u32 3259730800,.int .u32 3345764771,.int .u32 3516065817,.int .u32 3600352804,.int .u32 4094571909,.int .u32 275423344,.int .u32 430227734,.int .u32 506948616,.int .u32 659060556,.int .u32 883997877,.int .u32 958139571,.int .u32 1322822218,.int .u32 1537002063,.int .u32 1747873779,.int .u32 1955562222,.int .u32 2024104815,.int .u32 2227730452,.int .u32 2361852424,.int .u32 2428436474,.int .u32 2756734187,.int .u32 3204031479,.int .u32 3329325298]) ::
 []
universe u
inductive VC:Type 1 where
 | tt
 | fail (why:String)
 | atom (p:Prop)
 | and (a b:VC)
 | imp (p:Prop) (a:VC)
 | all (α:Type) (f:α->VC)
 | ex (α:Type) (f:α->VC)
 | eqv (p q:Prop) (h:q)
 | fork (b:Bool) (x y:VC)
def VC.holds:VC->Prop
 | .tt=>True
 | .fail _=>False
 | .atom p=>p
 | .and a b=>a.holds/\b.holds
 | .imp p a=>p->a.holds
 | .all α f=>∀ x:α,(f x).holds
 | .ex α f=>∃ x:α,(f x).holds
 | .eqv p _ _=>p
 | .fork b x y=>(b=H->x.holds)/\(b=G->y.holds)
def jG {α:Sort u}(a b:α):VC:=.eqv (a=b) (a=a) rfl
def fork (b:Bool)(f:Bool->VC):VC:=.fork b (f H) (f G)
theorem c9 {b:Bool}{f:Bool->VC}:(fork b f).holds↔(f b).holds:=by
 constructor
 ·intro h;cases b
  ·exact h.2 rfl
  ·exact h.1 rfl
 ·intro h;cases b
  ·exact⟨λe=>absurd e (by decide),λ_=>h⟩
  ·exact⟨λ_=>h,λe=>absurd e (by decide)⟩
inductive SV where
 | int (k:IntKind) (l:Bool) (n:Int)
 | bool (l:Bool) (b:Bool)
 | str (l:Bool) (s:e_)
 | ptr (key:Nat) (ol:Bool) (o:Nat)
 | kN (key w i k:Nat)
 | oB (key base n i:Nat)
 | cH
 | slc (key:Nat) (o n:Nat) (cl:Bool) (c:Nat)
 | bx (key w:Nat) (z:Bool) (i n c:Nat)
 | aS (key w:Nat) (z:Bool) (o i n c:Nat)
 | iD (key w o i k:Nat)
 | aK
 | agg (cs:List SV)
 | aD (vs:List SV)
 | iface (t:TypeId) (v:SV)
 | aA
 | func (fn:Fn) (first captured:List SV)
 | fk
 | yield (key:Nat)
 | map (key:Nat)
 | gr
 | raw (v:Value)
 | fY (key a o:Nat)
 | fc (key w:Nat) (z:Bool) (a i n c:Nat)
 | m8 (key w a i k:Nat)
mutual
def SV.val (E:Nat->Nat):SV->Value
 | .int k _ n=>.int k n
 | .bool _ b=>.bool b
 | .str _ s=>.string ⟨s.toArray⟩
 | .ptr key _ o=>.pointer (F ⟨E key,o,I⟩)
 | .kN key w i k=>.pointer (F ⟨E key,i*w+k,I⟩)
 | .oB key base _ i=>.pointer (F ⟨E key,base+i,I⟩)
 | .cH=>.pointer I
 | .slc key o n _ c=>.slice (F ⟨E key,o,I⟩) n c
 | .bx key w z i n c=>.slice (bif z&&K n 0 then I else F ⟨E key,i*w,I⟩) n (bif z&&K n 0 then 0 else c)
 | .aS key w z o i n c=>.slice (bif z&&K n 0 then I else F ⟨E key,o+i*w,I⟩) n (bif z&&K n 0 then 0 else c)
 | .iD key w o i k=>.pointer (F ⟨E key,o+i*w+k,I⟩)
 | .aK=>.slice I 0 0
 | .agg cs=>.agg (SV.vals E cs).toArray
 | .aD vs=>.tuple (SV.vals E vs).toArray
 | .iface t v=>.iface t (v.val E)
 | .aA=>.nilIface
 | .func fn a b=>.func fn (SV.vals E a).toArray (SV.vals E b).toArray
 | .fk=>.nilFunc
 | .yield key=>.func (.yield (E key)) #[] #[]
 | .map key=>.map (F (E key))
 | .gr=>.map I
 | .raw v=>v
 | .fY _ a o=>.pointer (F ⟨a,o,I⟩)
 | .fc _ w z a i n c=>.slice (bif z&&K n 0 then I else F ⟨a,i*w,I⟩) n (bif z&&K n 0 then 0 else c)
 | .m8 _ w a i k=>.pointer (F ⟨a,i*w+k,I⟩)
def SV.vals (E:Nat->Nat):List SV->List Value
 | []=>[]
 | x::r=>x.val E::SV.vals E r
end
theorem SV.bP (E:Nat->Nat)(l:List SV):SV.vals E l=l.map (SV.val E):=by
 induction l with
 | nil=>rfl
 | cons x r ih=>simp[SV.vals,ih]
mutual
def SV.wf (nx:Nat):SV->Bool
 | .ptr key _ _=>L key nx
 | .kN key _ _ _=>L key nx
 | .oB key _ _ _=>L key nx
 | .slc key _ _ _ _=>L key nx
 | .bx key _ _ _ _ _=>L key nx
 | .aS key _ _ _ _ _ _=>L key nx
 | .iD key _ _ _ _=>L key nx
 | .map key=>L key nx
 | .yield key=>L key nx
 | .agg cs=>SV.e9 nx cs
 | .aD vs=>SV.e9 nx vs
 | .iface _ v=>v.wf nx
 | .func _ a b=>SV.e9 nx a&&SV.e9 nx b
 | _=>H
def SV.e9 (nx:Nat):List SV->Bool
 | []=>H
 | x::r=>x.wf nx&&SV.e9 nx r
end
mutual
theorem SV.val_congr (h: ∀ k,k<nx->E' k=E k):(v:SV)->v.wf nx=H->v.val E'=v.val E
 | .int ..,_=>rfl
 | .bool ..,_=>rfl
 | .str ..,_=>rfl
 | .ptr key _ _,hw=>by simp[SV.wf,J] at hw;simp[SV.val,h key hw]
 | .kN key _ _ _,hw=>by simp[SV.wf,J] at hw;simp[SV.val,h key hw]
 | .oB key _ _ _,hw=>by simp[SV.wf,J] at hw;simp[SV.val,h key hw]
 | .cH,_=>rfl
 | .slc key _ _ _ _,hw=>by simp[SV.wf,J] at hw;simp[SV.val,h key hw]
 | .bx key _ _ _ _ _,hw=>by simp[SV.wf,J] at hw;simp[SV.val,h key hw]
 | .aS key _ _ _ _ _ _,hw=>by simp[SV.wf,J] at hw;simp[SV.val,h key hw]
 | .iD key _ _ _ _,hw=>by simp[SV.wf,J] at hw;simp[SV.val,h key hw]
 | .aK,_=>rfl
 | .agg cs,hw=>by simp only[SV.wf] at hw;simp only[SV.val,SV.fA h cs hw]
 | .aD vs,hw=>by simp only[SV.wf] at hw;simp only[SV.val,SV.fA h vs hw]
 | .iface _ v,hw=>by simp only[SV.wf] at hw;simp only[SV.val,SV.val_congr h v hw]
 | .aA,_=>rfl
 | .func _ a b,hw=>by simp only[SV.wf,N] at hw;simp only[SV.val,SV.fA h a hw.1,SV.fA h b hw.2]
 | .fk,_=>rfl
 | .map key,hw=>by simp[SV.wf,J] at hw;simp[SV.val,h key hw]
 | .yield key,hw=>by simp[SV.wf,J] at hw;simp[SV.val,h key hw]
 | .gr,_=>rfl
 | .raw _,_=>rfl
 | .fY ..,_=>rfl
 | .fc ..,_=>rfl
 | .m8 ..,_=>rfl
theorem SV.fA (h: ∀ k,k<nx->E' k=E k):(l:List SV)->SV.e9 nx l=H->SV.vals E' l=SV.vals E l
 | [],_=>rfl
 | x::r,hw=>by simp only[SV.e9,N] at hw;simp only[SV.vals,SV.val_congr h x hw.1,SV.fA h r hw.2]
end
mutual
theorem SV.fE {m:Nat}(h:n<=m):(v:SV)->v.wf n=H->v.wf m=H
 | .int ..,_=>rfl
 | .bool ..,_=>rfl
 | .str ..,_=>rfl
 | .ptr key _ _,hw=>by simp[SV.wf,J] at hw ⊢;omega
 | .kN key _ _ _,hw=>by simp[SV.wf,J] at hw ⊢;omega
 | .oB key _ _ _,hw=>by simp[SV.wf,J] at hw ⊢;omega
 | .cH,_=>rfl
 | .slc key _ _ _ _,hw=>by simp[SV.wf,J] at hw ⊢;omega
 | .bx key _ _ _ _ _,hw=>by simp[SV.wf,J] at hw ⊢;omega
 | .aS key _ _ _ _ _ _,hw=>by simp[SV.wf,J] at hw ⊢;omega
 | .iD key _ _ _ _,hw=>by simp[SV.wf,J] at hw ⊢;omega
 | .aK,_=>rfl
 | .agg cs,hw=>by simp only[SV.wf] at hw ⊢;exact SV.iE h cs hw
 | .aD vs,hw=>by simp only[SV.wf] at hw ⊢;exact SV.iE h vs hw
 | .iface _ v,hw=>by simp only[SV.wf] at hw ⊢;exact SV.fE h v hw
 | .aA,_=>rfl
 | .func _ a b,hw=>by simp only[SV.wf,N] at hw ⊢;exact⟨SV.iE h a hw.1,SV.iE h b hw.2⟩
 | .fk,_=>rfl
 | .map key,hw=>by simp[SV.wf,J] at hw ⊢;omega
 | .yield key,hw=>by simp[SV.wf,J] at hw ⊢;omega
 | .gr,_=>rfl
 | .raw _,_=>rfl
 | .fY ..,_=>rfl
 | .fc ..,_=>rfl
 | .m8 ..,_=>rfl
theorem SV.iE {m:Nat}(h:n<=m):(l:List SV)->SV.e9 n l=H->SV.e9 m l=H
 | [],_=>rfl
 | x::r,hw=>by simp only[SV.e9,N] at hw ⊢;exact⟨SV.fE h x hw.1,SV.iE h r hw.2⟩
end
def SV.lX:SV->Bool
 | .agg _ | .aD _=>G
 | .raw (.pointer _)=>H
 | .raw _=>G
 | _=>H
theorem SV.oQ {v:SV}(h:v.lX=H):(v.val E).oneCell'=true:=by
 cases v
 case raw u=>cases u<;>simp_all [SV.lX,SV.val,Value.oneCell']
 all_goals simp_all [SV.lX,SV.val,Value.oneCell']
def SV.cells:SV->List SV
 | .agg cs=>cs
 | v=>[v]
def SV.plain:SV->Bool
 | .raw (.pointer _)=>H
 | .raw _=>G
 | _=>H
theorem SV.ff {v:SV}(h:v.plain=H):(v.val E).cells=(v.cells.map (SV.val E)).toArray:=by
 cases v
 case raw u=>cases u<;>simp_all [SV.plain,SV.cells,SV.val,Value.cells]
 all_goals simp_all [SV.plain,SV.cells,SV.val,Value.cells,SV.bP]
def SV.tU:Value->Option SV
 | .int k n=>F (.int k H n)
 | .bool b=>F (.bool H b)
 | .string s=>F (.str H s.data.toList)
 | .pointer I=>F .cH
 | .slice I 0 0=>F .aK
 | .map I=>F .gr
 | .nilFunc=>F .fk
 | .nilIface=>F .aA
 | _=>I
def SV.mV:List Value->Option (List SV)
 | []=>F []
 | v::r=>match SV.tU v,SV.mV r with
   | some x,F l=>F (x::l)
   | _,_=>I
def SV.ofConst:Value->Option SV
 | .agg cs=>match SV.mV cs.toList with
   | some l=>F (.agg l)
   | none=>I
 | v=>SV.tU v
theorem SV.tV {v:Value}{x:SV}(h:SV.tU v=F x):x.val E=v:=by unfold SV.tU at h;split at h<;>first | (injection h with h;subst h;simp[SV.val];done) | cases h
theorem SV.IP {l:List Value}{xs:List SV}(h:SV.mV l=F xs):xs.map (SV.val E)=l:=by
 induction l generalizing xs with
 | nil=>simp[SV.mV] at h;subst h;rfl
 | cons v r ih =>
   simp only[SV.mV] at h;split at h
   ·rename_i x l' hx hl;injection h with h;subst h;simp[SV.tV hx,ih hl]
   ·cases h
theorem SV.yQ {v:Value}{x:SV}(h:SV.ofConst v=F x):x.val E=v:=by
 unfold SV.ofConst at h;split at h
 ·split at h
  ·rename_i cs l hl;injection h with h;subst h;have:=SV.IP (E:=E) hl;simp[SV.val,SV.bP,this]
  ·cases h
 ·exact SV.tV h
inductive aE where
 | int (k:IntKind) (f:Nat->Int)
 | bool (f:Nat->Bool)
 | str (f:Nat->e_)
 | raw (f:Nat->Value)
 | ref (key:Nat) (f:Nat->Nat)
 | fc (key w:Nat) (z:Bool) (f n c:Nat->Nat)
def aE.at (i:Nat):aE->SV
 | .int k f=>.int k G (f i)
 | .bool f=>.bool G (f i)
 | .str f=>.str G (f i)
 | .raw f=>.raw (f i)
 | .ref key f=>.fY key (f i) 0
 | .fc key w z f n c=>.fc key w z (f i) 0 (n i) (c i)
theorem aE.CJ (i nx:Nat)(c:aE):(c.at i).wf nx=true:=by cases c<;>rfl
inductive dx where
 | int (k:IntKind) (f:Nat->Nat->Int)
 | bool (f:Nat->Nat->Bool)
 | str (f:Nat->Nat->e_)
 | ref (key:Nat) (f:Nat->Nat->Nat)
def dx.at (a:Nat):dx->aE
 | .int k f=>.int k (f a)
 | .bool f=>.bool (f a)
 | .str f=>.str (f a)
 | .ref key f=>.ref key (f a)
mutual
def SV.hint:SV->Bool
 | .fY .. =>H
 | .fc .. =>H
 | .m8 .. =>H
 | .agg l=>SV.hints l
 | .aD l=>SV.hints l
 | .iface _ v=>v.hint
 | .func _ a b=>SV.hints a||SV.hints b
 | _=>G
def SV.hints:List SV->Bool
 | []=>G
 | x::r=>x.hint||SV.hints r
end
inductive bL where
 | int (k:IntKind) (g:e_->Int)
 | raw (g:e_->Value)
 | ref (key:Nat) (g:e_->Nat)
def bL.val (s:e_):bL->Value
 | .int k g=>.int k (g s)
 | .raw g=>g s
 | .ref _ g=>.pointer (F ⟨g s,0,I⟩)
def mC (s:e_):Value:=.string ⟨s.toArray⟩
structure zg (d:e_->Bool)(c:bL)(pend:Option (e_×Int))(es:Array MapEntry)(clock:Nat):Prop where
 st:MapKept.Stamped es clock
 ks: ∀ x∈ es.toList,MapKept.IsKey .string x.key
 has: ∀ s,d s=H->∃ e∈ es.toList,e.key=mC s/\e.val=c.val s
 no: ∀ s,d s=G->∀ e∈ es.toList,e.key≠mC s
 pd: ∀ s b,pend=F (s,b)->∃ e∈ es.toList,(e.born:Int)=b/\e.key=mC s
inductive SB where
 | cells (cs:List SV) (tot:Nat) (ty:TypeId)
 | rows (z:Bool) (n:Nat) (az:List aE) (ro:Bool) (tot:Nat) (ty:TypeId)
 | view (z:Bool) (o n:Nat) (az:List aE)
 | loop (st:LoopState) (pend:Option Code) (R:Loop)
 | map (es:List (Nat×SV×SV)) (clock:Nat)
 | fmap (d:e_->Bool) (c:bL) (pend:Option (e_×Int))
 | W8 (mp:Option Nat) (since:Nat) (seen:List Nat) (last:Nat)
 | tq (D:Nat->Bool) (cs:List aE) (tot:Nat) (ty:TypeId) (fro:Bool)
 | j8 (D:Nat->Bool) (n:Nat->Nat) (az:List dx) (fro:Bool)
def KH (nx:Nat):List (Nat×SV×SV)->Bool
 | []=>H
 | e::r=>e.2.1.wf nx&&e.2.2.wf nx&&KH nx r
def SB.ro:SB->Bool
 | .cells .. =>G
 | .rows _ _ _ ro _ _=>ro
 | .view .. =>H
 | .tq _ _ _ _ ro=>ro
 | .j8 _ _ _ ro=>ro
 | _=>G
def SB.no:SB->Bool
 | .cells .. =>G
 | .rows z n _ _ _ _=>z&&K n 0
 | .view z _ n _=>z&&K n 0
 | .tq .. =>H
 | .j8 .. =>H
 | _=>G
theorem SB.jk {z:Bool}{az:List aE}{ro:Bool}{tot:Nat}{ty:TypeId}(h:i<n):(SB.rows z n az ro tot ty).no=false:=by
 have:K n 0=false:=by cases n with
  | zero=>omega
  | succ n=>rfl
 simp[SB.no,this]
theorem SB.zN {z:Bool}{az:List aE}{o:Nat}(h:i<n):(SB.view z o n az).no=false:=by
 have:K n 0=false:=by cases n with
  | zero=>omega
  | succ n=>rfl
 simp[SB.no,this]
def SB.wf (nx:Nat):SB->Bool
 | .cells cs _ _=>SV.e9 nx cs
 | .rows .. =>H
 | .view .. =>H
 | .loop .. =>H
 | .map es _=>KH nx es
 | .fmap .. =>H
 | .W8 mp _ _ _=>match mp with
   | some k=>L k nx
   | none=>H
 | .tq .. =>H
 | .j8 .. =>H
abbrev Mem:=List (Nat×SB)
def Mem.get (key:Nat):Mem->Option SB
 | []=>I
 | e::r=>if e.1=key then F e.2 else Mem.get key r
def Mem.put (key:Nat)(B:SB):Mem->Mem
 | []=>[]
 | e::r=>if e.1=key then(e.1,B)::r else e::Mem.put key B r
def Mem.drop (key:Nat):Mem->Mem
 | []=>[]
 | e::r=>if e.1=key then Mem.drop key r else e::Mem.drop key r
def Mem.wf (nx:Nat):Mem->Bool
 | []=>H
 | e::r=>e.2.wf nx&&Mem.wf nx r
theorem Mem.gY {B:SB}{m:Mem}{X:SB}(h:(Mem.put key B m).get k=F X) :
  (k=key/\X=B/\(m.get k).isSome)∨(k≠key/\m.get k=F X):=by
 induction m with
 | nil=>simp[Mem.put,Mem.get] at h
 | cons e r ih =>
   by_cases he:e.1=key
   ·by_cases hk:key=k
    ·subst hk;rw[Mem.put,if_pos he,Mem.get,if_pos he] at h;injection h with h;exact .inl ⟨rfl,h.symm,by rw[Mem.get,if_pos he];rfl⟩
    ·rw[Mem.put,if_pos he,Mem.get,if_neg (λx=>hk (he.symm.trans x))] at h;rw[Mem.get,if_neg (λx=>hk (he.symm.trans x))];exact .inr ⟨λe=>hk e.symm,h⟩
   ·rw[Mem.put,if_neg he] at h;by_cases hk:e.1=k
    ·rw[Mem.get,if_pos hk] at h ⊢;exact .inr ⟨λe=>he (hk.trans e),h⟩
    ·rw[Mem.get,if_neg hk] at h ⊢;exact ih h
theorem Mem.KW {B:SB}{m:Mem}(h:k≠key):(Mem.put key B m).get k=m.get k:=by
 induction m with
 | nil=>rfl
 | cons e r ih =>
   by_cases he:e.1=key
   ·rw[Mem.put,if_pos he,Mem.get,if_neg (λx=>h (x.symm.trans he)),Mem.get,if_neg (λx=>h (x.symm.trans he))]
   ·rw[Mem.put,if_neg he];by_cases hk:e.1=k
    ·rw[Mem.get,if_pos hk,Mem.get,if_pos hk]
    ·rw[Mem.get,if_neg hk,Mem.get,if_neg hk];exact ih
theorem Mem.fj {m:Mem}{X:SB}(h:(Mem.drop key m).get k=F X):k≠key/\m.get k=F X:=by
 induction m with
 | nil=>simp[Mem.drop,Mem.get] at h
 | cons e r ih =>
   by_cases he:e.1=key
   ·rw[Mem.drop,if_pos he] at h;have:=ih h;refine⟨this.1,?_⟩;rw[Mem.get,if_neg (λe=>this.1 (e.symm.trans he))];exact this.2
   ·rw[Mem.drop,if_neg he] at h;by_cases hk:e.1=k
    ·rw[Mem.get,if_pos hk] at h ⊢;exact⟨λe=>he (hk.trans e),h⟩
    ·rw[Mem.get,if_neg hk] at h ⊢;exact ih h
theorem Mem.GQ {m:Mem}(h:m.wf nx=H){B:SB}(hg:m.get k=F B):B.wf nx=true:=by
 induction m with
 | nil=>cases hg
 | cons e r ih =>
   simp only[Mem.wf,N] at h;by_cases hk:e.1=k
   ·simp only[Mem.get,hk,if_true] at hg;injection hg with hg;subst hg;exact h.1
   ·simp only[Mem.get,hk,if_false] at hg;exact ih h.2 hg
def ee (E:Nat->Nat)(es:List (Nat×SV×SV)):List MapEntry:=es.map λp=>{key:=p.2.1.val E,val:=p.2.2.val E,born:=p.1}
def bS (E:Nat->Nat):SB->Obj->Prop
 | .cells cs tot ty,o=>∃ c fr,o=.cells c ty fr/\(∀ i,c.size<=i∨¬ (fr.1<=i/\i<fr.2)) /\
    (∀(i:Nat) (v:SV),cs[i]?=F v->c[i]?=F (v.val E))/\c.size=tot
 | .rows _ n az ro tot ty,o=>∃ c fr,o=.cells c ty fr/\(ro=G->∀ i,c.size<=i∨¬ (fr.1<=i/\i<fr.2)) /\
    n*az.length<=c.size/\c.size=tot/\(∀(i k:Nat) (col:aE),i<n->az[k]?=F col->c[i*az.length+k]?=F ((col.at i).val E))
 | .view _ o n az,ob=>∃ c ty fr,ob=.cells c ty fr/\(∀(i k:Nat) (col:aE),i<n->az[k]?=F col->c[o+i*az.length+k]?=F ((col.at i).val E))
 | .loop st pend R,ob=>ob=.loop {R with state:=st,pending:=pend}
 | .map es clock,ob=>ob=.map (ee E es).toArray clock
 | .fmap d c pend,ob=>∃ es clock,ob=.map es clock/\zg d c pend es clock
 | .W8 mp since seen last,ob=>ob=.mapIter (mp.map E) since seen.toArray last
 | .tq ..,_=>False
 | .j8 ..,_=>False
theorem An {E E':Nat->Nat}{nx:Nat}(h: ∀ k,k<nx->E' k=E k): ∀ {es:List (Nat×SV×SV)},KH nx es=H->ee E' es=ee E es
 | [],_=>rfl
 | e::r,hw=>by simp only[KH,N] at hw;have:=An h hw.2;simp only[ee,List.map_cons] at this ⊢;rw[SV.val_congr h _ hw.1.1,SV.val_congr h _ hw.1.2,this]
theorem CU {n m:Nat}(h:n<=m): ∀ {es:List (Nat×SV×SV)},KH n es=H->KH m es=H
 | [],_=>rfl
 | e::r,hw=>by simp only[KH,N] at hw ⊢;exact⟨⟨SV.fE h _ hw.1.1,SV.fE h _ hw.1.2⟩,CU h hw.2⟩
theorem SB.fE {m:Nat}(h:n<=m){B:SB}(hw:B.wf n=H):B.wf m=true:=by
 cases B with
 | cells cs tot ty=>exact SV.iE h cs hw
 | map es c=>exact CU h hw
 | W8 mp a b c=>cases mp with
   | none=>rfl
   | some k=>simp only[SB.wf,J] at hw ⊢;omega
 | _=>rfl
theorem SV.sE {l:List SV}(h:SV.e9 nx l=H){v:SV}(hg:l[i]?=F v):v.wf nx=true:=by
 induction l generalizing i with
 | nil=>cases hg
 | cons x r ih =>
   simp only[SV.e9,N] at h;cases i with
   | zero=>simp at hg;subst hg;exact h.1
   | succ i=>exact ih h.2 (by simpa using hg)
theorem bS.congr (h: ∀ k,k<nx->E' k=E k){B:SB}(hw:B.wf nx=H)(hb:bS E B o):bS E' B o:=by
 cases B with
 | cells cs tot ty =>obtain⟨c,fr,rfl,h1,h2,h3⟩:=hb;exact⟨c,fr,rfl,h1,λi v hv=>by rw[SV.val_congr h v (SV.sE hw hv)];exact h2 i v hv,h3⟩
 | rows z n az ro tot ty =>obtain⟨c,fr,rfl,h1,h2,ht,h3⟩:=hb;exact⟨c,fr,rfl,h1,h2,ht,λi k col hi hk=>by rw[SV.val_congr h _ (aE.CJ i nx col)];exact h3 i k col hi hk⟩
 | view z o n az =>obtain⟨c,ty,fr,rfl,h3⟩:=hb;exact⟨c,ty,fr,rfl,λi k col hi hk=>by rw[SV.val_congr h _ (aE.CJ i nx col)];exact h3 i k col hi hk⟩
 | loop st pend R=>exact hb
 | map es clock=>subst hb;show _=_;rw[An h hw]
 | fmap=>exact hb
 | W8 mp since seen last =>
   subst hb;cases mp with
   | none=>rfl
   | some k =>
     have hk:k<nx:=by simpa only[SB.wf,J] using hw
     show Obj.mapIter _ _ _ _=Obj.mapIter _ _ _ _;simp only[Option.map_some,h k hk]
 | tq=>exact hb.elim
 | j8=>exact hb.elim
theorem bS.kA {B:SB}(h:bS E B o)(ds:Option (List Deferred)):o≠.deferred ds:=by
 cases B with
 | cells=>obtain⟨c,fr,rfl,_⟩:=h;intro e;cases e
 | rows=>obtain⟨c,fr,rfl,_⟩:=h;intro e;cases e
 | view=>obtain⟨c,ty,fr,rfl,_⟩:=h;intro e;cases e
 | loop=>subst h;intro e;cases e
 | map=>subst h;intro e;cases e
 | fmap=>obtain⟨es,c,rfl,_⟩:=h;intro e;cases e
 | W8=>subst h;intro e;cases e
 | tq=>exact h.elim
 | j8=>exact h.elim
def SB.jg:SB->Bool
 | .tq .. =>H
 | .j8 .. =>H
 | _=>G
def SB.iz (b:Nat):SB->Nat->Prop
 | .tq D _ _ _ _,a=>D a=H
 | .j8 D _ _ _,a=>D a=H
 | B,a=>B.no=G/\a=b
def SB.el:SB->Nat->SB
 | .tq _ cs tot ty _,a=>.cells (cs.map (aE.at a)) tot ty
 | .j8 _ n az _,a=>.view G 0 (n a) (az.map (dx.at a))
 | B,_=>B
theorem SB.qJ {B:SB}(h:B.no=G):B.jg=false:=by cases B<;>first | rfl | cases h
theorem SB.iH {B:SB}(h:B.jg=G):B.iz b a↔B.no=G/\a=b:=by cases B<;>first | exact Iff.rfl | cases h
theorem SB.gM {B:SB}(h:B.no=G)(b:Nat):B.iz b b:=(SB.iH (SB.qJ h)).2 ⟨h,rfl⟩
theorem SB.oK {B:SB}(h:B.jg=G)(a:Nat):B.el a=B:=by cases B<;>first | rfl | cases h
theorem SB.Yc {B:SB}(h:B.jg=H){b':Nat}:B.iz b a->B.iz b' a:=by cases B<;>first | exact id | cases h
theorem aE.Si (a:Nat): ∀ l:List aE,SV.e9 0 (l.map (aE.at a))=H
 | []=>rfl
 | c::r=>by simp only[List.map_cons,SV.e9,aE.CJ,aE.Si a r,Bool.and_self]
theorem SB.Hu {B:SB}(h:B.wf nx=H)(a:Nat):(B.el a).wf nx=true:=by cases B<;>first | exact h | exact SV.iE (Nat.zero_le _) _ (aE.Si a _) | rfl
structure Ext (M:Nat->Prop)(w w':World):Prop where
 os:w'.os=w.os
 tape:w'.tape=w.tape
 output:w'.output=w.output
 size:w.heap.size<=w'.heap.size
 block: ∀ k,k<w.heap.size->¬ M k->w'.heap[k]?=w.heap[k]?
theorem Ext.refl (M:Nat->Prop)(w:World):Ext M w w:=⟨rfl,rfl,rfl,Q _,λ_ _ _=>rfl⟩
theorem Ext.trans {a b c:World}(h:Ext M a b)(k:Ext M b c):Ext M a c :=
 ⟨k.os.trans h.os,k.tape.trans h.tape,k.output.trans h.output,S h.size k.size,
  λi hi hm=>(k.block i (T hi h.size) hm).trans (h.block i hi hm)⟩
theorem Ext.below {a b:World}(h:Ext M a b)(hM: ∀ k,¬ M k):RowKit.Below a.heap.size a b :=⟨h.os,h.tape,h.output,h.size,λk hk=>h.block k hk (hM k)⟩
theorem Ext.UX {a b:World}(h:RowKit.Below a.heap.size a b):Ext M a b :=⟨h.os,h.tape,h.output,h.size,λk hk _=>h.block k hk⟩
def p4 (w:World):Prop:=∀ p∈ qq,∃ c ty fr,w.heap[p.1]?=F (.cells c ty fr)/\∀(i:Nat) (v:Value),p.2[i]?=F v->c[i]?=F v
structure bg where
 w0:World
 M0:Nat->Prop
 E0:Nat->Nat
 uF:Nat
 keep:List Nat
 gl:p4 w0
 gm: ∀ p∈ qq,¬ M0 p.1
 tail:List Deferred:=[]
 rf:Bool:=H
def bg.own (Γ:bg):bg:={Γ with tail:=[],rf:=H}
structure bg.le (Γ Δ:bg):Prop where
 w:Δ.w0=Γ.w0
 m:Δ.M0=Γ.M0
 nx:Γ.uF<=Δ.uF
 e: ∀ k,k<Γ.uF->Δ.E0 k=Γ.E0 k
 keep: ∀ D,D∈ Γ.keep->D∈ Δ.keep
theorem bg.le_refl (Γ:bg):Γ.le Γ:=⟨rfl,rfl,Q _,λ_ _=>rfl,λ_ h=>h⟩
theorem bg.le_trans {Γ Δ Θ:bg}(h:Γ.le Δ)(h':Δ.le Θ):Γ.le Θ :=⟨h'.w.trans h.w,h'.m.trans h.m,S h.nx h'.nx,λk hk=>(h'.e k (T hk h.nx)).trans (h.e k hk),λD hD=>h'.keep D (h.keep D hD)⟩
structure aO (Γ:bg)(E:Nat->Nat)(m:Mem)(nx:Nat)(w:World):Prop where
 gD: ∀ k B a,m.get k=F B->B.iz (E k) a->∃ o,w.heap[a]?=F o/\bS E (B.el a) o
 iq: ∀ k k' B B' a,m.get k=F B->B.iz (E k) a->m.get k'=F B'->B'.iz (E k') a->(B.ro=G∨B'.ro=G)->k=k'
 lt: ∀ k B,m.get k=F B->k<nx
 iM: ∀ k B a,m.get k=F B->B.iz (E k) a->B.ro=G->Γ.M0 a∨Γ.w0.heap.size<=a
 ext:Ext Γ.M0 Γ.w0 w
 cx:Γ.uF<=nx/\∀ k,k<Γ.uF->E k=Γ.E0 k
 kp: ∀ D∈ Γ.keep,w.heap[D]?=F (.deferred (F []))
section
variable {Γ : bg} {E : Nat -> Nat} {m : Mem} {nx : Nat} {w : World}
theorem aO.ny (h:aO Γ E m nx w)(k:Nat)(B:SB)(hk:m.get k=F B)(hn:B.no=G): ∃ o,w.heap[E k]?=F o/\bS E B o:=by have:=h.gD k B (E k) hk (SB.gM hn _);rw[SB.oK (SB.qJ hn)] at this;exact this
theorem aO.inj (h:aO Γ E m nx w)(k k':Nat)(B B':SB)(hk:m.get k=F B)(hn:B.no=G)(hk':m.get k'=F B')(hn':B'.no=G)(hr:B.ro=G∨B'.ro=G)(e:E k=E k'):k=k' :=h.iq k k' B B' (E k) hk (SB.gM hn _) hk' (by rw[e];exact SB.gM hn' _) hr
theorem aO.own (h:aO Γ E m nx w)(k:Nat)(B:SB)(hk:m.get k=F B)(hn:B.no=G)(hr:B.ro=G):Γ.M0 (E k)∨Γ.w0.heap.size<=E k:=h.iM k B _ hk (SB.gM hn _) hr
theorem aO.W7 (h:aO Γ E m nx w){B:SB}(hk:m.get k=F B)(ha:B.iz (E k) a):a<w.heap.size:=by obtain⟨o,ho,_⟩:=h.gD k B a hk ha;exact(P.1 ho).1
end
theorem bg.U3 (Γ:bg):Γ.le Γ.own:=⟨rfl,rfl,Q _,λ_ _=>rfl,λ_ h=>h⟩
theorem aO.adf {Γ E m nx w}(h:aO Γ E m nx w):aO Γ.own E m nx w:=⟨h.gD,h.iq,h.lt,h.iM,h.ext,h.cx,h.kp⟩
theorem aO.zc {Γ:bg}{E m nx w}(h:aO Γ.own E m nx w):aO Γ E m nx w:=⟨h.gD,h.iq,h.lt,h.iM,h.ext,h.cx,h.kp⟩
theorem aO.Az {Γ E m nx w}(h:aO Γ E m nx w):p4 w:=λp hp=>by obtain⟨c,ty,fr,hg,hc⟩:=Γ.gl p hp;exact⟨c,ty,fr,by rw[h.ext.block p.1 (P.1 hg).1 (Γ.gm p hp)];exact hg,hc⟩
theorem aO.drew {Γ E m nx w}(h:aO Γ E m nx w)(n:Nat):aO Γ E m nx {w with drawn:=n} :=⟨h.gD,h.iq,h.lt,h.iM,⟨h.ext.os,h.ext.tape,h.ext.output,h.ext.size,h.ext.block⟩,h.cx,h.kp⟩
theorem aO.sub {Γ E m nx w}(h:aO Γ E m nx w){m':Mem}(hs: ∀ k B,m'.get k=F B->m.get k=F B){nx':Nat}
  (hn: ∀ k B,m'.get k=F B->k<nx') (hnx:nx<=nx'∨Γ.uF<=nx'):aO Γ E m' nx' w :=
 ⟨λk B a hk=>h.gD k B a (hs k B hk),λk k' B B' a hk hn hk'=>h.iq k k' B B' a (hs _ _ hk) hn (hs _ _ hk'),hn,λk B a hk=>h.iM k B a (hs k B hk),h.ext,⟨by rcases hnx with h1 | h1;exact S h.cx.1 h1;exact h1,h.cx.2⟩,h.kp⟩
theorem Mem.fH {k0:Nat}{B0:SB}{m:Mem}{B:SB}(h:Mem.get k ((k0,B0)::m)=F B):(k=k0/\B=B0)∨(k≠k0/\m.get k=F B):=by
 by_cases e:k0=k
 ·simp only[Mem.get,e,if_true] at h;injection h with h;exact .inl ⟨e.symm,h.symm⟩
 ·simp only[Mem.get,e,if_false] at h;exact .inr ⟨λx=>e x.symm,h⟩
theorem aO.Va {Γ E m nx w}(h:aO Γ E m nx w)(hw:Mem.wf nx m=H){m':Mem}(hsub: ∀ k B,m'.get k=F B->m.get k=F B){B:SB}{w':World}
  (hB: ∀ a,B.iz b a->(∃ o,w'.heap[a]?=F o/\bS (λk=>if k=nx then b else E k) (B.el a) o)/\(B.ro=G->Γ.M0 a∨Γ.w0.heap.size<=a)/\∀ k X,m'.get k=F X->¬ X.iz (E k) a)
  (hkeep: ∀ k X a,m'.get k=F X->X.iz (E k) a->w'.heap[a]?=w.heap[a]?) (hx:Ext Γ.M0 Γ.w0 w') (hkp: ∀ D∈ Γ.keep,w'.heap[D]?=w.heap[D]?) :
  aO Γ (λk=>if k=nx then b else E k) ((nx,B)::m') (nx+1) w':=by
 have hE': ∀ k,k<nx->(λk=>if k=nx then b else E k) k=E k:=λk hk=>by simp[V hk]
 have hg: ∀ {k X a},Mem.get k ((nx,B)::m')=F X->X.iz ((λk=>if k=nx then b else E k) k) a->(k=nx/\X=B/\B.iz b a)∨(m'.get k=F X/\X.iz (E k) a):=λhk ha=>by
  rcases Mem.fH hk with ⟨rfl,rfl⟩ | ⟨hne,hk⟩
  ·simp only[if_true] at ha;exact .inl ⟨rfl,rfl,ha⟩
  ·simp only[hne,if_false] at ha;exact .inr ⟨hk,ha⟩
 refine⟨λk X a hk ha=> ?_,λk k' X X' a hk ha hk' ha' hr=> ?_,λk X hk=> ?_,λk X a hk ha hro=> ?_,hx,⟨Nat.le_succ_of_le h.cx.1,λk hk=>(hE' k (T hk h.cx.1)).trans (h.cx.2 k hk)⟩,λD hD=>by rw[hkp D hD];exact h.kp D hD⟩
 ·rcases hg hk ha with ⟨_,rfl,hn⟩ | ⟨hk,ha⟩
  ·exact(hB a hn).1
  ·obtain⟨o,ho,hb⟩:=h.gD k X a (hsub k X hk) ha;exact⟨o,by rw[hkeep k X a hk ha];exact ho,hb.congr hE' (SB.Hu (Mem.GQ hw (hsub k X hk)) a)⟩
 ·rcases hg hk ha with ⟨e1,_,h1⟩ | ⟨hk1,ha1⟩<;>rcases hg hk' ha' with ⟨e2,_,h2⟩ | ⟨hk2,ha2⟩
  ·exact e1.trans e2.symm
  ·exact absurd ha2 ((hB a h1).2.2 _ _ hk2)
  ·exact absurd ha1 ((hB a h2).2.2 _ _ hk1)
  ·exact h.iq k k' X X' a (hsub _ _ hk1) ha1 (hsub _ _ hk2) ha2 hr
 ·rcases Mem.fH hk with ⟨rfl,rfl⟩ | ⟨hne,hk⟩
  ·omega
  ·have:=h.lt k X (hsub k X hk);omega
 ·rcases hg hk ha with ⟨_,rfl,hn⟩ | ⟨hk,ha⟩
  ·exact(hB a hn).2.1 hro
  ·exact h.iM k X a (hsub k X hk) ha hro
theorem aO.push {Γ E m nx w}(h:aO Γ E m nx w)(hw:Mem.wf nx m=H){m':Mem}(hsub: ∀ k B,m'.get k=F B->m.get k=F B){B:SB}{w':World}
  (hE: ∀ k X a,m'.get k=F X->X.iz (E k) a->a≠b) (hkeep: ∀ i,i≠b->i<w.heap.size->w'.heap[i]?=w.heap[i]?) (hx:Ext Γ.M0 Γ.w0 w')
  (hown:B.no=G->B.ro=G->Γ.M0 b∨Γ.w0.heap.size<=b) (hkb: ∀ D∈ Γ.keep,D≠b)
  (hB:B.no=G->∃ o,w'.heap[b]?=F o/\bS (λk=>if k=nx then b else E k) B o) (hF:B.jg=G) :
  aO Γ (λk=>if k=nx then b else E k) ((nx,B)::m') (nx+1) w':=by
 refine h.Va hw hsub (λa ha=> ?_) (λk X a hk ha=>hkeep a (hE k X a hk ha) (h.W7 (hsub k X hk) ha)) hx (λD hD=>hkeep D (hkb D hD) (P.1 (h.kp D hD)).1);obtain⟨hn,rfl⟩:=(SB.iH hF).1 ha;exact⟨by rw[SB.oK hF];exact hB hn,hown hn,λk X hk ha=>hE k X _ hk ha rfl⟩
theorem bS.jg {B:SB}(h:bS E B o):B.jg=false:=by cases B<;>first | rfl | exact h.elim
theorem aO.alloc {Γ E m nx w}(h:aO Γ E m nx w)(hw:Mem.wf nx m=H){B:SB}
  (hB:bS (λk=>if k=nx then w.heap.size else E k) B o) :
  aO Γ (λk=>if k=nx then w.heap.size else E k) ((nx,B)::m) (nx+1) {w with heap:=w.heap.push o}:=by
 refine h.push hw (λ_ _ h=>h) (λk X a hk ha=>V (h.W7 hk ha)) (λi hi hlt=> ?_) ⟨h.ext.os,h.ext.tape,h.ext.output,?_,λk hk hm=> ?_⟩ (λ_ _=>.inr h.ext.size) (λD hD=>V (P.1 (h.kp D hD)).1) (λ_=>⟨o,by simp,hB⟩) hB.jg
 ·show(w.heap.push o)[i]?=_;rw[W,if_neg hi]
 ·have:=h.ext.size;simp;omega
 ·show(w.heap.push o)[k]?=_;have:=h.ext.size;rw[W,if_neg (by omega)];exact h.ext.block k hk hm
theorem aO.kA {Γ E m nx w}(h:aO Γ E m nx w){B:SB}(hk:m.get k=F B)(hn:B.no=G): ∀ D∈ Γ.keep,D≠E k:=λD hD e=>by obtain⟨o,ho,hb⟩:=h.ny k B hk hn;have:=h.kp D hD;rw[e,ho] at this;exact hb.kA _ (Option.some.inj this)
theorem aO.Hy {Γ E m nx w}(h:aO Γ E m nx w){B:SB}(hk:m.get k=F B)(hn:B.no=G)(hro:B.ro=G)(o:Obj) :
  Ext Γ.M0 Γ.w0 {w with heap:=w.heap.setIfInBounds (E k) o}:=by
 refine⟨h.ext.os,h.ext.tape,h.ext.output,by simpa using h.ext.size,λi hi hm=> ?_⟩;show(w.heap.setIfInBounds (E k) o)[i]?=_;have:E k≠i:=λe=>by
  rcases h.own k B hk hn hro with h' | h'
  ·exact hm (e▸ h')
  ·omega
 rw[O this];exact h.ext.block i hi hm
theorem aO.write {Γ E m nx w}(h:aO Γ E m nx w){B B':SB}(hk:m.get k=F B)(hn:B.no=G)(hro:B.ro=G)
  (hB:bS E B' o) (hro':B'.ro=G):aO Γ E (m.put k B') nx {w with heap:=w.heap.setIfInBounds (E k) o}:=by
 obtain⟨o0,ho0,_⟩:=h.ny k B hk hn;have hlt:=(P.1 ho0).1;have hg: ∀ {j X a},(m.put k B').get j=F X->X.iz (E j) a->(j=k/\X=B'/\a=E k)∨(m.get j=F X/\X.iz (E j) a/\a≠E k):=λhj ha=>by
  rcases Mem.gY hj with ⟨rfl,rfl,_⟩ | ⟨hne,hj⟩
  ·exact .inl ⟨rfl,rfl,((SB.iH hB.jg).1 ha).2⟩
  ·exact .inr ⟨hj,ha,λe=>hne (h.iq _ k _ B _ hj ha hk (by rw[e];exact SB.gM hn _) (.inr hro))⟩
 refine⟨λj X a hj ha=> ?_,λj j' X X' a hj ha hj' ha' hr=> ?_,λj X hj=> ?_,λj X a hj ha hr=> ?_,h.Hy hk hn hro o,h.cx,λD hD=> ?_⟩
 ·rcases hg hj ha with ⟨_,rfl,rfl⟩ | ⟨hj,ha,hne⟩
  ·exact⟨o,by simp[hlt],by rw[SB.oK hB.jg];exact hB⟩
  ·obtain⟨o',ho',hb⟩:=h.gD j X a hj ha;refine⟨o',?_,hb⟩;show(w.heap.setIfInBounds (E k) o)[a]?=_;rw[O (λe=>hne e.symm)];exact ho'
 ·rcases hg hj ha with ⟨e1,_,e⟩ | ⟨hj1,ha1,hne⟩<;>rcases hg hj' ha' with ⟨e2,_,e'⟩ | ⟨hj2,ha2,hne'⟩
  ·exact e1.trans e2.symm
  ·exact absurd e hne'
  ·exact absurd e' hne
  ·exact h.iq _ _ _ _ _ hj1 ha1 hj2 ha2 hr
 ·rcases Mem.gY hj with ⟨rfl,_,hs⟩ | ⟨_,hj⟩
  ·exact h.lt _ _ hk
  ·exact h.lt _ _ hj
 ·rcases hg hj ha with ⟨_,rfl,rfl⟩ | ⟨hj,ha,_⟩
  ·exact h.own _ _ hk hn hro
  ·exact h.iM _ _ _ hj ha hr
 ·show(w.heap.setIfInBounds (E k) o)[D]?=_;rw[O (λe=>h.kA hk hn D hD e.symm)];exact h.kp D hD
theorem aO.W2 {Γ E m nx w}(h:aO Γ E m nx w){D:Nat->Bool}{cs cs':List aE}{tot:Nat}{ty:TypeId}(hk:m.get k=F (.tq D cs tot ty G))(hb:D b=H)
  (hB:bS E (.cells (cs'.map (aE.at b)) tot ty) o) (hs: ∀ a,a≠b->cs'.map (aE.at a)=cs.map (aE.at a)):aO Γ E (m.put k (.tq D cs' tot ty G)) nx {w with heap:=w.heap.setIfInBounds b o}:=by
 have hlt:=h.W7 (a:=b) hk hb;have hg: ∀ {j X a},(m.put k (.tq D cs' tot ty G)).get j=F X->X.iz (E j) a->∃ X0,m.get j=F X0/\X0.iz (E j) a/\(a≠b->X.el a=X0.el a)/\(a=b->j=k/\X=.tq D cs' tot ty G)/\X.ro=X0.ro:=λ{j X a} hj ha=>by
  rcases Mem.gY hj with ⟨rfl,rfl,_⟩ | ⟨hne,hj⟩
  ·exact⟨_,hk,ha,λe=>congrArg (λl=>SB.cells l tot ty) (hs a e),λ_=>⟨rfl,rfl⟩,rfl⟩
  ·exact⟨X,hj,ha,λ_=>rfl,λe=>absurd (h.iq _ k _ _ a hj ha hk (by subst e;exact hb) (.inr rfl)) hne,rfl⟩
 refine⟨λj X a hj ha=> ?_,λj j' X X' a hj ha hj' ha' hr=> ?_,λj X hj=> ?_,λj X a hj ha hr=> ?_,⟨h.ext.os,h.ext.tape,h.ext.output,by simpa using h.ext.size,λi hi hm=> ?_⟩,h.cx,λD' hD=> ?_⟩
 ·obtain⟨X0,h1,h2,h3,h4,_⟩:=hg hj ha;by_cases e:a=b
  ·obtain⟨_,rfl⟩:=h4 e;subst e;exact⟨o,by simp[hlt],hB⟩
  ·obtain⟨o',ho',hb'⟩:=h.gD j X0 a h1 h2;refine⟨o',?_,by rw[h3 e];exact hb'⟩;show(w.heap.setIfInBounds b o)[a]?=_;rw[O (λe'=>e e'.symm)];exact ho'
 ·obtain⟨X0,h1,h2,_,_,h5⟩:=hg hj ha;obtain⟨X0',h1',h2',_,_,h5'⟩:=hg hj' ha';exact h.iq j j' X0 X0' a h1 h2 h1' h2' (by rw[← h5,← h5'];exact hr)
 ·rcases Mem.gY hj with ⟨rfl,_,_⟩ | ⟨_,hj⟩
  ·exact h.lt _ _ hk
  ·exact h.lt _ _ hj
 ·obtain⟨X0,h1,h2,_,_,h5⟩:=hg hj ha;exact h.iM j X0 a h1 h2 (by rw[← h5];exact hr)
 ·show(w.heap.setIfInBounds b o)[i]?=_;have:b≠i:=λe=>by
   rcases h.iM k _ b hk hb rfl with h' | h'
   ·exact hm (e▸ h')
   ·omega
  rw[O this];exact h.ext.block i hi hm
 ·show(w.heap.setIfInBounds b o)[D']?=_;rw[O (λe=> ?_)]
  ·exact h.kp D' hD
  ·obtain⟨o',ho',hb'⟩:=h.gD k _ b hk hb;rw[e,h.kp D' hD] at ho';exact hb'.kA _ (Option.some.inj ho').symm
theorem aO.move {Γ E m nx w}(h:aO Γ E m nx w)(hw:Mem.wf nx m=H){B B':SB}(hk:m.get k=F B)(hn:B.no=G)(hro:B.ro=G)
  (hB:bS (λj=>if j=nx then E k else E j) B' o) :
  aO Γ (λj=>if j=nx then E k else E j) ((nx,B')::m.drop k) (nx+1) {w with heap:=w.heap.setIfInBounds (E k) o}:=by
 obtain⟨o0,ho0,_⟩:=h.ny k B hk hn;have hlt:=(P.1 ho0).1
 refine h.push hw (λ_ _ hj=>(Mem.fj hj).2) (λj X a hj ha e=>(Mem.fj hj).1 (h.iq j k X B a (Mem.fj hj).2 ha hk (by rw[e];exact SB.gM hn _) (.inr hro))) (λi hi hl=> ?_) (h.Hy hk hn hro o)
  (λ_ _=>h.own k B hk hn hro) (h.kA hk hn) (λ_=>⟨o,by simp[hlt],hB⟩) hB.jg
 show(w.heap.setIfInBounds (E k) o)[i]?=_;rw[O (λe=>hi e.symm)]
def ah (B B':SB):Prop:=B'.jg=B.jg/\∀ b a,B'.iz b a->B.iz b a/\(∀ E o,bS E (B.el a) o->bS E (B'.el a) o)/\(B'.ro=G->B.ro=G)
theorem ah.refl (B:SB):ah B B:=⟨rfl,λ_ _ h=>⟨h,λ_ _ h=>h,id⟩⟩
theorem ah.of {B B':SB}(hB:B.jg=G)(hB':B'.jg=G)(h:B'.no=G->B.no=G/\(∀ E o,bS E B o->bS E B' o)/\(B'.ro=G->B.ro=G)):ah B B' :=
 ⟨hB'.trans hB.symm,λb a ha=>by rw[SB.iH hB'] at ha;rw[SB.iH hB,SB.oK hB,SB.oK hB'];obtain⟨h1,h2⟩:=h ha.1;exact⟨⟨h1,ha.2⟩,h2⟩⟩
theorem ah.old {B B':SB}(h:ah B B')(hn:B'.no=G):B.no=G/\(∀ E o,bS E B o->bS E B' o)/\(B'.ro=G->B.ro=G):=by have hF:=SB.qJ hn;obtain⟨h1,h2⟩:=h.2 0 0 (SB.gM hn 0);rw[SB.oK hF,SB.oK (h.1.symm.trans hF)] at h2;exact⟨((SB.iH (h.1.symm.trans hF)).1 h1).1,h2⟩
theorem ah.trans {A B C:SB}(h:ah A B)(h':ah B C):ah A C:=⟨h'.1.trans h.1,λb a ha=>by obtain⟨h1,h2,h3⟩:=h'.2 b a ha;obtain⟨g1,g2,g3⟩:=h.2 b a h1;exact⟨g1,λE o x=>h2 E o (g2 E o x),λx=>g3 (h3 x)⟩⟩
theorem aO.conv {Γ E m nx w}(h:aO Γ E m nx w){m':Mem}(hm: ∀ k Y,m'.get k=F Y->∃ X,m.get k=F X/\∀ a,Y.iz (E k) a->X.iz (E k) a/\(∀ o,bS E (X.el a) o->bS E (Y.el a) o)/\(Y.ro=G->X.ro=G)):aO Γ E m' nx w:=by
 refine⟨λi Z a hi ha=> ?_,λi i' Z Z' a hi ha hi' ha' hr=> ?_,λi Z hi=> ?_,λi Z a hi ha hr=> ?_,h.ext,h.cx,h.kp⟩
 ·obtain⟨X,h1,h2⟩:=hm i Z hi;obtain⟨g1,g2,_⟩:=h2 a ha;obtain⟨o,ho,hb⟩:=h.gD i X a h1 g1;exact⟨o,ho,g2 o hb⟩
 ·obtain⟨X,h1,h2⟩:=hm i Z hi;obtain⟨X',h1',h2'⟩:=hm i' Z' hi';exact h.iq i i' X X' a h1 (h2 a ha).1 h1' (h2' a ha').1 (hr.imp (h2 a ha).2.2 (h2' a ha').2.2)
 ·obtain⟨X,h1,_⟩:=hm i Z hi;exact h.lt i X h1
 ·obtain⟨X,h1,h2⟩:=hm i Z hi;exact h.iM i X a h1 (h2 a ha).1 ((h2 a ha).2.2 hr)
theorem aO.swap {Γ E m nx w}(h:aO Γ E m nx w){j:Nat}{X Y:SB}(hX:m.get j=F X)(hle:ah X Y):aO Γ E (m.put j Y) nx w:=h.conv λi Z hi=>by
 rcases Mem.gY hi with ⟨rfl,rfl,_⟩ | ⟨_,hi⟩
 ·exact⟨X,hX,λa ha=>by obtain⟨g1,g2,g3⟩:=hle.2 _ a ha;exact⟨g1,g2 E,g3⟩⟩
 ·exact⟨Z,hi,λa ha=>⟨ha,λ_ h=>h,id⟩⟩
theorem aO.JJ {Γ E k B B' m nx w}(h:aO Γ E ((k,B)::m) nx w)(hle:ah B B'):aO Γ E ((k,B')::m) nx w:=by have:=h.swap (j:=k) (X:=B) (by simp only[Mem.get,if_true]) hle;simpa only[Mem.put,if_true] using this
end Sx
end Go.Proofs.YtoibaecagklkaaaGreatDoor
