/- A part of the proof. -/
import Derived.Test.YtoibaecagklkaaaGreatDoorMh
import Derived.Laws.Externs
import Derived.ProofKit
import Derived.ChangeSame
open Bool renaming and_eq_true->an,false->D,false_eq_true->ay,true->C
open Decidable renaming decide->N
open Go.DataW renaming TrodAll->Y,trod->b_
open Go.Extern.ReflectliteType renaming abiMethod->b!,assignableTo->Z,elem->cl,implements_->ct,method->ag,relation->T,toType->cx,typeOf->cy
open Go.Extern.ReflectliteValue renaming methodAny->cB,valueError->cL
open Go.Extern.Rtype renaming kind->a_,noPackHeld->c4
open Go.Proofs.Tryz renaming f117->a!,f216->bf,prog->G
open Go.Result renaming andThen_ok->O
open Go.Sem renaming run_bind->S,run_pure->c5
open Int renaming eq_ofNat_of_zero_le->c6,ofNat->J,toNat->bl
open List renaming cons_append->c7,getElem?_eq_getElem->bn,map_cons->c8,mem_append->c_,mem_cons->L,mem_cons_of_mem->bW,mem_cons_self->c!,nil->V,not_mem_nil->M
open Option renaming none->I,some->A
namespace Go.Proofs.YtoibaecagklkaaaGreatDoor
open Go Sx
variable {fn:Func}{f:FuncId}{n:Int}{s:h_}{m:Mem}{nx t:Nat}{P:Program}{K:SV->Mem->Nat->VC}{W w w':World}
section
open Go Sx
theorem mh {e:Array Value->Sem Value}(hf:P.funcs[f]?=A fn) (h1:(fn.name== "runtime.NumGoroutine")=D) (h2:fn.body.isNone=C)
  (h3:Extern.findNext fn=I) (h4:Extern.find fn=A e) {args:Array Value} {v:Value}  (h:(e args).run P w=.ok v w'):(callFunc f args).run P w=.ok (.value v) w':=by
 rw[run_callFunc_extern hf h1 h2 h3 h4,h];rfl
abbrev yM:TypeId:=212
noncomputable abbrev JH (t:Nat):Value:=.pointer (A ⟨hB,t,I⟩)
noncomputable abbrev hd (t:Nat):SV:=.raw (JH t)
noncomputable abbrev tyV (t:Nat):SV:=.iface yM (.agg [hd t])
def zx {β:Type}(a:Nat):List (Nat×β)->Option β
 | []=>I
 | e::r=>if e.1=a then A e.2 else zx a r
theorem mj {β:Type}{a:Nat}{b:β}: ∀ {l:List (Nat×β)},zx a l=A b->(a,b)∈ l
 | [],h=>by cases h
 | e::r,h=>by
   unfold zx at h;split at h
   ·rename_i he;injection h with h;subst h;subst he;simp
   ·exact bW _ (mj h)
def Y9 {β:Type}(a b:Nat):List (Nat×Nat×β)->Option β
 | []=>I
 | e::r=>if e.1=a/\e.2.1=b then A e.2.2 else Y9 a b r
theorem EA {β:Type}{a b:Nat}{c:β}: ∀ {l:List (Nat×Nat×β)},Y9 a b l=A c->(a,b,c)∈ l
 | [],h=>by cases h
 | e::r,h=>by
   unfold Y9 at h;split at h
   ·rename_i he;injection h with h;subst h;obtain⟨rfl,rfl⟩:=he;simp
   ·exact bW _ (EA h)
noncomputable def Pt:SV->Option Nat
 | .raw (.pointer (A ⟨b,t,I⟩))=>if b=hB then A t else I
 | _=>I
theorem rE {v:SV}(h:Pt v=A t):v=hd t:=by
 unfold Pt at h;split at h
 ·rename_i b t';split at h
  ·rename_i e;injection h with h;subst h;subst e;rfl
  ·cases h
 ·cases h
noncomputable def DZ:PT:=λargs m nx K=>match args with
 | [.iface t _]=>K (tyV t) m nx
 | _=>.fail "TypeOf"
noncomputable def ri:PT:=λargs m nx K=>match args with
 | [.agg [h]]=>(match Pt h with
   | some t=>(match zx t Vn with
     | some b=>K (.bool C b) m nx
     | none=>.fail "Comparable")
   | none=>.fail "Comparable")
 | _=>.fail "Comparable"
noncomputable def Al:PT:=λargs m nx K=>match args with
 | [.iface t v]=>(match zx t gx,v.plain with
   | some k,C=>K (.agg [hd t,.ptr nx C 0,.int .u64 C (J (k+128))]) ((nx,.cells v.cells v.cells.length t)::m) (nx+1)
   | _,_=>.fail "ValueOf")
 | _=>.fail "ValueOf"
noncomputable def Rb:PT:=λargs m nx K=>match args with
 | [.agg [h,.ptr _ C 0,.int .u64 _ n]]=>(match Pt h with
   | some t=>(match zx t gx with
     | some k=>if n=J (k+128)then K (tyV t) m nx else .fail "Value.Type"
     | none=>.fail "Value.Type")
   | none=>.fail "Value.Type")
 | _=>.fail "Value.Type"
noncomputable def OM:PT:=λargs m nx K=>match args with
 | [h]=>(match Pt h with
   | some t=>(match zx t gx with
     | some k=>K (.int .u8 C (J k)) m nx
     | none=>.fail "Kind")
   | none=>.fail "Kind")
 | _=>.fail "Kind"
noncomputable def Hr:PT:=λargs m nx K=>match args with
 | [.agg [h]]=>(match Pt h with
   | some t=>(match zx t tJ with
     | some e=>K (tyV e) m nx
     | none=>.fail "Elem")
   | none=>.fail "Elem")
 | _=>.fail "Elem"
noncomputable def Uv (tab:List (Nat×Nat×Bool)):PT:=λargs m nx K=>match args with
 | [.agg [h],.iface t (.agg [g])]=>(match Pt h,Pt g with
   | some a,A b=>(match Y9 a b tab with
     | some c=>if t=yM then K (.bool C c) m nx else .fail "a relation of types"
     | none=>.fail "a relation of types")
   | _,_=>.fail "a relation of types")
 | _=>.fail "a relation of types"
noncomputable def Nr (m:Mem):SV->Option (Nat×SV)
 | .agg [h,.ptr key C 0,.int .u64 _ n]=>(match Pt h,m.get key with
   | some t,A (.cells (.ptr k b o::_) _ _)=>(match zx t tJ with
     | some _=>if n=150 then A (t,.ptr k b o)else I
     | none=>I)
   | _,_=>I)
 | _=>I
noncomputable def HF:PT:=λargs m nx K=>match args with
 | [v]=>(match Nr m v with
   | some _=>K (.bool C D) m nx
   | none=>.fail "IsNil")
 | _=>.fail "IsNil"
noncomputable def Hs:PT:=λargs m nx K=>match args with
 | [v]=>(match Nr m v with
   | some (t,p)=>(match zx t tJ with
     | some e=>(match zx e gx with
       | some k=>K (.agg [hd e,p,.int .u64 C (J (k+128+256))]) m nx
       | none=>.fail "Value.Elem")
     | none=>.fail "Value.Elem")
   | none=>.fail "Value.Elem")
 | _=>.fail "Value.Elem"
noncomputable def abr:PT:=λargs m nx K=>match args with
 | [.agg [h,p,.int .u64 _ n],.agg [g,.ptr key C 0,.int .u64 _ n']]=>(match Pt h,Pt g,m.get key with
   | some a,A b,A (.cells (v::_) _ _)=>(match Y9 a b QX,zx a gx,zx b gx with
     | some wrap,A k,A k'=>if n=J (k+128+256)/\n'=J (k'+128)then
        yA G a (A p) (A (match wrap with | true=>.iface b v | false=>v)) m nx (λ_ m nx=>K (.dr []) m nx)else .fail "Value.Set"
     | _,_,_=>.fail "Value.Set")
   | _,_,_=>.fail "Value.Set")
 | _=>.fail "Value.Set"
noncomputable def NP:PT:=Uv (JQ++Tm)
noncomputable def ady:PT:=Uv VQ
theorem YQ: ∀ p∈ gx,∀ w,(a_ p.1).run G w=.ok p.2 w:=by
 intro p hp w;simp only[gx,L,M,or_false] at hp
 repeat' first
  | (rcases hp with rfl | hp)
  | subst hp
  | kernel_rfl
theorem anR: ∀ p∈ Vn,∀ w,((ag λt=>do c4 "Comparable" t;pure (.bool (← typeInfo t).comparable)) #[.agg #[JH p.1]]).run G w=.ok (.bool p.2) w:=by
 intro p hp w;simp only[Vn,L,M,or_false] at hp
 repeat' first
  | (rcases hp with rfl | hp)
  | subst hp
  | kernel_rfl
theorem asP: ∀ p∈ gx,∀(a:Addr) w,(cB (cL "reflectlite.Value.Type" 0) (λt _ _ _=>cx t) #[.agg #[JH p.1,.pointer (A a),.int .u64 (J (p.2+128))]]).run G w
  = .ok (.iface yM (.agg #[JH p.1])) w:=by
 intro p hp a w;simp only[gx,L,M,or_false] at hp
 repeat' first
  | (rcases hp with rfl | hp)
  | subst hp
  | kernel_rfl
theorem XD: ∀ p∈ gx,∀ w,((b! λt=>do pure (.int .u8 (J (← a_ t)))) #[JH p.1]).run G w=.ok (.int .u8 (J p.2)) w:=by
 intro p hp w;simp only[gx,L,M,or_false] at hp
 repeat' first
  | (rcases hp with rfl | hp)
  | subst hp
  | kernel_rfl
theorem ajR: ∀ p∈ tJ,∀ w,(ag cl #[.agg #[JH p.1]]).run G w=.ok (.iface yM (.agg #[JH p.2])) w:=by
 intro p hp w;simp only[tJ,L,M,or_false] at hp
 repeat' first
  | (rcases hp with rfl | hp)
  | subst hp
  | kernel_rfl
theorem aoF: ∀ p∈ VQ,∀ w,(T "Implements" ct #[.agg #[JH p.1],.iface yM (.agg #[JH p.2.1])]).run G w=.ok (.bool p.2.2) w:=by
 intro p hp w;simp only[VQ,L,M,or_false] at hp
 repeat' first
  | (rcases hp with rfl | hp)
  | subst hp
  | kernel_rfl
theorem acs: ∀ p∈ JQ,∀ w,(T "AssignableTo" Z #[.agg #[JH p.1],.iface yM (.agg #[JH p.2.1])]).run G w=.ok (.bool p.2.2) w:=by
 intro p hp w;simp only[JQ,L,M,or_false] at hp
 repeat' first
  | (rcases hp with rfl | hp)
  | subst hp
  | kernel_rfl
noncomputable def atE (t:Nat):Array (String×TypeId):=match G.underlying t with
 | some (.interface l)=>l
 | _=>#[]
noncomputable def axd (t:Nat):Array Method:=match G.info? t with
 | some i=>i.methods
 | none=>#[]
theorem avd: ∀ p∈ Tm,∀ w,(T "AssignableTo" Z #[.agg #[JH p.1],.iface yM (.agg #[JH p.2.1])]).run G w=.ok (.bool (D||(Instr.missingMethod (atE p.2.1) (axd p.1)).isNone)) w:=by
 intro p hp w;simp only[Tm,L,M,or_false] at hp
 repeat' first
  | (rcases hp with rfl | hp)
  | subst hp
  | kernel_rfl
theorem apG: ∀ p∈ Tm,SL (atE p.2.1) (axd p.1)=C/\p.2.2=false:=by
 intro p hp;simp only[Tm,L,M,or_false] at hp
 repeat' first
  | (rcases hp with rfl | hp)
  | subst hp
  | exact⟨by kernel_rfl,rfl⟩
theorem azI: ∀ p∈ Tm,∀ w,(T "AssignableTo" Z #[.agg #[JH p.1],.iface yM (.agg #[JH p.2.1])]).run G w=.ok (.bool p.2.2) w:=by intro p hp w;obtain⟨h1,h2⟩:=apG p hp;obtain⟨m,hm⟩:=OO h1;rw[avd p hp w,h2,hm];rfl
theorem afr (t:Nat)(v:Value)(w:World):(cy #[.iface t v]).run G w=.ok (.iface yM (.agg #[JH t])) w:=by kernel_rfl
end
section
open Go Sx
set_option maxRecDepth 20000
theorem b9 {s:String}{α:Prop}(h:(VC.fail s).holds):α:=False.elim h
section
variable {K : SV-> Mem-> Nat-> VC} {Γ : b5} {E : Nat-> Nat} {nx : Nat} {m : Mem} {w : World}
theorem mU {v:SV}(h:(K v m nx).holds)(hs:bp Γ E m nx w):cn (lift K) Γ E nx (v.val E) w :=⟨E,A v,m,nx,λ_ _=>rfl,Nat.le_refl _,λu hu=>by injection hu with hu;subst hu;rfl,hs,h⟩
end
theorem alI:aq G 113 DZ:=by
 intro args m nx K h hw ha Γ E w hs;unfold DZ at h;split at h
 ·rename_i t v;simp only[SV.vals,SV.val];rw[mh (e:=cy) Tryz.func113 (by kernel_rfl) (by kernel_rfl) (by kernel_rfl) (by kernel_rfl) (afr t _ w)];simp only[Out];exact mU (v:=tyV t) h hs
 ·exact b9 h
set_option maxRecDepth 20000 in
theorem Rt:aq G 247 ri:=by
 intro args m nx K h hw ha Γ E w hs;unfold ri at h;split at h
 ·rename_i x;split at h
  ·rename_i t ht;have hx:=rE ht;split at h
   ·rename_i b hb;rw[hx];simp only[SV.vals,SV.val];rw[mh (e:=ag λt=>do c4 "Comparable" t;pure (.bool (← typeInfo t).comparable)) Tryz.func247 (by kernel_rfl) (by kernel_rfl) (by kernel_rfl) (by kernel_rfl) (anR _ (mj hb) w)]
    simp only[Out];exact mU (v:=.bool C b) h hs
   ·exact b9 h
  ·exact b9 h
 ·exact b9 h
set_option maxRecDepth 20000 in
theorem auY:aq G 235 OM:=by
 intro args m nx K h hw ha Γ E w hs;unfold OM at h;split at h
 ·rename_i x;split at h
  ·rename_i t ht;have hx:=rE ht;split at h
   ·rename_i k hk;rw[hx];simp only[SV.vals,SV.val];rw[mh (e:=b! λt=>do pure (.int .u8 (← a_ t))) Tryz.func235 (by kernel_rfl) (by kernel_rfl) (by kernel_rfl) (by kernel_rfl) (XD _ (mj hk) w)]
    simp only[Out];exact mU (v:=.int .u8 C (J k)) h hs
   ·exact b9 h
  ·exact b9 h
 ·exact b9 h
set_option maxRecDepth 20000 in
theorem an1:aq G 248 Hr:=by
 intro args m nx K h hw ha Γ E w hs;unfold Hr at h;split at h
 ·rename_i x;split at h
  ·rename_i t ht;have hx:=rE ht;split at h
   ·rename_i e he;rw[hx];simp only[SV.vals,SV.val];rw[mh (e:=ag cl) Tryz.func248 (by kernel_rfl) (by kernel_rfl) (by kernel_rfl) (by kernel_rfl) (ajR _ (mj he) w)];simp only[Out];exact mU (v:=tyV e) h hs
   ·exact b9 h
  ·exact b9 h
 ·exact b9 h
set_option maxRecDepth 20000 in
theorem auP:aq G 249 ady:=by
 intro args m nx K h hw ha Γ E w hs;unfold ady Uv at h;split at h
 ·rename_i x t y;split at h
  ·rename_i a b hx hy;have hx:=rE hx;have hy:=rE hy;split at h
   ·rename_i c hc;split at h
    ·rename_i e;subst e;rw[hx,hy];simp only[SV.vals,SV.val];rw[mh (e:=T "Implements" ct) Tryz.func249 (by kernel_rfl) (by kernel_rfl) (by kernel_rfl) (by kernel_rfl) (aoF _ (EA hc) w)];simp only[Out];exact mU (v:=.bool C c) h hs
    ·exact b9 h
   ·exact b9 h
  ·exact b9 h
 ·exact b9 h
set_option maxRecDepth 20000 in
theorem ajy:aq G 246 NP:=by
 intro args m nx K h hw ha Γ E w hs;unfold NP Uv at h;split at h
 ·rename_i x t y;split at h
  ·rename_i a b hx hy;have hx:=rE hx;have hy:=rE hy;split at h
   ·rename_i c hc;split at h
    ·rename_i e;subst e;rw[hx,hy];simp only[SV.vals,SV.val];have hrun:(T "AssignableTo" Z #[.agg #[JH a],.iface yM (.agg #[JH b])]).run G w=.ok (.bool c) w:=by
      rcases c_.1 (EA hc)with h1 | h1
      ·exact acs _ h1 w
      ·exact azI _ h1 w
     rw[mh (e:=T "AssignableTo" Z) Tryz.func246 (by kernel_rfl) (by kernel_rfl) (by kernel_rfl) (by kernel_rfl) hrun];simp only[Out];exact mU (v:=.bool C c) h hs
    ·exact b9 h
   ·exact b9 h
  ·exact b9 h
 ·exact b9 h
set_option maxRecDepth 20000 in
theorem av5:aq G 86 Rb:=by
 intro args m nx K h hw ha Γ E w hs;unfold Rb at h;split at h
 ·rename_i x key l n;split at h
  ·rename_i t ht;have hx:=rE ht;split at h
   ·rename_i k hk;split at h
    ·rename_i e;subst e;rw[hx];simp only[SV.vals,SV.val];rw[mh (e:=cB (cL "reflectlite.Value.Type" 0) (λt _ _ _=>cx t)) Tryz.func86 (by kernel_rfl) (by kernel_rfl) (by kernel_rfl) (by kernel_rfl) (asP _ (mj hk) _ w)];simp only[Out];exact mU (v:=tyV t) h hs
    ·exact b9 h
   ·exact b9 h
  ·exact b9 h
 ·exact b9 h
end
section
open Go Sx Extern
theorem rlm (z:Sem Value)(f:TypeId->Addr->Nat->Nat->Sem Value)(v:Value) :
  ReflectliteValue.method z f #[v]=(do match ← ReflectliteValue.parts v with | none=>z | some (t,a,fl)=>f t a fl (fl%32)):=rfl
theorem rls (v x:Value):ReflectliteValue.set #[v,x]=(do
  let (A (dst,a,fl),A (src,b,_)):=(← ReflectliteValue.parts v,← ReflectliteValue.parts x)
   | unsupported (.noEntry "extern/(internal/reflectlite.Value).Set.zeroValue")
  if fl/ReflectliteValue.flagAddr%2==0 then unsupported (.noEntry "extern/(internal/reflectlite.Value).Set.unaddressable")
  let val ← loadVar src b
  if ← Rtype.directlyAssignable dst src then storeVar dst a val
  else if ← Rtype.implements dst src then
   if(← Rtype.kind src)==20 then
    match val with
    | .nilIface=>unsupported (.noEntry "extern/reflectlite: a nil value of one interface type handed on as a value of another")
    | _=>storeVar dst a val
   else storeVar dst a (.iface src val)
  else panicString ("reflectlite.Set: value of type " ++ (← Rtype.spelt src)++ " is not assignable to type " ++ (← Rtype.spelt dst))
  pure (.tuple #[])):=rfl
theorem adn (t:Nat)(w:World):(Rtype.handle t).run G w=.ok (JH t) w:=by kernel_rfl
theorem apA {k:Nat}(h:(t,k)∈ gx)(a:Addr)(fl:Nat)(w:World):(ReflectliteValue.mk t a fl).run G w=.ok (.agg #[JH t,.pointer (A a),.int .u64 (J (k+128+fl))]) w:=by have h1:=YQ _ h w;simp only at h1;simp only[ReflectliteValue.mk,S,adn,h1,O,c5];rfl
theorem KJ: ∀ p∈ gx,∀(a:Addr) w,(ReflectliteValue.parts (.agg #[JH p.1,.pointer (A a),.int .u64 (J (p.2+128))])).run G w=.ok (A (p.1,a,p.2+128)) w:=by
 intro p hp a w;simp only[gx,L,M,or_false] at hp
 repeat' first
  | (rcases hp with rfl | hp)
  | subst hp
  | kernel_rfl
theorem aeB: ∀ p∈ gx,∀(a:Addr) w,(ReflectliteValue.parts (.agg #[JH p.1,.pointer (A a),.int .u64 (J (p.2+128+256))])).run G w=.ok (A (p.1,a,p.2+128+256)) w:=by
 intro p hp a w;simp only[gx,L,M,or_false] at hp
 repeat' first
  | (rcases hp with rfl | hp)
  | subst hp
  | kernel_rfl
theorem ZV: ∀ p∈ tJ,(p.1,22)∈ gx/\G.underlying p.1=A (.pointer p.2):=by
 intro p hp;simp only[tJ,L,M,or_false] at hp
 repeat' first
  | (rcases hp with rfl | hp)
  | subst hp
  | exact⟨by simp[gx],by kernel_rfl⟩
theorem elem?_run: ∀ p∈ tJ,∀ w,(Rtype.elem? p.1).run G w=.ok (A p.2) w:=by
 intro p hp w;simp only[tJ,L,M,or_false] at hp
 repeat' first
  | (rcases hp with rfl | hp)
  | subst hp
  | kernel_rfl
noncomputable def ZL (t:Nat):Bool:=match G.underlying t with
 | some d=>!lP d
 | none=>D
theorem akS: ∀ p∈ gx,ZL p.1=true:=by
 intro p hp;simp only[gx,L,M,or_false] at hp
 repeat' first
  | (rcases hp with rfl | hp)
  | subst hp
  | kernel_rfl
theorem apQ: ∀ p∈ gx,∃ d,G.underlying p.1=A d/\lP d=false:=by
 intro p hp;have:=akS p hp;unfold ZL at this;split at this
 ·rename_i d hd;exact⟨d,hd,by simpa using this⟩
 ·cases this
theorem ac2: ∀ p∈ QX,∀ w,(Rtype.directlyAssignable p.1 p.2.1).run G w=.ok (!p.2.2) w:=by
 intro p hp w;simp only[QX,L,M,or_false] at hp
 repeat' first
  | (rcases hp with rfl | hp)
  | subst hp
  | kernel_rfl
theorem atL: ∀ p∈ QX,p.2.2=C->∀ w,(Rtype.implements p.1 p.2.1).run G w=.ok C w/\(p.2.1,20)∉ gx:=by
 intro p hp hw w;simp only[QX,L,M,or_false] at hp
 repeat' first
  | (rcases hp with rfl | hp)
  | subst hp
  | cases hw
  | exact⟨by kernel_rfl,by simp[gx]⟩
theorem CQ {k:Nat}(h:(t,k)∈ gx){b o:Nat}{c:Array Value}{ty:TypeId}{fr:Nat×Nat}(hb:w.heap[b]?=A (.cells c ty fr)){v:Value}(hv:c[o]?=A v) :
  (loadVar t ⟨b,o,I⟩).run G w=.ok v w:=by
 obtain⟨d,h1,h2⟩:=apQ _ h;simp only[loadVar,S,fK h1,h2,O,ay,if_false,run_load,cell_of hb,hv]
set_option maxRecDepth 20000 in
theorem afx:aq G 85 Al:=by
 intro args m nx K h hw ha Γ E w hs;unfold Al at h;split at h
 ·rename_i t v;split at h
  ·rename_i k hk hp;have hm:=mj hk;simp only[SV.vals,SV.val]
   have hrun:((λargs=>ReflectliteValue.unpack (args.getD 0 (.tuple #[]))) #[Value.iface t (v.val E)]).run G w =
     .ok (.agg #[JH t,.pointer (A ⟨w.heap.size,0,I⟩),.int .u64 (J (k+128+0))]) {w with heap:=w.heap.push (.cells (v.val E).cells t)}:=by
    show(ReflectliteValue.unpack (Value.iface t (v.val E))).run G w=_;simp only[ReflectliteValue.unpack,S,Gt,O,apA hm]
   rw[mh (e:=λargs=>ReflectliteValue.unpack (args.getD 0 (.tuple #[]))) Tryz.func85 (by kernel_rfl) (by kernel_rfl) (by kernel_rfl) (by kernel_rfl) hrun];simp only[Out];simp only[SV.lY,SV.wf,Bool.and_true] at ha;refine cn.alloc hs hw (K:=lift K) (sv:=.agg [hd t,.ptr nx C 0,.int .u64 C (J (k+128))]) (y6 ha) (HQ (by rw[SV.lA hp])) (CR (E:=E) (by rw[SV.lA hp])) h ?_;simp[SV.val,SV.vals]
  ·exact b9 h
 ·exact b9 h
theorem OB {v p:SV}(h:Nr m v=A (t,p)): ∃ key l cs tot ty k b o e,v=.agg [hd t,.ptr key C 0,.int .u64 l 150]/\p=.ptr k b o/\m.get key=A (.cells (.ptr k b o::cs) tot ty)/\(t,e)∈ tJ:=by
 unfold Nr at h;split at h
 ·rename_i x key l n;split at h
  ·rename_i t' k b o cs tot ty ht hk;split at h
   ·rename_i e he;split at h
    ·rename_i hn;injection h with h;injection h with h1 h2;subst h1;subst h2;subst hn;exact⟨key,l,cs,tot,ty,k,b,o,e,by rw[rE ht],rfl,hk,mj he⟩
    ·cases h
   ·cases h
  ·cases h
 ·cases h
set_option maxRecDepth 20000 in
theorem aoK:aq G 87 HF:=by
 intro args m nx K h hw ha Γ E w hs;unfold HF at h;split at h
 ·rename_i v;split at h
  ·rename_i tp htp;obtain⟨t,p⟩:=tp;obtain⟨key,l,cs,tot,ty,k,b,o,e,hv,hp,hk,he⟩:=OB htp;obtain⟨ob,ho,c,fr,rfl,_,h2,_⟩:=hs.yZ key _ hk rfl;have h0:=h2 0 _ rfl;obtain⟨hkt,hun⟩:=ZV _ he;have hrun:(ReflectliteValue.method (ReflectliteValue.valueError "reflectlite.Value.IsNil" 0) ReflectliteValue.isNil #[.agg #[JH t,.pointer (A ⟨E key,0,I⟩),.int .u64 150]]).run G w=.ok (.bool D) w:=by
    rw[rlm];have hp:=KJ _ hkt ⟨E key,0,I⟩ w;have hl:=CQ hkt ho h0;simp only[show J (22+128)=150 from rfl] at hp
    simp only[S,hp,O,ReflectliteValue.isNil];simp[hl,SV.val]
   rw[hv];simp only[SV.vals,SV.val];rw[mh (e:=ReflectliteValue.method (ReflectliteValue.valueError "reflectlite.Value.IsNil" 0) ReflectliteValue.isNil) Tryz.func87 (by kernel_rfl) (by kernel_rfl) (by kernel_rfl) (by kernel_rfl) hrun];simp only[Out];exact mU (v:=.bool C D) h hs
  ·exact b9 h
 ·exact b9 h
set_option maxRecDepth 20000 in
theorem an2:aq G 133 Hs:=by
 intro args m nx K h hw ha Γ E w hs;unfold Hs at h;split at h
 ·rename_i v;split at h
  ·rename_i t p htp;obtain⟨key,l,cs,tot,ty,k,b,o,e0,hv,hp,hk,he0⟩:=OB htp;split at h
   ·rename_i e he;have he:=mj he;split at h
    ·rename_i ke hke;have hke:=mj hke;obtain⟨ob,ho,c,fr,rfl,_,h2,_⟩:=hs.yZ key _ hk rfl;have h0:=h2 0 _ rfl;obtain⟨hkt,hun⟩:=ZV _ he;have hrun:(ReflectliteValue.method (ReflectliteValue.valueError "reflectlite.Value.Elem" 0) ReflectliteValue.elem #[.agg #[JH t,.pointer (A ⟨E key,0,I⟩),.int .u64 150]]).run G w=.ok (.agg #[JH e,.pointer (A ⟨E k,o,I⟩),.int .u64 (J (ke+128+256))]) w:=by
      rw[rlm];have hp:=KJ _ hkt ⟨E key,0,I⟩ w;have hl:=CQ hkt ho h0;have hel:=elem?_run _ he w;have hmk:=apA hke ⟨E k,o,I⟩ ReflectliteValue.flagAddr w;simp only at hel;simp only[show J (22+128)=150 from rfl] at hp
      simp only[S,hp,O,ReflectliteValue.elem];simp[hl,SV.val,hel,hmk];rfl
     rw[hv];simp only[SV.vals,SV.val];rw[mh (e:=ReflectliteValue.method (ReflectliteValue.valueError "reflectlite.Value.Elem" 0) ReflectliteValue.elem) Tryz.func133 (by kernel_rfl) (by kernel_rfl) (by kernel_rfl) (by kernel_rfl) hrun];simp only[Out];subst hp;have:=mU (v:=.agg [hd e,.ptr k b o,.int .u64 C (J (ke+128+256))]) h hs;simpa [SV.val,SV.vals] using this
    ·exact b9 h
   ·exact b9 h
  ·exact b9 h
 ·exact b9 h
end
section
open Go Sx Extern
set_option maxRecDepth 20000
theorem auy: ∀ p∈ gx,((p.2+128+256)/ReflectliteValue.flagAddr%2==0)=false:=by
 intro p hp;simp only[gx,L,M,or_false] at hp
 repeat' first
  | (rcases hp with rfl | hp)
  | subst hp
  | rfl
set_option maxRecDepth 20000 in
theorem Xd {t:TypeId}{p x:SV}{Γ:b5}{E:Nat->Nat}(h:(yA G t (A p) (A x) m nx (λ_ m nx=>K (.dr []) m nx)).holds)(hs:bp Γ E m nx w)(hw:Mem.wf nx m=C)
  (hp:p.wf nx=C) (hx:x.wf nx=C) {a:Addr} (ha:p.val E=.pointer (A a)) (_h0:a.spot=I) :
  ∃ w',(storeVar t a (x.val E)).run G w=.ok () w'/\cn (lift K) Γ E nx (.tuple #[]) w':=by
 have:=Td (P:=G) (Γ:=Γ) (m:=m) (nx:=nx) (σ:=λo=>match o with | .tmp 0=>A p | .tmp 1=>A x | _=>I) (dst:=I) (t:=t) (type:=0) (pos:= "") (after:=#[]) (guard:=I) (a:=.tmp 0) (x:=.tmp 1)
  (λ_ m nx=>K (.dr []) m nx) E w (λo=>match o with | .tmp 0=>p.val E | .tmp 1=>x.val E | _=>undef) h hs hw (λo v hv=>by
    simp only at hv;split at hv
    ·injection hv with hv;subst hv;exact hp
    ·injection hv with hv;subst hv;exact hx
    ·cases hv) (λo v hv=>by
    simp only at hv ⊢;split at hv
    ·injection hv with hv;subst hv;rfl
    ·injection hv with hv;subst hv;rfl
    ·cases hv)
 simp only[execOp,Instr.storeAt,ha,Instr.sureAddr,S,c5,O] at this;generalize hr:(storeVar t a (x.val E)).run G w=r at this;cases r with
 | halt e w'=>cases e<;>simp[Result.andThen,Out] at this
 | ok u w' =>simp only[O,Out] at this;obtain⟨E',sv,m',nx',g1,g2,g3,g4,g5⟩:=this;exact⟨w',rfl,E',A (.dr []),m',nx',g1,g2,λv hv=>by injection hv with hv;subst hv;rfl,g4,g5⟩
set_option maxRecDepth 20000 in
theorem az8:aq G 134 abr:=by
 intro args m nx K h hw ha Γ E w hs;unfold abr at h;split at h
 ·rename_i x p l n y key l' n';split at h
  ·rename_i a b v cs tot ty hx hy hk;have hx:=rE hx;have hy:=rE hy;split at h
   ·rename_i wrap k k' hwr hka hkb;have hwr:=EA hwr;have hka:=mj hka;have hkb:=mj hkb;split at h
    ·rename_i hn;obtain⟨rfl,rfl⟩:=hn;obtain⟨ob,ho,c,fr,rfl,_,h2,_⟩:=hs.yZ key _ hk rfl;have h0:=h2 0 _ rfl;have hvw:v.wf nx=true:=SV.EZ (Mem.Xt hw hk) (i:=0) rfl;have hpw:p.wf nx=true:=by simp only[SV.lY,SV.wf,an] at ha;exact ha.1.2.1
     have hpp: ∃ q,p.val E=.pointer (A q)/\q.spot=none:=by
      unfold yA at h;split at h
      ·rename_i e _ _;injection e with e;subst e;exact⟨_,rfl,rfl⟩
      ·rename_i e _ _;injection e with e;subst e;exact⟨_,rfl,rfl⟩
      ·rename_i e _ _;injection e with e;subst e;exact⟨_,rfl,rfl⟩
      ·rename_i e _ _;injection e with e;subst e;exact⟨_,rfl,rfl⟩
      ·rename_i e _ _;injection e with e;subst e;exact⟨_,rfl,rfl⟩
      ·exact b9 h
     obtain⟨q,hq,hsp⟩:=hpp;obtain⟨w',hst,haft⟩:=Xd h hs hw hpw (by cases wrap<;>exact hvw) hq hsp
     have hp1:=aeB _ hka q w;have hp2:=KJ _ hkb ⟨E key,0,I⟩ w;have hd:=ac2 _ hwr w;have hl:=CQ hkb ho h0;simp only at hp1 hp2 hd;have hflag:((k+128+256)/ReflectliteValue.flagAddr%2==0)=false:=auy _ hka;have hrun:(ReflectliteValue.set #[.agg #[JH a,.pointer (A q),.int .u64 (J (k+128+256))],.agg #[JH b,.pointer (A ⟨E key,0,I⟩),.int .u64 (J (k'+128))]]).run G w=.ok (.tuple #[]) w':=by
      rw[rls];simp only[S,hp1,hp2,O,hflag,ay,if_false,hl,hd];cases wrap with
      | false =>
        simp only[Bool.not_false,if_true]
        try simp only at hst
        rw[S,hst];rfl
      | true =>
        obtain⟨hi,hne⟩:=atL _ hwr rfl w;have hkk:=YQ _ hkb w;simp only at hi hkk;have h20:(k'==20)=false:=by simp only[beq_eq_false_iff_ne,ne_eq];intro e;subst e;exact hne hkb
        simp only[Bool.not_true,ay,if_false,S,hi,O,if_true,hkk,h20];simp only[SV.val] at hst;rw[hst];rfl
     rw[hx,hy];simp only[SV.vals,SV.val,hq];rw[mh (e:=ReflectliteValue.set) Tryz.func134 (by kernel_rfl) (by kernel_rfl) (by kernel_rfl) (by kernel_rfl) hrun];exact haft
    ·exact b9 h
   ·exact b9 h
  ·exact b9 h
 ·exact b9 h
theorem Zs:bC DZ:=by intro args m nx K K' hK h;unfold DZ at h ⊢;split at h;exact hK _ _ _ h;exact b9 h
theorem M3:bC ri:=by
 intro args m nx K K' hK h;unfold ri at h ⊢;repeat' split at h
 all_goals first | exact b9 h | (simp only[*];done) | (simp only[*];exact hK _ _ _ h)
theorem akC:bC OM:=by
 intro args m nx K K' hK h;unfold OM at h ⊢;repeat' split at h
 all_goals first | exact b9 h | (simp only[*];done) | (simp only[*];exact hK _ _ _ h)
theorem aeh:bC Hr:=by
 intro args m nx K K' hK h;unfold Hr at h ⊢;repeat' split at h
 all_goals first | exact b9 h | (simp only[*];done) | (simp only[*];exact hK _ _ _ h)
theorem Zr (tab:List (Nat×Nat×Bool)):bC (Uv tab):=by
 intro args m nx K K' hK h;unfold Uv at h ⊢;repeat' split at h
 all_goals first | exact b9 h | (simp only[*,if_true];done) | (simp only[*,if_true];exact hK _ _ _ h)
theorem akD:bC Rb:=by
 intro args m nx K K' hK h;unfold Rb at h ⊢;repeat' split at h
 all_goals first | exact b9 h | (simp only[*,if_true];done) | (simp only[*,if_true];exact hK _ _ _ h)
theorem Wo:bC Al:=by
 intro args m nx K K' hK h;unfold Al at h ⊢;repeat' split at h
 all_goals first | exact b9 h | (simp only[*];done) | (simp only[*];exact hK _ _ _ h)
theorem aej:bC HF:=by
 intro args m nx K K' hK h;unfold HF at h ⊢;repeat' split at h
 all_goals first | exact b9 h | (simp only[*];done) | (simp only[*];exact hK _ _ _ h)
theorem aei:bC Hs:=by
 intro args m nx K K' hK h;unfold Hs at h ⊢;repeat' split at h
 all_goals first | exact b9 h | (simp only[*];done) | (simp only[*];exact hK _ _ _ h)
theorem Zf {t:TypeId}{a x:Option SV}{K K':KL}(hK: ∀ v m nx,(K v m nx).holds->(K' v m nx).holds)(h:(yA P t a x m nx K).holds):(yA P t a x m nx K').holds:=by
 unfold yA at h ⊢;repeat' split at h
 all_goals first | exact b9 h | exact hK _ _ _ h | exact⟨h.1,hK _ _ _ h.2⟩ | (simp only[*,if_true];done) | (simp only[*,if_true];exact hK _ _ _ h) | (simp only[*,if_true];exact⟨h.1,hK _ _ _ h.2⟩)
theorem apB:bC abr:=by
 intro args m nx K K' hK h;unfold abr at h ⊢;split at h
 ·split at h
  ·split at h
   ·split at h
    ·rename_i hn;simp only[*,and_self,if_true];exact Zf (λ_ _ _=>hK _ _ _) h
    ·exact b9 h
   ·exact b9 h
  ·exact b9 h
 ·exact b9 h
noncomputable def lM:List (FuncId×PT):=[(113,DZ),(247,ri),(235,OM),(248,Hr),
 (249,ady),(246,NP),(86,Rb),(85,Al),
 (87,HF),(133,Hs),(134,abr)]
theorem iF:aR G (λf=>av f lM):=by
 unfold lM;apply aR.cons
 ·exact alI
 ·exact Zs
 apply aR.cons
 ·exact Rt
 ·exact M3
 apply aR.cons
 ·exact auY
 ·exact akC
 apply aR.cons
 ·exact an1
 ·exact aeh
 apply aR.cons
 ·exact auP
 ·exact Zr _
 apply aR.cons
 ·exact ajy
 ·exact Zr _
 apply aR.cons
 ·exact av5
 ·exact akD
 apply aR.cons
 ·exact afx
 ·exact Wo
 apply aR.cons
 ·exact aoK
 ·exact aej
 apply aR.cons
 ·exact an2
 ·exact aei
 apply aR.cons
 ·exact az8
 ·exact apB
 exact aR.nil
end
namespace Sx
open Go Go.RowKit Go.WideShapes Go.ChangeShapes
section
variable {H : Type} {enc : TypeId × Value-> H} {P : Program}
theorem RD {f:Func}{s:ChangeSpec}{apart fresh handsOn again:Bool}{W':World}{args:Array Value}{v:Value}{ds gs:List (DataW H)}{before pa pv:List MemPlace}
  (hW:DataW.Whole enc P f.params.toList s.vars apart W args.toList ds gs before)
  (hres: ∀(b:Nat) (sp:Nat->Bool) (hd:Bool),Y enc P W' b sp hd f.resultTypes.toList (v.resultList f.resultTypes.size) (s.fn H (ds++gs)).results [])
  (hargs: ∀ sp:Nat->Bool,(∀ p∈ before,sp p.block=C)->Y enc P W' 0 sp C f.params.toList args.toList (s.fn H (ds++gs)).args pa)
  (hvars: ∀ sp:Nat->Bool,(∀ p∈ before,sp p.block=C)->DataW.TrodVars enc P W' sp s.vars (s.fn H (ds++gs)).vars pv)
  (hps:before=pa++pv) (hb:Below W.heap.size W W')
  (hok: ∀(j:Nat) (t:TypeId) (r:Value),f.resultTypes[j]?=A t->(v.resultList f.resultTypes.size)[j]?=A r->Value.okWide P W' .any 0 t r) :
  s.post enc P f apart fresh handsOn again W args v W':=by
 have hlt: ∀ p∈ before,p.block<W.heap.size:=λp hp=>hW.lt p hp;have hold: ∀ p∈ before,(λb=>decide (b<W.heap.size)) p.block=true:=λp hp=>by simpa using hlt p hp
 refine⟨ds,gs,before,[],pa,pv,hW,hres _ _ _,hargs _ hold,hvars _ hold,World.keptBut_mono (λp hp=>⟨hp,?_⟩) (hb.frame (· ∈ before)),λ_=> ?_⟩
 ·rw[hps,c_] at hp;exact Or.inr hp
 ·obtain⟨_,_,_,_,_,hz,hn⟩:=hW;refine⟨hok,_,_,([]++pa)++pv,⟨[]++pa,pv,trodAll_append (hargs _ (λ_ _=>rfl)) (hres _ _ _),hvars _ (λ_ _=>rfl),rfl,?_,?_⟩,?_⟩
  ·intro b off hp;have hin:MemPlace.cell b off∈ before:=by rw[hps];simpa using hp
   rw[hb.frozen (hlt _ hin)];exact hz b off hin
  ·intro ha;have:=hn ha;rw[hps] at this;simpa using this
  ·intro p hp _;rw[hps];simpa using hp
theorem FZ (hl:laidOutB P=C){W W':World}(hb:Below W.heap.size W W'){sp:Nat->Bool}: ∀ {ts:List TypeId} {vs:List Value} {ds:List (DataW H)} {ps:List MemPlace},
  (∀ t∈ ts,P.readableRec t=C/\t<P.types.size)->Y enc P W 0 (λ_=>C) C ts vs ds ps->(∀ x∈ ps,x.block<W.heap.size)->(∀ x∈ ps,sp x.block=C)->Y enc P W' 0 sp C ts vs ds ps
 | [],[],[],ps,_,h,_,_=>h
 | t::ts,v::vs,d::ds,ps,ht,h,hlt,hsp=>by obtain⟨p,q,h1,h2,rfl⟩:=h;refine⟨p,q,?_,FZ hl hb (λt h=>ht t (bW _ h)) h2 (λx hx=>hlt x (by simp[hx])) (λx hx=>hsp x (by simp[hx])),rfl⟩;exact WideElems.Trod_stays hl (ht t (c! ..)).1 (ht t (c! ..)).2 h1 (λx hx=>hb.same (hlt x (by simp[hx]))) (λx hx=>hsp x (by simp[hx]))
theorem MM {W:World}{b:Nat}{sp:Nat->Bool}{hd:Bool}: ∀ {ts:List TypeId} {vs:List Value} {ds:List (DataW H)} {ps:List MemPlace},Y enc P W b sp hd ts vs ds ps->ds.length=ts.length/\vs.length=ts.length
 | [],[],[],_,_=>⟨rfl,rfl⟩
 | _::_,_::_,_::_,_,h=>by obtain⟨p,q,_,h2,_⟩:=h;have:=MM h2;simp[this.1,this.2]
 | [],[],_::_,_,h=>h.elim
 | [],_::_,_,_,h=>h.elim
 | _::_,[],_,_,h=>h.elim
 | _::_,_::_,[],_,h=>h.elim
end
theorem aBu {base:Nat}{t e:TypeId}{v:Value}{H:Type}{enc:TypeId×Value->H}{d:DataW H}{ps:List MemPlace}(ht:P.underlying t=A (.slice e))
  (hval:Value.okWide P W .any base t v) (hd:DataW.Trod enc P W 0 (λ_=>C) C t v d ps) :
  ∃(z:Bool) (b o n c:Nat),v=(SV.cT 0 (P.cellsOf e) z o 0 n c).val (λ_=>b)/\n<=maxLen/\((z&&Nat.beq n 0)=D->∃ cs ty fr,W.heap[b]?=A (.cells cs ty fr)/\
   ∀ i,i<n->∃(xs:List Value) (y:DataW H×List MemPlace) (m:Nat),xs.length=P.cellsOf e/\(∀ k,k<P.cellsOf e->cs[o+i*P.cellsOf e+k]?=xs[k]?)/\b_ enc P W 0 (λ_=>C) C m e xs=A y):=by
 obtain⟨a0,n,c,rfl⟩:=okWide_slice ht hval;obtain⟨fuel,hf⟩:=hd;rcases DataW.trod_slice ht hf with ⟨h0,_⟩ | ⟨a,len,cap,elems,rest,m,_,hcs,_,hb,hlc,hmax,hlen,hel,_,_⟩
 ·simp only[Value.cells] at h0;have h1:a0=I/\n=0/\c=0:=by simpa using h0
  obtain⟨rfl,rfl,rfl⟩:=h1;exact⟨C,0,0,0,0,rfl,Nat.zero_le _,λh=>by cases h⟩
 ·simp only[Value.cells] at hcs;have h1:a0=A a/\n=len/\c=cap:=by simpa using hcs
  obtain⟨rfl,rfl,rfl⟩:=h1;have hhas:W.has P .any base a e c:=by simp only[Value.okWide,ht,Cell.okWide,Cell.ok] at hval;exact hval.2.2
  obtain⟨_,hspot,row,cells,hshape,_⟩:=hhas;obtain⟨yZ,off,spot⟩:=a;simp only at hspot;subst hspot;have hcells: ∃ cs ty fr,W.heap[yZ]?=A (.cells cs ty fr):=by
   unfold World.shape? at hshape;split at hshape
   ·rename_i cs ty fr h;exact⟨cs,ty,fr,h⟩
   ·cases hshape
  obtain⟨cs,ty,fr,hblk⟩:=hcells;refine⟨D,yZ,off,n,c,by simp[SV.val],Nat.le_trans hlc hmax,λ_=>⟨cs,ty,fr,hblk,λi hi=> ?_⟩⟩;have h2:=hel i hi;rw[bn (by omega)] at h2;obtain⟨xs,hxs,hy⟩:=Option.bind_eq_some_iff.1 h2;obtain⟨_,hl2,hget⟩:=World.cells?_some hxs;refine⟨xs,_,m,hl2,λk hk=> ?_,hy⟩;have:=hget k hk;rw[← this,fS,fS,cell_of hblk]
def abG (cs:Array Value)(j:Nat):h_:=match cs[j]? with
 | some (.string s)=>s.data.toList
 | _=>[]
theorem F0 {H:Type}{enc:TypeId×Value->H}{m:Nat}{t:TypeId}{x:Value}{y:DataW H×List MemPlace}(ht:P.underlying t=A .string)(h:b_ enc P W 0 (λ_=>C) C m t [x]=A y)
  {cs:Array Value} {j:Nat} (hc:cs[j]?=A x):cs[j]?=A ((SV.str D (abG cs j)).val (λ_=>0))/\(abG cs j).length<=maxLen:=by
 obtain⟨s,hx,_,hw⟩:=DataW.trod_string ht h;injection hx with hx;subst hx;unfold abG;rw[hc];refine⟨by simp[SV.val],?_⟩;have he:s.data.toList.length=s.size:=Array.length_toList;show s.data.toList.length<=maxLen;rw[he];exact hw
end Sx
section
open Go Sx
set_option maxRecDepth 20000
theorem bI:G.follows .mixedOrders=true:=by kernel_rfl
theorem apC:(G.funcs.all λfn=>!(fn.name== "runtime.NumGoroutine"))=true:=by kernel_rfl
theorem aO (f:FuncId)(fn:Func)(h:G.funcs[f]?=A fn):G.funcs[f]?=A fn/\(fn.name== "runtime.NumGoroutine")=false:=by refine⟨h,?_⟩;have:=Array.all_eq_true'.1 apC fn (Array.mem_of_getElem? h);simpa using this
noncomputable def bQ:iG:={cO:=λf=>av f lM,fns:=λf=>G.funcs[f]?,bU:=λ_=>[],rounds:=100}
theorem p8:Sx.Good G bQ:=.of bI iF aO
end
namespace Sx
open Go
def Xm:SV->SV
 | .int k _ n=>.int k D n
 | .bool _ b=>.bool D b
 | .str _ s=>.str D s
 | v=>v
def Re:SV->SV
 | .agg cs=>.agg (cs.map Xm)
 | v=>Xm v
theorem afs (E:Nat->Nat)(v:SV):(Xm v).val E=v.val E:=by cases v<;>rfl
theorem MO (E:Nat->Nat): ∀ l:List SV,SV.vals E (l.map Xm)=SV.vals E l
 | []=>rfl
 | v::r=>by simp only[c8,SV.vals,afs,MO E r]
theorem UQ (E:Nat->Nat)(v:SV):(Re v).val E=v.val E:=by cases v<;>first | rfl | simp only[Re,SV.val,MO]
theorem Bi (E:Nat->Nat): ∀ l:List SV,SV.vals E (l.map Re)=SV.vals E l
 | []=>rfl
 | v::r=>by simp only[c8,SV.vals,UQ,Bi E r]
noncomputable def aI (spec:List SV->Option (Prop×SV)):PT:=λargs m nx K=>match spec (args.map Re)with
 | some (p,r)=>.and (.atom p) (K r m nx)
 | none=>.fail "arguments that nothing is said of"
def ai (v r:SV):Prop:=∀ E,v.val E=r.val E
def svA (v r:SV):VC:=.eqv (ai v r) (ai v v) (λ_=>rfl)
theorem aE (spec:List SV->Option (Prop×SV)):bC (aI spec):=by
 intro args m nx K K' hK h;unfold aI at h ⊢;split at h
 ·exact⟨h.1,hK _ _ _ h.2⟩
 ·exact h
theorem iH {cfg:iG}(hg:Good P cfg)(hf:P.funcs[f]?=A fn) (hn:(fn.name== "runtime.NumGoroutine")=D) (hb:fn.body.isSome=C) {n:Nat} {spec:List SV->Option (Prop×SV)}
  (h: ∀ args p r,spec args=A (p,r)->p->SV.lY 0 args=C/\r.wf 0=C/\au (lZ P (calling P cfg n) [] Ny (cfg.bU f) cfg.rounds fn args [] 0 (λv _ _=>.atom (ai v r)))):aq P f (aI spec):=by
 intro args m nx K hk hwf hargs Γ E w hs;unfold aI at hk;split at hk
 ·rename_i p r hr;obtain⟨hp,hk⟩:=hk;obtain⟨h1,h2,h3⟩:=h _ _ _ hr hp;have hc:=kC hg hf hn hb h3 rfl h1 (bp.none w hs.adj);rw[SV.EW h1 (λ_=>0) E,Bi] at hc;refine mY hf hn hb (hc.mono ?_);rintro e w' ⟨v,rfl,E',sv,m',nx',_,_,g3,g4,g5⟩;refine⟨v,rfl,?_⟩;cases sv with
  | none=>exact g5.elim
  | some u =>have hu:ai u r:=g5;refine⟨E,A r,m,nx,λ_ _=>rfl,Nat.le_refl _,λx hx=> ?_,hs.still g4.ext,hk⟩;injection hx with hx;subst hx;rw[g3 u rfl,hu E',SV.Jy h2 E' E]
 ·exact hk.elim
end Sx
section
open Go Sx
set_option maxRecDepth 20000
noncomputable def ayd:iG:={bQ with rounds:=9}
theorem aBh:Sx.Good G ayd:=.of bI iF aO
def GX:Nat->Int->h_
 | 0,_=>[]
 | k+1,n=>if 0<n then GX k (n/256)++[UInt8.ofNat (n%256).toNat] else []
def digits (n:Int):h_:=GX 8 n
noncomputable def eS (cfg:iG)(f:Nat)(fn:Func)(args:List SV)(R:SV->Prop):VC:=lZ G (calling G cfg 20) [] Ny (cfg.bU f) cfg.rounds fn args [] 0 (λv _ _=>.atom (R v))
section
variable (n m : Nat) (s : h_) (a b : Int) (p q : Prop) (x y z f g : Bool)
abbrev fu:=SV.str C V
abbrev dQ:=a%256
abbrev fM:h_:=UInt8.ofNat (bl (dQ a))::s
abbrev iu:=a/256
abbrev pV:=iu (iu a)
abbrev Z1:=fM (fM (fM (fM (fM V a) (iu a)) (pV a)) (iu (pV a))) (pV (pV a))
abbrev gO:=D&&C
abbrev tc:=x&&(y&&z)
abbrev mq:=tc x y (tc z f g)
abbrev Qh:=mq D D D D gO
abbrev DC:=pV (iu (pV a))
abbrev aM:=Fk (a<b) p q
abbrev aJ:=n<=m->p
abbrev fq:=fM V a
abbrev cQ:=Er n/\p
abbrev aF:=n*1
end
theorem as6 (n:Int)(R:SV->Prop):VC.holds (eS ayd 117 a! [.int .u64 D n] R)=(aM 0 n (∀(a:Nat),aJ 1 a (aM 0 (iu n) (cQ (aF a) (∀(a:Nat),aJ 2 a (aM 0 (pV n) (cQ (aF a) (∀(a:Nat),aJ 3 a (aM 0 (iu (pV n)) (cQ (aF a) (∀(a:Nat),aJ 4 a (aM 0 (iu (iu (pV n))) (cQ (aF a) (∀(a:Nat),aJ 5 a (aM 0 (DC n) (cQ (aF a) (∀(a:Nat),aJ 6 a (aM 0 (iu (DC n)) (cQ (aF a) (∀(a:Nat),aJ 7 a (aM 0 (pV (DC n)) (cQ (aF a) (∀(a:Nat),aJ 8 a (aM 0 (iu (pV (DC n))) (cQ (aF a) (∀(a:Nat),aJ 9 a False)) (R (SV.str (D&&tc D D Qh) (fM (fM (fM (Z1 n) (DC n)) (iu (DC n))) (pV (DC n)))))))) (R (SV.str (tc D D Qh) (fM (fM (Z1 n) (DC n)) (iu (DC n)))))))) (R (SV.str (D&&Qh) (fM (Z1 n) (DC n))))))) (R (SV.str Qh (Z1 n)))))) (R (SV.str (D&&tc D D gO) (fM (fM (fM (fM V n) (iu n)) (pV n)) (iu (pV n)))))))) (R (SV.str (tc D D gO) (fM (fM (fM V n) (iu n)) (pV n))))))) (R (SV.str (D&&gO) (fM (fM V n) (iu n))))))) (R (SV.str gO (fq n))))) (R fu)):=by kernel_rfl
theorem dc {l:Bool}{a b:h_}(h:a=b):ai (.str l a) (.str D b):=λE=>by subst h;rfl
theorem anX {k:Nat}(h:N (0<n)=D):GX k n=[]:=by
 have: ¬ (0<n):=by simpa using h
 cases k with
 | zero=>rfl
 | succ k=>simp[GX,this]
theorem anW {k:Nat}(h:N (0<n)=C):GX (k+1) n=GX k (n/256)++[UInt8.ofNat (n%256).toNat]:=by
 have:0<n:=by simpa using h
 simp[GX,this]
theorem Vr (h0:0<=n)(h1:n<18446744073709551616):au (eS ayd 117 a! [.int .u64 D n] (λv=>ai v (.str D (digits n)))):=by
 refine au.j7 (as6 n _) (by delta Fk Er fu dQ fM iu pV Z1 gO tc mq Qh DC aM aJ fq cQ aF;exact rfl) ?_;unfold digits
 repeat' first
  | apply And.intro
  | intro (_:_=_)
  | intro (c:Nat)
  | intro (_:_<=_)
 all_goals first
  | rfl
  | (apply dc;simp only[anW,anX, *,List.nil_append,c7])
  | (exfalso;simp only[m_] at *;omega)
noncomputable def vZ:List SV->Option (Prop×SV)
 | [.int .u64 D n]=>A (0<=n/\n<18446744073709551616,.str D (digits n))
 | _=>I
noncomputable def Yc:PT:=aI vZ
theorem ajO:aq G 117 Yc:=by
 refine iH aBh (n:=20) (fn:=a!) Tryz.func117 (by kernel_rfl) (by kernel_rfl) ?_;intro args p r h hp;unfold vZ at h;split at h
 ·rename_i n;injection h with h;injection h with h1 h2;subst h1;subst h2;exact⟨rfl,rfl,Vr hp.1 hp.2⟩
 ·cases h
noncomputable def aoX:List (FuncId×PT):=(117,Yc)::lM
theorem Y1:aR G (λf=>av f aoX):=.cons ajO (aE _) iF
noncomputable def aCa:iG:={bQ with cO:=λf=>av f aoX}
end
namespace Sx
open Go
inductive fC:Type 1 where
 | ret (v:SV)
 | new (v:Nat->SV) (B:SB)
 | all (α:Type) (f:α->fC)
 | req (p:Prop) (a:fC)
 | fork (b:Bool) (f:Bool->fC)
def fC.vc (m:Mem)(nx:Nat)(K:SV->Mem->Nat->VC):fC->VC
 | .ret v=>K v m nx
 | .new v B=>K (v nx) ((nx,B)::m) (nx+1)
 | .all α f=>.all α λx=>(f x).vc m nx K
 | .req p a=>.imp p (a.vc m nx K)
 | .fork b f=>Sx.fork b λb=>(f b).vc m nx K
def fC.Ok:fC->Prop
 | .ret v=>v.wf 0=C
 | .new v B=>B.wf 0=C/\B.ro=D/\(∀ k,(v k).wf (k+1)=C)/\∀(E E':Nat->Nat) k k',(B.no=D->E k=E' k')->(v k).val E=(v k').val E'
 | .all _α f=>∀ x,(f x).Ok
 | .req _ a=>a.Ok
 | .fork _ f=>∀ b,(f b).Ok
mutual
def SV.key:SV->Option Nat
 | .ptr k _ _=>A k
 | .slc k _ _ _ _=>A k
 | .bY k _ _ _ _ _=>A k
 | .dr vs=>SV.keys vs
 | .agg vs=>SV.keys vs
 | .iface _ v=>v.key
 | _=>I
def SV.keys:List SV->Option Nat
 | []=>I
 | v::r=>match v.key with
   | some k=>A k
   | none=>SV.keys r
end
def fC.fit (v:SV)(m:Mem):fC->VC
 | .ret r=>.atom (ai v r)
 | .new r B=>(match v.key with
   | some k=>(match m.get k with
     | some X=>.and (leA X B) (svA v (r k))
     | none=>.fail "no block")
   | none=>.fail "no key")
 | .all α f=>.ex α λx=>(f x).fit v m
 | .req p a=>.and (.atom p) (a.fit v m)
 | .fork b f=>Sx.fork b λb=>(f b).fit v m
noncomputable def bZ (spec:List SV->Option (Prop×fC)):PT:=λargs m nx K=>match spec (args.map Re)with
 | some (p,a)=>.and (.atom p) (a.vc m nx K)
 | none=>.fail "arguments that nothing is said of"
theorem fC.Jz {K':SV->Mem->Nat->VC}(hK: ∀ v m nx,(K v m nx).holds->(K' v m nx).holds): ∀ {a:fC},(a.vc m nx K).holds->(a.vc m nx K').holds
 | .ret _,h=>hK _ _ _ h
 | .new _ _,h=>hK _ _ _ h
 | .all _ _,h=>λx=>fC.Jz hK (h x)
 | .req _ _,h=>λx=>fC.Jz hK (h x)
 | .fork _ _,h=>dY.2 (fC.Jz hK (dY.1 h))
theorem bK (spec:List SV->Option (Prop×fC)):bC (bZ spec):=by
 intro args m nx K K' hK h;unfold bZ at h ⊢;split at h
 ·exact⟨h.1,fC.Jz hK h.2⟩
 ·exact h
theorem cq.le {E:Nat->Nat}{X B:SB}{o:Obj}(h:aa X B)(hn:B.no=D)(hb:cq E X o):cq E B o:=(h.old hn).2.1 E o hb
theorem bp.new {Γ E m nx w}(h:bp Γ E m nx w)(hw:Mem.wf nx m=C){E1:Nat->Nat}{m1:Mem}{nx1:Nat}
  {gl gm} (h1:bp (b5.at w (λ_=>False) gl gm) E1 m1 nx1 w') {j:Nat} {X B:SB} (hX:m1.get j=A X) (hle:aa X B) (hw2:B.wf 0=C) (hr2:B.ro=D) :
  ∃ E',(∀ i,i<nx->E' i=E i)/\(B.no=D->E' nx=E1 j)/\bp Γ E' ((nx,B)::m) (nx+1) w':=by
 have hf:=h.still h1.ext;have hge: ∀ a,B.nc (E1 j) a->w.heap.size<=a:=λa ha=>by obtain⟨g1,_,g3⟩:=hle.2 _ a ha;exact(h1.rq j X a hX g1 (g3 hr2)).elim False.elim id
 refine⟨λi=>if i=nx then E1 j else E i,λi hi=>by simp[Nat.ne_of_lt hi],λ_=>by simp,?_⟩
 refine hf.axn hw (λ_ _ h=>h) (λa ha=>⟨?_,λ_=>.inr (Nat.le_trans h.ext.size (hge a ha)),λi X hi hX=> ?_⟩) (λ_ _ _ _ _=>rfl) hf.ext (λ_ _=>rfl)
 ·obtain⟨g1,g2,_⟩:=hle.2 _ a ha;obtain⟨o,ho,hb⟩:=h1.p7 j X a hX g1;exact⟨o,ho,(g2 E1 o hb).pure (SB.agl hw2 a)⟩
 ·have:=hge a ha;have:=h.glt hi hX;omega
theorem fC.told {Γ E m nx w}(h:bp Γ E m nx w)(hw:Mem.wf nx m=C){E1:Nat->Nat}{m1:Mem}{nx1:Nat}
  {gl gm} (h1:bp (b5.at w (λ_=>False) gl gm) E1 m1 nx1 w') {v:SV} : ∀ {a:fC},a.Ok->(a.fit v m1).holds->(a.vc m nx K).holds->cn (lift K) Γ E nx (v.val E1) w'
 | .ret r,hO,hf,hK=>⟨E,A r,m,nx,λ_ _=>rfl,Nat.le_refl _,λx hx=>by injection hx with hx;subst hx;have hf:ai v r:=hf;rw[hf E1];exact SV.Jy hO E1 E,h.still h1.ext,hK⟩
 | .new r B,hO,hf,hK=>by
   obtain⟨o1,o2,o3,o4⟩:=hO;simp only[fC.fit] at hf;split at hf
   ·rename_i k hk;split at hf
    ·rename_i X hX;obtain⟨f1,f2⟩:=hf;have f1:aa X B:=f1;have f2:ai v (r k):=f2;obtain⟨E',e1,e2,e3⟩:=bp.new h hw h1 hX f1 o1 o2;refine⟨E',A (r nx),_,nx+1,e1,Nat.le_succ _,λx hx=> ?_,e3,hK⟩;injection hx with hx;subst hx;rw[f2 E1];exact o4 E1 E' k nx λhb=>(e2 hb).symm
    ·exact hf.elim
   ·exact hf.elim
 | .all _ f,hO,⟨x,hx⟩,hK=>fC.told h hw h1 (hO x) hx (hK x)
 | .req _ a,hO,hf,hK=>fC.told (a:=a) h hw h1 hO hf.2 (hK hf.1)
 | .fork _ _,hO,hf,hK=>fC.told h hw h1 (hO _) (dY.1 hf) (dY.1 hK)
theorem ee (hf:P.funcs[f]?=A fn) (hn:(fn.name== "runtime.NumGoroutine")=D) (hb:fn.body.isSome=C) {n:Nat} {spec:List SV->Option (Prop×fC)}
  (h: ∀ args p a,spec args=A (p,a)->p->∃ cfg,Good P cfg/\SV.lY 0 args=C/\a.Ok/\au (lZ P (calling P cfg n) [] Ny (cfg.bU f) cfg.rounds fn args [] 0 (λv m _=>a.fit v m))):aq P f (bZ spec):=by
 intro args m nx K hk hwf hargs Γ E w hs;unfold bZ at hk;split at hk
 ·rename_i p a hr;obtain⟨hp,hk⟩:=hk;obtain⟨cfg,hg,h1,h2,h3⟩:=h _ _ _ hr hp;have hc:=kC hg hf hn hb h3 rfl h1 (bp.none w hs.adj);rw[SV.EW h1 (λ_=>0) E,Bi] at hc;refine mY hf hn hb (hc.mono ?_);rintro e w' ⟨v,rfl,E',sv,m',nx',_,_,g3,g4,g5⟩;refine⟨v,rfl,?_⟩;cases sv with
  | none=>exact g5.elim
  | some u=>rw[g3 u rfl];exact fC.told hs hwf g4 h2 g5 hk
 ·exact hk.elim
theorem SV.kS : ∀ {a b:List SV},SV.lY nx a=C->SV.lY nx b=C->SV.lY nx (a++b)=C
 | [],_,_,h=>h
 | x::a,b,h,h'=>by simp only[SV.lY,an] at h;simp only[c7,SV.lY,an];exact⟨h.1,SV.kS h.2 h'⟩
end Sx
section
open Go Sx
set_option maxRecDepth 20000
def num (l:h_):Int:=l.foldl (λa b=>a*256+(b.toNat:Int)) 0
def part (s:h_)(i:Int):Int:=num ((s.drop 1).take (i-1).toNat)
def zu (s:h_)(to:Int):Bool:=N (to<=s.length)&& !decide (ah s 1=0)&&N (part s to<=1048576)&&N (55<part s to)
noncomputable def axZ (s:h_)(to:Int):aN :={α:=Int,pre:=λ_ i=>1<=i/\i<=to/\part s i<=1048576,nF:=λ_ i=>(to-i).toNat,fresh:=0,slots:=λ_ i=>[(6,.int .i64 D (part s i)),(7,.int .i64 D i)],mem:=λ_ _=>[]}
noncomputable def ayf (s:h_)(to:Int):iG:={aCa with bU:=λf=>if f=216 then [(7,always (axZ s to))] else []}
noncomputable def jd (cfg:iG)(f:Nat)(fn:Func)(args:List SV)(a:fC):VC:=lZ G (calling G cfg 20) [] Ny (cfg.bU f) cfg.rounds fn args [] 0 (λv m _=>a.fit v m)
def ade (z:List SV):fC:=.all Int λat'=>.new (λk=>.dr (z++[.iface 290 (.ptr k C 0)])) (.cells [.int .i64 D at',.iface 30 (.int .i64 C 2)] 2 292)
def VZ (s:h_)(to:Int):fC:=.fork (zu s to) λb=>match b with
 | true=>.ret (.dr [.int .i64 D (part s to),.cj])
 | false=>ade [.int .i64 C 0]
section
variable (n m : Nat) (s : h_) (a b : Int) (p q r P Q : Prop) (v w : SV) (B : SB) (x : List SV) (y : TypeId)
abbrev bx:=NI (List.length s)
abbrev bB:=bx s
abbrev eC:List SV:=[v,w]
abbrev bF:=SV.int IntKind.i64 D a
abbrev bq:=SV.int IntKind.i64 C a
abbrev M4:=SB.cells (eC (bF a) (SV.iface 30 (bq 2))) 2 292
abbrev ak5:List SV:=[SV.iface 30 (bq 2)]
abbrev kI:=bq 1
abbrev rK:=SV.ptr n C m
abbrev Fy:List SV:=[SV.iface 290 (rK 0 0)]
abbrev cP:=SV.dr (v::w::x)
abbrev PS:=cP (bF (part s a)) SV.cj V
abbrev PU:List SV:=[SV.iface 290 (rK (0+0) 0)]
abbrev aj:=p/\q/\r
abbrev ahE:=aj (1<=a) (a<=b) (part s a<=1048576)
abbrev qd:List SV:=[bq 0]
abbrev bH:=aa (SB.cells x n y) B
abbrev Uc:=bH 2 (M4 a) (kI::ak5) 292
abbrev aC:=aj p q (aj r P Q)
abbrev fQ:=a<=9223372036854775807
abbrev az:=p/\aj q r P
abbrev cU:=SV.dr (v::x)
abbrev bE:=Fk (a=b) p q
abbrev dK:=I6 (a+b)
abbrev mu:=bl a<n
abbrev dM:=Fk (a<=b) p q
abbrev dD:=dK a 1
abbrev cM:=az (p/\q) r P Q
abbrev bt:=a+1=b
abbrev gK:=az p q r True
abbrev jk:=dD a/\p
end
theorem atb (s:h_)(to:Int):VC.holds (jd (ayf s to) 216 bf [.str D s,.int .i64 D to] (VZ s to))=(aM (bB s) to (Bk (zu s to) (ai (cU (bq 0) Fy) (PS s to)) (∃(a:Int),bH 2 (M4 a) (bF (bB s)::ak5) 292/\ai (cU (bq 0) Fy) (SV.dr (qd++Fy)))) (Ix 1 (bB s)/\bE (ah s 1) 0 (Bk (zu s to) (ai (cU (bq 0) Fy) (PS s to)) (∃(a:Int),Uc a/\ai (cU (bq 0) Fy) (SV.dr (qd++Fy)))) ((∃(a:Int),gK (ahE s a to) (0=part s a) (1=a))/\(∀(a:Int),ahE s a to->aM a to (aC (I6 (part s a*256)) (Ix a (bB s)) (I6 (ah s a)) (az (0<=part s a*256) (fQ (part s a*256)) (0<=ah s a) (fQ (ah s a))) (aM 1048576 (bitsOf BinOp.or (part s a*256) (ah s a)) (Bk (zu s to) (ai (cU (bq 0) PU) (PS s to)) (∃(b:Int),aa (M4 a) (M4 b)/\ai (cU (bq 0) PU) (SV.dr (qd++PU)))) (jk a (∃(b:Int),cM (ahE s b to) (mu (bl (to-a)) (to-b)) (bitsOf BinOp.or (part s a*256) (ah s a)=part s b) (bt a b) True)))) (dM (part s a) 55 (Bk (zu s to) (ai (cU (bq 0) PU) (PS s to)) (∃(a:Int),Uc a/\ai (cU (bq 0) PU) (SV.dr (qd++PU)))) (Bk (zu s to) (ai (PS s a) (PS s to)) (∃(_:Int),False))))))):=by kernel_rfl
theorem e8 (s:h_)(i:Int):0<=ah s i/\ah s i<256:=by unfold ah;have:=(s.getD i.toNat 0).toNat_lt;omega
theorem zC (l:h_)(b:UInt8):num (l++[b])=num l*256+(b.toNat:Int):=by simp[num]
theorem ZO (s:h_):part s 1=0:=by simp[part,num]
theorem Tr {x:Int}(h:1<=x)(h2:x<s.length):part s (x+1)=part s x*256+ah s x:=by
 unfold part;have e:(x+1-1).toNat=(x-1).toNat+1:=by omega
 have hx:(x-1).toNat<(s.drop 1).length:=by simp;omega
 rw[e,List.take_add_one,bn hx];simp only[Option.toList,zC];have e2:ah s x=((s.drop 1)[(x-1).toNat].toNat:Int):=by
  have:1+(x-1).toNat=x.toNat:=by omega
  unfold ah;rw[List.getElem_drop,List.getD_eq_getElem?_getD,bn (by omega)];simp only[Option.getD_some,this]
 rw[e2]
theorem AW (s:h_)(x:Int):0<=part s x:=by
 unfold part num;suffices ∀(l:h_) (a:Int),0<=a->0<=l.foldl (λa b=>a*256+(b.toNat:Int)) a from this _ _ (Int.le_refl _)
 intro l;induction l with
 | nil=>exact λ_ h=>h
 | cons b r ih=>intro a h;exact ih _ (show 0<=a*256+(b.toNat:Int)by omega)
theorem Tq {s:h_}{x:Int}(h:1<=x): ∀(n:Nat),x+n<=s.length->part s x<=part s (x+n)
 | 0,_=>by simp
 | n+1,hn=>by
   have h1:=Tq (s:=s) h n (by omega);have h2:=Tr (s:=s) (x:=x+n) (by omega) (by omega);have h3:=e8 s (x+n);have h4:=AW s (x+n);have:x+((n+1:Nat):Int)=x+n+1:=by omega
   rw[this,h2];omega
theorem avo {x y:Int}(h:1<=x)(hy:y<=s.length)(hxy:x<=y):part s x<=part s y:=by
 have:=Tq (s:=s) h (y-x).toNat (by omega)
 rwa [show x+((y-x).toNat:Int)=y by omega] at this
theorem apT {a b:Int}(ha:0<=a)(hb:0<=b)(hb2:b<256):bitsOf .or (a*256) b=a*256+b:=by
 obtain⟨a,rfl⟩:=c6 ha;obtain⟨b,rfl⟩:=c6 hb;have:((a:Int)*256)=((a*256:Nat):Int):=by omega
 rw[this];show((((a*256:Nat):Int).toNat ||| (b:Int).toNat:Nat):Int)=_;simp only[Int.toNat_natCast];have:=Nat.two_pow_add_eq_or_of_lt (i:=8) (b:=b) (by omega) a;rw[show(2:Nat)^8=256 from rfl,Nat.mul_comm] at this
 omega
theorem n6 {to:Int}:zu s to=C↔to<=s.length/\ah s 1≠0/\part s to<=1048576/\55<part s to:=by simp[zu,and_assoc]
theorem V0 {to:Int}(h2:2<=to)(h3:to<100):au (jd (ayf s to) 216 bf [.str D s,.int .i64 D to] (VZ s to)):=by
 refine au.j7 (atb s to) (by delta Fk Bk I6 Ix NI aM bx bB eC bF bq M4 ak5 kI rK Fy cP PS PU aj ahE qd bH Uc aC fQ az cU bE dK mu dM dD cM bt gK jk;exact rfl) ?_;have F: ∀ {p:Prop},¬ (to<=s.length/\ah s 1≠0/\part s to<=1048576/\55<part s to)->zu s to=C->p:=λh e=>absurd (n6.1 e) h;refine⟨λa=>⟨F (by simp at a;omega),λ_=>by(first | exact⟨_,aa.cells (λ_=>rfl) rfl,λ_=>rfl⟩ | exact λ_=>rfl | trivial)⟩,λa=> ?_⟩
 simp only[n_,Int.not_lt] at a;refine⟨by omega,λb=>⟨F (by simp at b;simp[b]),λ_=>by(first | exact⟨_,aa.cells (λ_=>rfl) rfl,λ_=>rfl⟩ | exact λ_=>rfl | trivial)⟩,λb=> ?_⟩
 simp only[n_] at b;refine⟨⟨1,⟨by omega,by omega,by rw[ZO];decide⟩,(ZO s).symm,rfl,trivial⟩,λx ⟨hx1,hx2,hx3⟩=> ?_⟩;have g1:=AW s x;have g2:=e8 s x;rw[apT g1 g2.1 g2.2];refine⟨λc=> ?_,λc=> ?_⟩
 ·simp only[m_] at c;have g3:=Tr (s:=s) hx1 (by omega);rw[← g3];refine⟨by omega,by omega,by omega,by omega,λd=>⟨F ?_,λ_=>by(first | exact⟨_,aa.cells (λ_=>rfl) rfl,λ_=>rfl⟩ | exact λ_=>rfl | trivial)⟩,λd=>⟨by omega,x+1,⟨⟨by omega,by omega,by simpa using d⟩,by omega⟩,rfl,rfl,trivial⟩⟩
  simp only[m_] at d;have:=avo (s:=s) (x:=x+1) (by omega) a (by omega);omega
 ·simp only[n_] at c;obtain rfl:x=to:=by omega
  refine⟨λd=>⟨F (by simp at d;omega),λ_=>by(first | exact⟨_,aa.cells (λ_=>rfl) rfl,λ_=>rfl⟩ | exact λ_=>rfl | trivial)⟩,λd=>⟨λ_=>by(first | exact⟨_,aa.cells (λ_=>rfl) rfl,λ_=>rfl⟩ | exact λ_=>rfl | trivial),λe=> ?_⟩⟩
  simp only[n_] at d;rw[n6.2 ⟨a,b,hx3,by omega⟩] at e;cases e
def OW:List SV->Option (Prop×fC)
 | [.str D s,.int .i64 D to]=>A (2<=to/\to<100,VZ s to)
 | _=>I
noncomputable def Y0:PT:=bZ OW
theorem aBj (s:h_)(to:Int):Sx.Good G (ayf s to):=.of bI Y1 aO
theorem Sm {z:List SV}(hz:SV.lY 0 z=C):(ade z).Ok:=by
 intro x;refine⟨rfl,rfl,λk=>SV.kS (SV.qj (Nat.zero_le _) z hz) ?_,λE E' k k' h=> ?_⟩
 ·simp[SV.lY,SV.wf,Nat.blt_eq]
 ·have hk:E k=E' k':=h rfl;have hv:=SV.EW hz E E';simp only[SV.cF] at hv;simp[SV.val,SV.cF,hk,hv]
theorem aka:aq G 216 Y0:=by
 refine ee (n:=20) Tryz.func216 (by kernel_rfl) (by kernel_rfl) ?_;intro args p a h hp;unfold OW at h;split at h
 ·rename_i s to;injection h with h;injection h with h1 h2;subst h1;subst h2;refine⟨_,aBj s to,rfl,λb=> ?_,V0 hp.1 hp.2⟩;cases b
  ·exact Sm rfl
  ·exact rfl
 ·cases h
noncomputable def aoY:List (FuncId×PT):=(216,Y0)::aoX
theorem Y2:aR G (λf=>av f aoY):=.cons aka (bK _) Y1
noncomputable def amQ:iG:={bQ with cO:=λf=>av f aoY}
theorem aw9:Sx.Good G amQ:=.of bI Y2 aO
def lead (s:h_):Int:=if ah s 0<192 then ah s 0-128 else ah s 0-192
def cutFrom (s:h_):Int:=if ah s 0<128 then 0 else if 55<lead s then lead s-54 else 1
def nh (s:h_):Int:=if ah s 0<128 then 1 else if 55<lead s then part s (lead s-54)else lead s
def c9 (s:h_):Bool:=N (s≠[])&&(N (ah s 0<128)||((!decide (55<lead s)||zu s (lead s-54))&&N (nh s<=s.length-cutFrom s)&& !(N (ah s 0<192)&&N (lead s=1)&&N (ah s 1<128))))
def e9 (s:h_):Bool:=N (192<=ah s 0)
def af (s:h_):h_:=(s.drop (cutFrom s).toNat).take (nh s).toNat
def aH (s:h_):h_:=s.drop (cutFrom s+nh s).toNat
def ayh (s:h_):fC:=.fork (c9 s) λb=>match b with
 | true=>.ret (.dr [.bool D (e9 s),.str D (af s),.str D (aH s),.cj])
 | false=>ade [.bool C D,.str C [],.str C []]
section
variable (n : Nat) (s t : h_) (a b c : Int) (p q : Prop) (v w z : SV) (B : SB) (x : Bool) (y : List SV) (o : TypeId) (f g : Option Operand) (h : Tmp)
abbrev aA:=SV.str D s
abbrev i7:=a%18446744073709551616
abbrev yD:=Ix a 18446744073709551616
abbrev kJ:=aA (cat s t)
abbrev lU:=fQ (NI n+a)
abbrev fR:=SV.bool C D
abbrev KV:=1+dQ (ah s 0-128)
abbrev Bz:=ah s 0-128
abbrev zG:=1+dQ (ah s 0-192)
abbrev Dc:=ah s 0-192
abbrev rM:=ah s 0
abbrev BA:=A (Operand.const (Value.int IntKind.i64 1))
abbrev PW:List SV:=[SV.cj]
abbrev FA:=D&&D&&D
abbrev uk:=(0:Int)<=1
abbrev nT:=(0:Int)<=0
abbrev Iz:=KV s-55+part s (KV s-55)
abbrev BO:=KV s-55
abbrev II:=zG s-55+part s (zG s-55)
abbrev Dx:=zG s-55
abbrev uv:=gO&&D
abbrev gJ:=a<=bB s
abbrev dU:=aj (0<=a) p q
abbrev aq7:=aC (I6 (KV s)) (aj uk (1<=KV s) (gJ s (KV s))) (I6 (KV s)) (dU (KV s) (gJ s (KV s)) (gJ s (bB s))) (Bk (c9 s) (ai v w) (∃(_:Int),False))
abbrev aaO:=Bk (c9 s) (ai v w) (∃(a:Int),aa B (M4 a)/\ai v z)
abbrev IT:=bT s BA I 1 (bB s)
abbrev vl:=Ix 0 (bB s)
abbrev Mw:=eC fu fu
abbrev kM:=dU a (b<=c) p
abbrev arC:=aC (I6 (Iz s)) (kM (BO s) (BO s) (Iz s) (gJ s (Iz s))) (I6 (Iz s)) (dU (Iz s) (gJ s (Iz s)) (gJ s (bB s))) (Bk (c9 s) (ai v w) (∃(_:Int),False))
abbrev Qp:=aj uk (gJ s 1) (gJ s (bB s))
abbrev cc:=A (Operand.tmp h)
abbrev gb:=SV.bool D x
abbrev eY:=SB.cells (v::y) n o
abbrev cJ:=N (a=b)
abbrev oo:=SV.str x (bT s f g a b)
abbrev ja:=Fk (s=[]) p q
abbrev iJ:=I6 (a-b)
abbrev tj:=SV.bool (C&&C) x
abbrev m5:=cU v (w::z::y)
end
theorem aAn (base n:Int)(R:SV->Prop):VC.holds (eS amQ 115 Tryz.f115 [.int .u8 D base,.int .i64 D n] R)=(dM n 55 (R (SV.str gO (fq (base+dQ n)))) (aj (yD (i7 n)) (lU 1 (bx (digits (i7 n)))) (R (kJ (fq (dQ (base+55)+dQ (bx (digits (i7 n))))) (digits (i7 n)))))):=by kernel_rfl
theorem aBK (s:h_):VC.holds (jd amQ 198 Tryz.f198 [.str D s] (ayh s))=((fun(a:SV)=>(fun(b:SV)=>(fun(c:SV)=>(fun(d:SV)=>(fun(e:SV)=>(fun(f:SB)=>ja s (Bk (c9 s) (ai a b) (∃(b:Int),bH 2 (M4 b) (bq 0::ak5) 292/\ai a c)) (vl s/\aM (rM s) 128 (aj (aj nT uk (gJ s 1)) (Qp s) (Bk (c9 s) (ai (m5 fR (oo s 0 1 (gO&&C) I BA) (SV.str uv (IT s)) PW) b) (∃(_:Int),False))) (vl s/\aM (rM s) 192 (aj (vl s) (I6 (dQ (Bz s))) (aM 55 (dQ (Bz s)) (az (I6 (KV s)) (I6 (BO s)) (2<=BO s/\BO s<100) (Bk (zu s (BO s)) (iJ (bB s) (BO s)/\aM (bB s-BO s) (part s (BO s)) (aaO s a b c f) (bE (part s (BO s)) 1 (Ix 1 (bB s)/\aM (ah s 1) 128 (Bk (c9 s) (ai a b) (∃(b:Int),Uc b/\ai a c)) (arC s d b)) (arC s d b))) (∀(d:Int),Bk (c9 s) (ai a b) (∃(b:Int),aa (M4 d) (M4 b)/\ai a c)))) (iJ (bB s) 1/\aM (bB s-1) (dQ (Bz s)) (aaO s a b c f) (bE (dQ (Bz s)) 1 (Ix 1 (bB s)/\aM (ah s 1) 128 (Bk (c9 s) (ai a b) (∃(b:Int),Uc b/\ai a c)) (aq7 s e b)) (aq7 s e b))))) (aj (vl s) (I6 (dQ (Dc s))) (aM 55 (dQ (Dc s)) (az (I6 (zG s)) (I6 (Dx s)) (2<=Dx s/\Dx s<100) (Bk (zu s (Dx s)) (iJ (bB s) (Dx s)/\aM (bB s-Dx s) (part s (Dx s)) (aaO s a b c f) (aC (I6 (II s)) (kM (Dx s) (Dx s) (II s) (gJ s (II s))) (I6 (II s)) (dU (II s) (gJ s (II s)) (gJ s (bB s))) (Bk (c9 s) (ai (m5 (tj (N (Er (192:Int)))) (oo s (Dx s) (II s) FA (cc 70) (cc 73)) (oo s (II s) (bB s) FA (cc 78) I) PW) b) (∃(_:Int),False)))) (∀(d:Int),Bk (c9 s) (ai a b) (∃(b:Int),aa (M4 d) (M4 b)/\ai a c)))) (iJ (bB s) 1/\aM (bB s-1) (dQ (Dc s)) (aaO s a b c f) (aC (I6 (zG s)) (aj uk (1<=zG s) (gJ s (zG s))) (I6 (zG s)) (dU (zG s) (gJ s (zG s)) (gJ s (bB s))) (Bk (c9 s) (ai (m5 (tj (N (Er (192:Int)))) (oo s 1 (zG s) uv (cc 70) (cc 73)) (oo s (zG s) (bB s) FA (cc 78) I) PW) b) (∃(_:Int),False))))))))) (eY 2 (bF (bB s)) ak5 292)) (m5 (tj (cJ 128 192)) (oo s 1 (KV s) uv (cc 70) (cc 73)) (oo s (KV s) (bB s) FA (cc 78) I) PW)) (m5 (tj (cJ 128 192)) (oo s (BO s) (Iz s) FA (cc 70) (cc 73)) (oo s (Iz s) (bB s) FA (cc 78) I) PW)) (SV.dr (fR::Mw++Fy))) (m5 (gb (e9 s)) (aA (af s)) (aA (aH s)) PW)) (m5 fR fu fu Fy)):=by kernel_rfl
end
end Go.Proofs.YtoibaecagklkaaaGreatDoor
