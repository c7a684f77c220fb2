/-
  The framework's part 7a: maps: what is found under a key.
-/
import Derived.Test.YtpaaiebohjjieaaGreatDoorMb
namespace Go.Proofs.YtpaaiebohjjieaaGreatDoor.Sx
open Go
noncomputable section
def YS:SV->SV->Option (Bool×Bool)
 | .str l s,.str l' s'=>some (l&&l',decide (s=s'))
 | .int k l a,.int k' l' b=>if k=k' then some (l&&l',decide (a=b))else none
 | .bool l a,.bool l' b=>some (l&&l',decide (a=b))
 | _,_=>none
def zX:TypeDesc->SV->Bool
 | .string,.str .. =>true
 | .int k,.int k' .. =>decide (k'=k)
 | .bool,.bool .. =>true
 | _,_=>false
theorem qG {d:TypeDesc}{v:SV}(h:zX d v=true)(E:Nat->Nat):MapKept.IsKey d (v.val E):=by
 unfold zX at h;split at h
 ·trivial
 ·have h:=of_decide_eq_true h;exact h
 ·trivial
 ·cases h
theorem Wr {d:TypeDesc}{a b:SV}{l e:Bool}(ha:zX d a=true)(hb:zX d b=true)(h:YS a b=some (l,e))(E:Nat->Nat) :
  Instr.sameNow d (a.val E) (b.val E)=some e/\(e=true->a.val E=b.val E):=by
 obtain⟨r,h1,h2⟩:=MapKept.sameNow_of_keys (qG ha E) (qG hb E);have he:e=true↔a.val E=b.val E:=by
  unfold YS at h;split at h
  ·injection h with h;injection h with _ h;subst h;simp only[decide_eq_true_eq,SV.val,Value.string.injEq];constructor
   ·intro h;rw[h]
   ·intro h;have:=congrArg ByteArray.data h;simpa using this
  ·split at h
   ·rename_i hk;injection h with h;injection h with _ h;subst h;subst hk;simp[SV.val]
   ·cases h
  ·injection h with h;injection h with _ h;subst h;simp[SV.val]
  ·cases h
 rw[h1];refine⟨?_,he.1⟩;congr 1;cases r<;>cases e<;>simp_all
abbrev Hit:=Option (Nat×(Nat×SV×SV))
def jq (d:TypeDesc)(k:SV)(t:Hit->VC):List (Nat×SV×SV)->Nat->VC
 | [],_=>t none
 | e::r,i=>match zX d e.2.1,YS k e.2.1 with
   | true,some (true,b)=>(match b with
     | true=>t (some (i,e))
     | false=>jq d k t r (i+1))
   | true,some (false,b)=>fork b fun b=>(match b with
     | true=>t (some (i,e))
     | false=>jq d k t r (i+1))
   | _,_=>.fail "map: keys"
theorem pE {d:TypeDesc}{k:SV}(hk:zX d k=true): ∀(es:List (Nat×SV×SV)) (i:Nat),∃(obl:Prop) (r:Hit),(∀ t,(jq d k t es i).holds↔obl/\(t r).holds) /\
  (obl->(∀ E,Instr.findNow d (k.val E) (cu E es) i=some (r.map fun x=>(x.1,x.2.2.2.val E)))/\∀ j e,r=some (j,e)->i<=j/\es[j - i]?=some e/\∀ E,e.2.1.val E=k.val E)
 | [],i=>⟨True,none,fun t=>⟨fun h=>⟨trivial,h⟩,fun h=>h.2⟩,fun _=>⟨fun _=>rfl,fun _ _ h=>by cases h⟩⟩
 | e::r,i=>by
   obtain⟨obl,x,h1,h2⟩:=pE hk r (i+1)
   have fl: ∀ why:String,∃(obl:Prop) (r':Hit),(∀ t:Hit->VC,(VC.fail why).holds↔obl/\(t r').holds) /\
     (obl->(∀ E,Instr.findNow d (k.val E) (cu E (e::r)) i=some (r'.map fun x=>(x.1,x.2.2.2.val E)))/\∀ j e',r'=some (j,e')->i<=j/\(e::r)[j - i]?=some e'/\∀ E,e'.2.1.val E=k.val E) :=
    fun why=>⟨False,none,fun t=>⟨fun h=>h.elim,fun h=>h.1.elim⟩,fun h=>h.elim⟩
   cases hd:zX d e.2.1 with
   | false=>simp only[jq,hd];exact fl _
   | true =>
     cases he:YS k e.2.1 with
     | none=>simp only[jq,hd,he];exact fl _
     | some q =>
       obtain⟨l,b⟩:=q;have key:=fun E=>Wr hk hd he E
       have fnd: ∀ E,Instr.findNow d (k.val E) (cu E (e::r)) i=(match b with
         | true=>some (some (i,e.2.2.val E))
         | false=>Instr.findNow d (k.val E) (cu E r) (i+1)):=fun E=>by
        show Instr.findNow d (k.val E) ({key:=e.2.1.val E,val:=e.2.2.val E,born:=e.1}::cu E r) i=_;rw[Instr.findNow];simp only[(key E).1];cases b<;>rfl
       have main: ∃(obl:Prop) (r':Hit),(∀ t:Hit->VC,(match b with | true=>t (some (i,e)) | false=>jq d k t r (i+1)).holds↔obl/\(t r').holds) /\
         (obl->(∀ E,Instr.findNow d (k.val E) (cu E (e::r)) i=some (r'.map fun x=>(x.1,x.2.2.2.val E)))/\∀ j e',r'=some (j,e')->i<=j/\(e::r)[j - i]?=some e'/\∀ E,e'.2.1.val E=k.val E):=by
        cases b with
        | true =>refine⟨True,some (i,e),fun t=>⟨fun h=>⟨trivial,h⟩,fun h=>h.2⟩,fun _=>⟨fun E=>by rw[fnd E];rfl,fun j e' h=> ?_⟩⟩;injection h with h;injection h with h3 h4;subst h3;subst h4;exact⟨Nat.le_refl _,by simp,fun E=>((key E).2 rfl).symm⟩
        | false =>refine⟨obl,x,h1,fun ho=>⟨fun E=>by rw[fnd E];exact(h2 ho).1 E,fun j e' h=> ?_⟩⟩;obtain⟨g1,g2,g3⟩:=(h2 ho).2 j e' h;refine⟨by omega,?_,g3⟩;rw[show j - i=(j - (i+1))+1 by omega];simpa using g2
       cases l with
       | true=>simp only[jq,hd,he];exact main
       | false =>simp only[jq,hd,he];obtain⟨obl',r',m1,m2⟩:=main;refine⟨obl',r',fun t=> ?_,m2⟩;rw[dx];exact m1 t
def vE (ok:Bool)(z:SV):Hit->SV
 | some (_,e)=>(match ok with
   | true=>.bL [e.2.2,.bool true true]
   | false=>e.2.2)
 | none=>(match ok with
   | true=>.bL [z,.bool true false]
   | false=>z)
def HC (ok:Bool)(key a:Nat)(b:Bool):SV:=match ok,b with
 | true,true=>.bL [.iq key a 0,.bool true true]
 | true,false=>.bL [.cc,.bool true false]
 | false,true=>.iq key a 0
 | false,false=>.cc
def YW (d:TypeDesc)(k:SV)(ok:Bool)(z:SV)(es:List (Nat×SV×SV))(K:Option SV->VC):VC:=jq d k (fun r=>K (some (vE ok z r))) es 0
def HE (P:Program)(look:qA)(t:TypeId)(x k:SV)(ok:Bool)(K:Option SV->VC):VC :=
 match P.underlying t with
 | some (.map kt et)=>(match P.underlying kt,i6 P et with
   | some d,some z=>(match zX d k,x with
     | true,.iy=>K (some (vE ok z none))
     | true,.map key=>(match look key with
       | some (.map es _)=>YW d k ok z es K
       | some (.fmap f c _)=>(match d,k with
         | .string,.str _ s=>(match c.look (f s) s z with
           | some v=>K (some (match ok with
             | true=>.bL [v,.bool false (f s)]
             | false=>v))
           | none=>(match c,z with
             | .ref key' g,.cc=>fork (f s) fun b=>K (some (HC ok key' (g s) b))
             | _,_=>.fail "lookup: what a map holds"))
         | _,_=>.fail "lookup: a key")
       | _=>.fail "lookup: no map")
     | _,_=>.fail "lookup")
   | _,_=>.fail "lookup: types")
 | _=>.fail "lookup: no map type"
section
variable {P : Program} {look : qA} {σ : Operand -> Option SV}
theorem aM.apV {s:(Operand->Value)->Sem Value}{b:Bool}{f:Bool->SV}(h:aM P look σ s (fun K=>K (some (f b)))):aM P look σ s (fun K=>Sx.fork b fun c=>K (some (f c))):=by obtain⟨obl,sv,h1,h2⟩:=h;exact⟨obl,sv,fun K=>by rw[dx];exact h1 K,h2⟩
theorem Ws {t kt et:TypeId}{d:TypeDesc}{z:SV}{x k:Operand}{ok:Bool}{b:SV}{key:Nat}{es:List (Nat×SV×SV)}{clock:Nat}(ht:P.underlying t=some (.map kt et))(hd:P.underlying kt=some d)(hz:i6 P et=some z)(hkd:zX d b=true)(hl:look key=some (.map es clock))(hx:σ x=some (.map key))(hk:σ k=some b) :
  aM P look σ (fun ρ=>Instr.lookup t (ρ x) (ρ k) ok) (YW d b ok z es):=by
 obtain⟨obl,r,h1,h2⟩:=pE hkd es 0;refine⟨obl,some (vE ok z r),fun K=>h1 _,fun E w ρ hc hr ho=> ?_⟩;obtain⟨ob,hob,hb⟩:=hc.1 key _ hl rfl;have hb:ob=.map (cu E es).toArray clock:=hb;subst hb;have hf:=(h2 ho).1 E;have hf':Instr.findNow d (b.val E) (cu E es).toArray.toList 0=_:=hf;refine⟨(vE ok z r).val E,?_,fun v hv=>by injection hv with hv;rw[← hv]⟩;simp only[Instr.lookup,hr x _ hx,hr k _ hk,Sem.run_bind,az ht,Result.andThen_ok,SV.val,Sem.run_pure,MapKept.run_getObj_map hob,MapKept.run_checkKey hd (qG hkd E) _ 9999,Instr.findKey,az hd,hf'];cases r with
 | none=>cases ok<;>simp[eN (E:=E) hz,vE,SV.val,SV.vals]
 | some q=>cases ok<;>simp[vE,SV.val,SV.vals]
theorem Xo {t:TypeId}{x k:Operand}{ok:Bool}{a b:SV}(hx:σ x=some a)(hk:σ k=some b) :
  aM P look σ (fun ρ=>Instr.lookup t (ρ x) (ρ k) ok) (HE P look t a b ok):=by
 unfold HE;split
 ·rename_i kt et ht;split
  ·rename_i d z hd hz;split
   ·rename_i hkd;refine aM.v _ fun E w ρ hc hr=> ?_;simp only[Instr.lookup,hr x _ hx,hr k _ hk,Sem.run_bind,az ht,Result.andThen_ok,SV.val,Sem.run_pure];cases ok<;>simp[Instr.findKey,az hd,Instr.findNow,eN (E:=E) hz,vE,SV.val,SV.vals,MapKept.run_checkKey hd (qG hkd E)]
   ·rename_i key hkd;split
    ·rename_i es clock hl;exact Ws ht hd hz hkd hl hx hk
    ·rename_i f c pend hl;split
     ·rename_i lt s;split
      ·rename_i v hv;refine aM.k _ fun E w ρ hc hr=> ?_;obtain⟨ob,hob,es,clock,rfl,hfm⟩:=hc.1 key _ hl rfl;have hlv:=fD.SU hv E
       refine⟨match ok with
        | true=>.tuple #[v.val E,.bool (f s)]
        | false=>v.val E,?_,fun u hu=>by injection hu with hu;subst hu;cases ok<;>rfl⟩
       simp only[Instr.lookup,hr x _ hx,hr k _ hk,Sem.run_bind,az ht,Result.andThen_ok,SV.val,Sem.run_pure,MapKept.run_getObj_map hob,MapKept.run_checkKey (k:=.string ⟨s.toArray⟩) hd trivial _ 9999,Instr.findKey,az hd];rcases hfm.find s with ⟨h1,h2,_⟩ | ⟨h1,j,e,h2,_⟩
       ·have h2':Instr.findNow .string (.string ⟨s.toArray⟩) es.toList 0=_:=h2;rw[h1] at hlv ⊢;simp only[h2',Sem.run_pure,Result.andThen_ok,Sem.run_bind,eN (E:=E) hz,hlv];cases ok<;>simp
       ·have h2':Instr.findNow .string (.string ⟨s.toArray⟩) es.toList 0=_:=h2;rw[h1] at hlv ⊢;simp only[h2',Sem.run_pure,Result.andThen_ok,Sem.run_bind,hlv];cases ok<;>simp
      ·split
       ·rename_i key' g _;refine aM.apV ?_;refine aM.k _ fun E w ρ hc hr=> ?_;obtain⟨ob,hob,es,clock,rfl,hfm⟩:=hc.1 key _ hl rfl;refine⟨(HC ok key' (g s) (f s)).val E,?_,fun u hu=>by injection hu with hu;subst hu;rfl⟩;simp only[Instr.lookup,hr x _ hx,hr k _ hk,Sem.run_bind,az ht,Result.andThen_ok,SV.val,Sem.run_pure,MapKept.run_getObj_map hob,MapKept.run_checkKey (k:=.string ⟨s.toArray⟩) hd trivial _ 9999,Instr.findKey,az hd];rcases hfm.find s with ⟨h1,h2,_⟩ | ⟨h1,j,e,h2,_⟩
        ·have h2':Instr.findNow .string (.string ⟨s.toArray⟩) es.toList 0=_:=h2;rw[h1];simp only[h2',Sem.run_pure,Result.andThen_ok,Sem.run_bind,eN (E:=E) hz];cases ok<;>simp[HC,SV.val,SV.vals]
        ·have h2':Instr.findNow .string (.string ⟨s.toArray⟩) es.toList 0=_:=h2;rw[h1];simp only[h2',Sem.run_pure,Result.andThen_ok,Sem.run_bind];cases ok<;>simp[HC,SV.val,SV.vals,fD.val]
       ·exact aM.fail _
     ·exact aM.fail _
    ·exact aM.fail _
   ·exact aM.fail _
  ·exact aM.fail _
 ·exact aM.fail _
end
def bytesOf:List SV->Option (Bool×List UInt8)
 | []=>some (true,[])
 | .int .u8 l v::r=>(match bytesOf r with
   | some (l',bs)=>some (l&&l',UInt8.ofNat v.toNat::bs)
   | none=>none)
 | _=>none
def Hw (P:Program)(t:TypeId):Bool:=match P.underlying t with
 | some (.slice e)=>(match P.underlying e with
   | some (.int .u8)=>true
   | _=>false)
 | _=>false
def eP (f:Nat->Int)(i n:Nat):List UInt8:=(List.range n).map fun j=>UInt8.ofNat (f (i+j)).toNat
theorem B9 (g:Nat->Int): ∀ l:List Nat,∃ lt,bytesOf (l.map fun j=>SV.int .u8 false (g j))=some (lt,l.map fun j=>UInt8.ofNat (g j).toNat)
 | []=>⟨true,rfl⟩
 | a::r=>by obtain⟨lt,h⟩:=B9 g r;simp_all [Sx.bytesOf]
def Xl (look:qA)(a:SV)(K:Option SV->VC):VC:=match a with
 | .aO=>K (some (.str true []))
 | .slc key o n _ _=>(match look key with
   | some (.cells cs _ _)=>(match jQ cs o n with
     | some l=>(match bytesOf l with
       | some (l',bs)=>K (some (.str l' bs))
       | none=>.fail "convert: bytes that are not known")
     | none=>.fail "convert: a slice out of its block")
   | _=>.fail "convert: the block")
 | .bI key 1 false i n _=>(match look key with
   | some (.rows false nb [.int .u8 f] _ _ _)=>.and (.atom (i+n<=nb)) (K (some (.str false (eP f i n))))
   | _=>.fail "convert: the block")
 | _=>.fail "convert: a slice"
def QE (P:Program)(look:qA)(src dst:TypeId)(a:SV)(K:Option SV->VC):VC:=match Hw P src,P.underlying dst with
 | true,some .string=>Xl look a K
 | _,_=>agE P src dst a K
def CO (c:Value)(s:ByteArray):Sem (ForInStep ByteArray):=do
 let .int .u8 n:=c | stuck "bytesToString: byte expected"
 pure (.yield (s.push (UInt8.ofNat n.toNat)))
theorem tO (a:Addr)(n c:Nat):Conv.bytesToString (.slice (some a) n c)=(do
  let s ← forIn (← loadCells a n) ByteArray.empty CO
  pure (.string s)):=rfl
theorem BK {P:Program}{w:World}{E:Nat->Nat}: ∀ {l:List SV} {lt:Bool} {bs:List UInt8} (acc:List UInt8),bytesOf l=some (lt,bs) ->
  (forIn (SV.vals E l) (⟨acc.toArray⟩:ByteArray) CO).run P w=.ok ⟨(acc++bs).toArray⟩ w
 | [],lt,bs,acc,h=>by simp only[bytesOf,Option.some.injEq,Prod.mk.injEq] at h;obtain⟨_,rfl⟩:=h;simp[SV.vals]
 | x::r,lt,bs,acc,h=>by
   unfold bytesOf at h;split at h
   ·rename_i e;cases e
   ·rename_i l v r' e;injection e with e1 e2;subst e1;subst e2;split at h
    ·rename_i l' bs' hr;simp only[Option.some.injEq,Prod.mk.injEq] at h;obtain⟨_,rfl⟩:=h;simp only[SV.vals,SV.val,List.forIn_cons,Sem.run_bind];have:(CO (.int .u8 v) ⟨acc.toArray⟩).run P w=.ok (.yield ⟨(acc++[UInt8.ofNat v.toNat]).toArray⟩) w:=by simp[CO,ByteArray.push]
     rw[this];simp only[Result.andThen_ok];rw[BK (acc++[UInt8.ofNat v.toNat]) hr];simp
    ·cases h
   ·cases h
section
variable {P : Program} {look : qA} {σ : Operand -> Option SV}
theorem tE {src dst:TypeId}{v:Value}{w:World}(hb:Hw P src=true)(hd:P.underlying dst=some .string)(hv: ∀ k n,v≠.int k n)(hs: ∀ b,v≠.string b) :
  (convert src dst v).run P w=(Conv.bytesToString v).run P w:=by
 unfold Hw at hb;split at hb
 ·rename_i e he;split at hb
  ·rename_i he2;simp only[convert,Sem.run_bind,az he,az hd,Result.andThen_ok]
   cases v<;>first
    | (rename_i k n;exact absurd rfl (hv k n))
    | (rename_i b;exact absurd rfl (hs b))
    | (simp only[az he2,Result.andThen_ok])
  ·cases hb
 ·cases hb
theorem acj {src dst:TypeId}{x:Operand}{a:SV}(hx:σ x=some a):aM P look σ (fun ρ=>convert src dst (ρ x)) (QE P look src dst a):=by
 unfold QE;split
 ·rename_i hb hd;unfold Xl;split
  ·exact aM.v _ fun E w ρ hc hr=>by rw[hr x _ hx,tE hb hd (fun _ _ h=>by cases h) (fun _ h=>by cases h)];rfl
  ·rename_i key o n cl c;split
   ·rename_i cs tot ty hk;split
    ·rename_i l hl;split
     ·rename_i l' bs hbs;refine aM.v _ fun E w ρ hc hr=> ?_;obtain⟨ob,ho,c0,fr,rfl,_,h2,_⟩:=hc.1 key _ hk rfl;have hg:=cW hl;have hll:=run_loadCells (P:=P) ho o (SV.vals E l) (fun j v hj=>by
       rw[SV.bA,List.getElem?_map] at hj;cases hjl:l[j]? with
       | none=>rw[hjl] at hj;cases hj
       | some u=>rw[hjl] at hj;injection hj with hj;subst hj;exact h2 _ _ (hg.2 j u hjl))
      have hlen:(SV.vals E l).length=n:=by rw[SV.bA,List.length_map,hg.1]
      rw[hlen] at hll;rw[hr x _ hx,tE hb hd (fun _ _ h=>by cases h) (fun _ h=>by cases h)];simp only[SV.val,tO,Sem.run_bind,hll,Result.andThen_ok];rw[← Array.forIn_toList];have:=BK (P:=P) (w:=w) (E:=E) [] hbs;simp only[List.nil_append] at this;exact(congrArg (fun r:Result ByteArray=>r.andThen fun a w'=>Sem.run P (pure (Value.string a)) w') this).trans rfl
     ·exact aM.fail _
    ·exact aM.fail _
   ·exact aM.fail _
  ·rename_i key i n c;split
   ·rename_i nb f ro tot ty hk;refine aM.atom fun hin=>aM.v _ fun E w ρ hc hr=> ?_;obtain⟨ob,ho,c0,fr,rfl,_,_,_,h2⟩:=hc.1 key _ hk rfl;obtain⟨lt,hbs⟩:=B9 (fun j=>f (i+j)) (List.range n);have hl:(SV.vals E ((List.range n).map fun j=>SV.int .u8 false (f (i+j)))).length=n:=by rw[SV.bA,List.length_map,List.length_map,List.length_range]
    have hll:=run_loadCells (P:=P) ho (i*1) (SV.vals E ((List.range n).map fun j=>SV.int .u8 false (f (i+j)))) (fun j v hj=>by
     rw[SV.bA,List.map_map,List.getElem?_map] at hj;by_cases hjn:j<n
     ·rw[List.getElem?_range hjn] at hj;injection hj with hj;subst hj;have:=h2 (i+j) 0 (.int .u8 f) (by omega) rfl;rw[show i*1+j=(i+j)*[aK.int IntKind.u8 f].length+0 by simp];exact this
     ·rw[List.getElem?_eq_none (by simpa using hjn)] at hj;cases hj)
    rw[hl] at hll;rw[hr x _ hx,tE hb hd (fun _ _ h=>by cases h) (fun _ h=>by cases h)];simp only[SV.val,Bool.false_and,cond_false,tO,Sem.run_bind,hll,Result.andThen_ok];rw[← Array.forIn_toList];have:=BK (P:=P) (w:=w) (E:=E) [] hbs;simp only[List.nil_append] at this;exact(congrArg (fun r:Result ByteArray=>r.andThen fun a w'=>Sem.run P (pure (Value.string a)) w') this).trans rfl
   ·exact aM.fail _
  ·exact aM.fail _
 ·exact agF hx
end
def acp (P:Program)(src dst:TypeId):Bool :=
 match P.underlying src,P.underlying dst with
 | some (.int _),some (.int _)=>true
 | some .string,some .string=>true
 | _,some .string=>Hw P src
 | _,_=>false
def ff (P:Program):Op->Bool
 | .move _ | .assign _ | .pick .. | .load .. | .nilCheck _ | .binOp .. | .unOp .. | .makeInterface .. | .makeFunc .. | .slice .. | .fieldAddr .. | .field ..
 | .indexAddr .. | .index .. | .typeAssert .. | .extract .. | .build .. | .lookup .. =>true
 | .convert s d _=>acp P s d
 | .call c=>(match c.callee with
   | .builtin .len | .builtin .cap | .builtin .min | .builtin .max=>true
   | _=>false)
 | _=>false
def need (x:Option SV)(t:SV->VC):VC :=
 match x with
 | some v=>t v
 | none=>.fail "a value that is not known"
def aoG (x:Option SV)(K:Option SV->VC):VC :=
 match x with
 | some (.ptr a b c)=>K (some (.ptr a b c))
 | some (.o5 a b c d)=>K (some (.o5 a b c d))
 | some (.lA a b c d e)=>K (some (.lA a b c d e))
 | some (.iq a b c)=>K (some (.iq a b c))
 | some (.su a b c d e)=>K (some (.su a b c d e))
 | some (.iface t v)=>K (some (.iface t v))
 | some (.func (.func f) a b)=>K (some (.func (.func f) a b))
 | _=>.fail "nilCheck"
def agI (c a b:Option SV)(K:Option SV->VC):VC :=
 match c with
 | some (.bool true v)=>(match v with
   | true=>K a
   | false=>K b)
 | some (.bool false v)=>fork v (fun e=>match e with
   | true=>K a
   | false=>K b)
 | _=>.fail "pick"
def Zl (P:Program)(look:qA)(t:TypeId)(x:SV)(K:Option SV->VC):VC :=
 match x with
 | .map key=>(match P.underlying t,look key with
   | some (.map _ _),some (.map es _)=>K (some (.int .i64 true es.length))
   | _,_=>.fail "len: no map")
 | _=>aoF P t x K
theorem agG {P:Program}{look:qA}{σ:Operand->Option SV}{t:TypeId}{ats:Array TypeId}{ty:TypeId}{x:Operand}{a:SV}(hx:σ x=some a)(h0:ats[0]?=some t) :
  aM P look σ (fun ρ=>Builtin.len_ ats ty #[ρ x]) (Zl P look t a):=by
 unfold Zl;split
 ·rename_i key;split
  ·rename_i kt et es clock ht hl;refine aM.v _ fun E w ρ hc hr=> ?_;obtain⟨ob,hob,hb⟩:=hc.1 key _ hl rfl;have hb:ob=.map (cu E es).toArray clock:=hb;subst hb;simp[Builtin.len_,h0,hr x _ hx,SV.val,az ht,MapKept.run_getObj_map hob,goInt,cu]
  ·exact aM.fail _
 ·exact akZ hx h0
def Zj (P:Program)(look:qA)(σ:Operand->Option SV)(b:Builtin)(ats:Array TypeId)(args:List Operand)(K:Option SV->VC):VC :=
 match b,args with
 | .len,[x]=>(match ats[0]? with
   | some t=>need (σ x) (fun v=>Zl P look t v K)
   | none=>.fail "len")
 | .cap,[x]=>(match ats[0]? with
   | some t=>need (σ x) (fun v=>aoD P t v K)
   | none=>.fail "cap")
 | .min,[x,y]=>need (σ x) (fun v=>need (σ y) (fun u=>zE false v u K))
 | .max,[x,y]=>need (σ x) (fun v=>need (σ y) (fun u=>zE true v u K))
 | _,_=>.fail "builtin"
def qop (P:Program)(look:qA)(σ:Operand->Option SV)(o:Op)(K:Option SV->VC):VC :=
 match o with
 | .move x | .assign x=>K (σ x)
 | .pick c a b=>agI (σ c) (σ a) (σ b) K
 | .load t a=>Zm P look t (σ a) K
 | .nilCheck x=>aoG (σ x) K
 | .binOp op t x y _=>need (σ x) (fun a=>need (σ y) (fun b=>aoC P op t (isConst x||isConst y) a b K))
 | .unOp op _ x=>need (σ x) (fun a=>qun op a K)
 | .convert s d x=>need (σ x) (fun a=>QE P look s d a K)
 | .makeInterface t x=>need (σ x) (fun a=>BF P t a K)
 | .makeFunc fn a b=>EV fn (RW σ a.toList) (RW σ b.toList) K
 | .slice t x lo hi mx=>QI P σ t (σ x) lo hi mx K
 | .fieldAddr s x f=>BD P s (σ x) f K
 | .field t x f=>need (σ x) (fun a=>Xm P t a f K)
 | .indexAddr t x i=>BE P t (σ x) (σ i) K
 | .index t x i=>need (σ x) (fun a=>need (σ i) (fun b=>Xn P t a b K))
 | .typeAssert x _ at_ ok=>need (σ x) (fun a=>QC P a at_ ok K)
 | .extract x i=>need (σ x) (fun a=>JP a i K)
 | .build t parts=>QD P σ t parts.toList K
 | .lookup t x k ok=>need (σ x) (fun a=>need (σ k) (fun b=>HE P look t a b ok K))
 | .call c=>(match c.callee with
   | .builtin b=>Zj P look σ b c.argTypes c.args.toList K
   | _=>.fail "call")
 | _=>.fail "no quiet operation"
def mC (P:Program)(look:qA)(σ:Operand->Option SV)(o:Oper)(t:QT):Prop :=
 ∃(obl:Prop) (sv:Option SV),(∀ K,(t K).holds↔obl/\(K sv).holds) /\
  (∀ E w ρ,Compat E look w->Reads E σ ρ->obl->∃ r,(execOp ρ o).run P w=.ok (.value r) w/\∀ v,sv=some v->r=v.val E)
section
variable {P : Program} {look : qA} {σ : Operand -> Option SV}
theorem mC.of {s:(Operand->Value)->Sem Value}{o:Oper}{t:QT}(h:aM P look σ s t)(he: ∀ ρ,execOp ρ o=(do pure (.value (← s ρ)):Sem Next)):mC P look σ o t:=by obtain⟨obl,sv,h1,h2⟩:=h;refine⟨obl,sv,h1,fun E w ρ hc hr ho=> ?_⟩;obtain⟨r,hrun,hv⟩:=h2 E w ρ hc hr ho;simp_all
theorem mC.fail {o:Oper}(why:String):mC P look σ o (fun _=>.fail why) :=⟨False,none,fun _K=>⟨fun h=>h.elim,fun h=>h.1.elim⟩,fun _ _ _ _ _ h=>h.elim⟩
theorem mC.need {o:Oper}{x:Operand}{t:SV->QT}(h: ∀ v,σ x=some v->mC P look σ o (t v)):mC P look σ o (fun K=>need (σ x) (fun v=>t v K)):=by
 unfold Sx.need;cases hx:σ x with
 | none=>exact mC.fail _
 | some v=>exact h v hx
theorem mC.k {o:Oper}(x:Operand)(he: ∀ ρ,execOp ρ o=(pure (.value (ρ x)):Sem Next)):mC P look σ o (fun K=>K (σ x)) :=⟨True,σ x,(by grind),(by simp_all [Sx.Compat,Sx.Reads])⟩
theorem QG (o:Oper):mC P look σ o (qop P look σ o.op):=by
 obtain⟨dst,op,type,pos,after,guard⟩:=o;cases op
 case move x=>exact mC.k x fun ρ=>rfl
 case assign x=>exact mC.k x fun ρ=>rfl
 case pick c a b =>
  show mC P look σ _ (agI (σ c) (σ a) (σ b));unfold agI;have key: ∀ l v,σ c=some (.bool l v)->mC P look σ ⟨dst,.pick c a b,type,pos,after,guard⟩ (fun K=>match v with | true=>K (σ a) | false=>K (σ b)):=by
   intro l v hc;have he: ∀ E ρ w,Reads E σ ρ->(execOp ρ ⟨dst,.pick c a b,type,pos,after,guard⟩).run P w=.ok (.value (if v then ρ a else ρ b)) w:=by intro E ρ w hr;simp only[execOp,hr c _ hc,SV.val,asBool,Sem.run_bind,Sem.run_pure,Result.andThen_ok]
   cases v with
   | true=>exact⟨True,σ a,fun K=>⟨fun h=>⟨trivial,h⟩,fun h=>h.2⟩,fun E w ρ _ hr _=>⟨ρ a,by rw[he E ρ w hr];rfl,fun v hv=>hr a v hv⟩⟩
   | false=>exact⟨True,σ b,fun K=>⟨fun h=>⟨trivial,h⟩,fun h=>h.2⟩,fun E w ρ _ hr _=>⟨ρ b,by rw[he E ρ w hr];rfl,fun v hv=>hr b v hv⟩⟩
  split
  ·rename_i v hc;exact key _ _ hc
  ·rename_i v hc;obtain⟨obl,sv,h1,h2⟩:=key _ _ hc;exact⟨obl,sv,fun K=>by rw[dx];exact h1 K,h2⟩
  ·exact mC.fail _
 case load t a=>exact mC.of (agH t a) fun ρ=>rfl
 case nilCheck x =>
  show mC P look σ _ (aoG (σ x));unfold aoG;split
  all_goals first
   | exact mC.fail _
   | (rename_i hx;exact⟨True,_,fun K=>⟨fun h=>⟨trivial,h⟩,fun h=>h.2⟩,fun E w ρ _ hr _=>⟨_,by simp only[execOp,hr x _ hx,SV.val];rfl,fun v hv=>by injection hv with hv;subst hv;rfl⟩⟩)
 case binOp op t x y yt=>exact mC.need fun a ha=>mC.need fun b hb=>mC.of (akV (_yt:=yt) ha hb) fun ρ=>rfl
 case unOp op t x=>exact mC.need fun a ha=>mC.of (aoI ha) fun ρ=>rfl
 case convert s d x=>exact mC.need fun a ha=>mC.of (acj ha) fun ρ=>rfl
 case makeInterface t x=>exact mC.need fun a ha=>mC.of (LJ ha) fun ρ=>rfl
 case makeFunc fn a b=>exact mC.of QF fun ρ=>rfl
 case slice t x lo hi mx=>exact mC.of aco fun ρ=>rfl
 case fieldAddr s x f=>exact mC.of (LH s x f) fun ρ=>rfl
 case field t x f=>exact mC.need fun a ha=>mC.of (ack ha) fun ρ=>rfl
 case indexAddr t x i=>exact mC.of (LI t x i) fun ρ=>rfl
 case index t x i=>exact mC.need fun a ha=>mC.need fun b hb=>mC.of (acm ha hb) fun ρ=>rfl
 case typeAssert x t at_ ok=>exact mC.need fun a ha=>mC.of (Xk (t:=t) ha) fun ρ=>rfl
 case extract x i=>exact mC.need fun a ha=>mC.of (TD ha) fun ρ=>rfl
 case build t parts=>exact mC.of aci fun ρ=>rfl
 case lookup t x k ok=>exact mC.need fun a ha=>mC.need fun b hb=>mC.of (Xo ha hb) fun ρ=>rfl
 case call c =>
  obtain⟨callee,args,ats⟩:=c;cases callee with
  | value f=>exact mC.fail _
  | invoke r m=>exact mC.fail _
  | builtin b =>
    show mC P look σ _ (Zj P look σ b ats args.toList);unfold Zj;have harr: ∀ {l:List Operand},args.toList=l->args=l.toArray:=fun h=>by rw[← h]
    split
    ·rename_i x hx;have:=harr hx;subst this;split
     ·rename_i t ht;exact mC.need fun a ha=>mC.of (agG (ty:=type) ha ht) fun ρ=>(BigFrame.execOp_builtin ..).trans (by rw[BigFrame.builtin_len];simp)
     ·exact mC.fail _
    ·rename_i x hx;have:=harr hx;subst this;split
     ·rename_i t ht;exact mC.need fun a ha=>mC.of (akW (ty:=type) ha ht) fun ρ=>(BigFrame.execOp_builtin ..).trans (by rw[BigFrame.builtin_cap];simp)
     ·exact mC.fail _
    ·rename_i x y hx;have:=harr hx;subst this;exact mC.need fun a ha=>mC.need fun b hb=>mC.of (ak1 (ats:=ats) (ty:=type) ha hb) fun ρ=>(BigFrame.execOp_builtin ..).trans (by rw[BigFrame.builtin_min];simp)
    ·rename_i x y hx;have:=harr hx;subst this;exact mC.need fun a ha=>mC.need fun b hb=>mC.of (ak0 (ats:=ats) (ty:=type) ha hb) fun ρ=>(BigFrame.execOp_builtin ..).trans (by rw[BigFrame.builtin_max];simp)
    ·exact mC.fail _
 all_goals exact mC.fail _
end
def Fr (ro:Option Nat):Fence:={Fence.wide with round:=ro}
theorem HY {ro:Option Nat}{n:Nat}{P:Program}{f:FuncId}{args:Array Value}{w:World}{R:Ending->World->Prop}:CallsIn (Fr ro) n P f args w R↔Calls P f args w R:=by
 rw[← callsIn_wide (n:=n)];cases ro with
 | none=>exact Iff.rfl
 | some l=>exact⟨CallsIn.outOfRound,CallsIn.inRound l⟩
def Out (P:Program)(R:Value->World->Prop)(x:Result Next)(RP:List PanicEntry->World->Prop:=fun _ _=>False):Prop:=match x with
 | .ok (.value v) w=>R v w
 | .ok .skip w=>R undef w
 | .ok (.enter f args) w=>Calls P f args w fun e w'=>(∃ v,e=.returned v/\R v w')∨∃ ch,e=.panicked ch/\RP ch w'
 | .ok (.round l f tmps assign body) w=>RoundIn Fence.wide 0 P l f tmps assign body w fun e w'=>∃ v,e=.returned v/\R v w'
 | .halt (.panic v) w=>RP [{v,recovered:=false}] w
 | _=>False
theorem w8 (ro:Option Nat){P:Program}{o:Oper}{a:Act}{w:World}: ∀ f,o.about P w a.eval=some f->(Fr ro).fn f:=fun _ _=>trivial
def vI (o:Oper):Bool:=match o.op with
 | .defer _=>false
 | _=>true
theorem ain {ro:Option Nat}{o:Oper}(h:vI o=true)(ρ:Operand->Value):o.semAt ro ρ=execOp ρ o:=by
 cases ro with
 | none=>rfl
 | some l =>
   unfold vI at h;unfold Oper.semAt
   grind
theorem Out.wp {P:Program}{ro:Option Nat}{o:Oper}(hd:vI o=true){a:Act}{w:World}{R:Value->World->Prop}{RP:List PanicEntry->World->Prop}{Q:Exit->Act->World->Prop}{K:Act->World->Prop}
  (h:Out P R ((execOp a.eval o).run P w) RP) (hk: ∀ r w',R r w'->K (a.put o.dst r) w') (hp: ∀ ch w',RP ch w'->Q (.panic ch) a w'):o.wpIn (Fr ro) 0 P a w K Q:=by
 unfold Oper.wpIn;refine⟨w8 ro,?_⟩;have hs:o.semAt (Fr ro).round a.eval=execOp a.eval o:=ain (ro:=ro) hd _;rw[hs];generalize (execOp a.eval o).run P w=x at h;cases x with
 | ok n w' =>
   cases n<;>simp only[Out] at h<;>simp only[Oper.uponIn]
   case value v=>exact hk _ _ h
   case skip=>exact hk _ _ h
   case enter f args =>
    refine⟨fun h=>(by cases ro<;>cases h),HY.2 (Calls.mono h fun e w'' he=> ?_)⟩
    rcases he with ⟨v,rfl,hr⟩ | ⟨ch,rfl,hr⟩
    ·exact hk _ _ hr
    ·exact hp _ _ hr
   case round l f tmps assign body =>
    refine⟨fun h=>(by cases ro<;>cases h),?_⟩
    have h2:RoundIn (Fr ro) 0 P l f tmps assign body w' fun e w''=>∃ v,e=.returned v/\R v w'':=by cases ro<;>exact h
    refine h2.mono fun e w'' he=> ?_;obtain⟨v,rfl,hr⟩:=he;exact hk _ _ hr
 | halt x w' =>
   cases x<;>simp only[Out] at h
   simp only[Oper.uponIn];exact hp _ _ h
theorem Out.mono {P:Program}{R R':Value->World->Prop}{RP RP':List PanicEntry->World->Prop}{x:Result Next}(h:Out P R x RP)(hr: ∀ v w,R v w->R' v w)(hp: ∀ c w,RP c w->RP' c w):Out P R' x RP':=by
 unfold Out at *
 grind [Calls.mono,RoundIn.mono]
theorem Out.xp {P:Program}{R:Value->World->Prop}{RP:List PanicEntry->World->Prop}{x:Result Next}(h:Out P R x):Out P R x RP:=h.mono (fun _ _ h=>h) (fun _ _ h=>h.elim)
abbrev KL:=Option SV->Mem->Nat->VC
def aV (K:KL)(Γ:aQ)(E:Nat->Nat)(nx:Nat)(r:Value)(w':World):Prop :=∃ E' sv m' nx',(∀ k,k<nx->E' k=E k)/\nx<=nx'/\(∀ v,sv=some v->r=v.val E')/\aG Γ E' m' nx' w'/\(K sv m' nx').holds
abbrev PK:=SV->Mem->Nat->VC
def lB (KP:PK)(Γ:aQ)(E:Nat->Nat)(nx:Nat)(ch:List PanicEntry)(w':World):Prop :=∃ E' v m' nx',(∀ k,k<nx->E' k=E k)/\nx<=nx'/\ch=[{v:=v.val E',recovered:=false}]/\v.wf nx'=true/\aG Γ E' m' nx' w'/\(KP v m' nx').holds
theorem lB.weaken {KP:PK}{Γ:aQ}{E E':Nat->Nat}{nx nx':Nat}{ch:List PanicEntry}{w:World}(h:lB KP Γ E' nx' ch w)(hE: ∀ k,k<nx->E' k=E k)(hn:nx<=nx'):lB KP Γ E nx ch w:=by obtain⟨E'',v,m,n,h1,h2,h3,h4,h5,h6⟩:=h;exact⟨E'',v,m,n,(by grind),Nat.le_trans hn h2,h3,h4,h5,h6⟩
theorem aV.GV {K:KL}{Γ:aQ}{E:Nat->Nat}{nx:Nat}{r:Value}{w:World}(h:aV K Γ.own E nx r w):aV K Γ E nx r w:=by obtain⟨E',sv,m',nx',h1,h2,h3,h4,h5⟩:=h;exact⟨E',sv,m',nx',h1,h2,h3,h4.GV,h5⟩
theorem lB.GV {KP:PK}{Γ:aQ}{E:Nat->Nat}{nx:Nat}{c:List PanicEntry}{w:World}(h:lB KP Γ.own E nx c w):lB KP Γ E nx c w:=by obtain⟨E',v,m',nx',h1,h2,h3,h4,h5,h6⟩:=h;exact⟨E',v,m',nx',h1,h2,h3,h4,h5.GV,h6⟩
def WfS (nx:Nat)(σ:Operand->Option SV):Prop:=∀ x v,σ x=some v->v.wf nx=true
def ve (P:Program)(Γ:aQ)(σ:Operand->Option SV)(m:Mem)(nx:Nat)(o:Oper)(t:KL->VC):Prop :=∀ K E w ρ,(t K).holds->aG Γ E m nx w->Mem.wf nx m=true->WfS nx σ->Reads E σ ρ->Out P (aV K Γ E nx) ((execOp ρ o).run P w)
section
variable {P : Program} {Γ : aQ} {σ : Operand -> Option SV} {m : Mem} {nx : Nat} {o : Oper}
theorem ve.fail (why:String):ve P Γ σ m nx o (fun _=>.fail why):=fun _ _ _ _ h=>h.elim
theorem ve.need {x:Operand}{t:SV->KL->VC}(h: ∀ v,σ x=some v->ve P Γ σ m nx o (t v)):ve P Γ σ m nx o (fun K=>need (σ x) (fun v=>t v K)):=by
 unfold Sx.need;cases hx:σ x with
 | none=>exact ve.fail _
 | some v=>exact h v hx
theorem aV.alloc {K:KL}{Γ:aQ}{E:Nat->Nat}{w:World}(hs:aG Γ E m nx w)(hw:Mem.wf nx m=true){cs:List SV}{tot:Nat}{ty:TypeId}
  {sv:SV} {c:Array Value} (hcs:SV.gM nx cs=true) (hc: ∀(i:Nat) (v:SV),cs[i]?=some v->c[i]?=some (v.val E)) (hm:c.size=tot)
  (hk:(K (some sv) ((nx,.cells cs tot ty)::m) (nx+1)).holds) {r:Value} (hr:r=sv.val (fun k=>if k=nx then w.heap.size else E k)) :
  aV K Γ E nx r {w with heap:=w.heap.push (.cells c ty)}:=by
 have hE: ∀ k,k<nx->(fun k=>if k=nx then w.heap.size else E k) k=E k:=(by grind)
 refine⟨_,some sv,_,_,hE,Nat.le_succ _,(by grind),hs.alloc hw (B:=.cells cs tot ty) ?_,hk⟩;refine⟨c,(0,0),rfl,(by omega),fun i v hv=> ?_,hm⟩;rw[SV.val_congr hE v (SV.zT hcs hv)];grind
theorem JB {nx:Nat}: ∀ {l:List Value} {xs:List SV},SV.sN l=some xs->SV.gM nx xs=true
 | [],xs,h=>by simp[SV.sN] at h;subst h;rfl
 | v::r,xs,h=>by
   simp only[SV.sN] at h;split at h
   ·rename_i x l' hx hl;injection h with h;subst h;simp only[SV.gM,JB hl,Bool.and_true];unfold SV.Bx at hx;split at hx<;>first | (injection hx with hx;subst hx;rfl) | cases hx
   ·cases h
theorem JC {nx:Nat}{v:Value}{x:SV}(h:SV.ofConst v=some x):x.wf nx=true:=by
 unfold SV.ofConst at h;split at h
 ·split at h
  ·rename_i l hl;injection h with h;subst h;exact JB hl
  ·cases h
 ·unfold SV.Bx at h;split at h<;>first | (injection h with h;subst h;rfl) | cases h
theorem Fs {nx:Nat}{t:TypeId}{v:SV}(h:i6 P t=some v):v.wf nx=true:=by grind [JC,i6]
theorem tP {nx:Nat}{v:SV}(h:v.wf nx=true):SV.gM nx v.cells=true:=by cases v<;>simp_all [SV.cells,SV.wf,SV.gM]
theorem CB {E:Nat->Nat}{l:List SV}{c:Array Value}(hc:c.toList=l.map (SV.val E)): ∀(i:Nat) (v:SV),l[i]?=some v->c[i]?=some (v.val E):=by intro i v hv;rw[← Array.getElem?_toList,hc,List.getElem?_map,hv];rfl
theorem xO {E:Nat->Nat}{l:List SV}{c:Array Value}(hc:c.toList=l.map (SV.val E)):c.size=l.length:=by rw[← Array.length_toList,hc,List.length_map]
def Qi (ty:TypeId)(v:SV)(m:Mem)(nx:Nat)(K:KL):VC :=
 match v.plain with
 | true=>K (some (.ptr nx true 0)) ((nx,.cells v.cells v.cells.length ty)::m) (nx+1)
 | false=>.fail "new: a value that is not known"
def WO (elem:TypeId)(cs:List SV)(n:Nat)(m:Mem)(nx:Nat)(K:KL):VC :=K (some (.slc nx 0 n true n)) ((nx,.cells cs cs.length elem)::m) (nx+1)
theorem Bt {w:World}{t:TypeId}{v:Value}:(newVar t v).run P w=.ok ⟨w.heap.size,0,none⟩ {w with heap:=w.heap.push (.cells v.cells t)}:=by simp[newVar,newRow]
theorem abA {dst:Option Tmp}{t type:TypeId}{pos:String}{after:Array Edge}{guard:Option (Nat×Bool)} :
  ve P Γ σ m nx ⟨dst,.alloc t,type,pos,after,guard⟩ (fun K=>match i6 P t with | some z=>Qi t z m nx K | none=>.fail "alloc"):=by
 intro K E w ρ h hs hw hσ hr;split at h
 ·rename_i z hz;unfold Qi at h;split at h
  ·rename_i hp;simp only[execOp,Instr.alloc,Sem.run_bind,eN (E:=E) hz,Result.andThen_ok,Bt,Sem.run_pure,Out];exact aV.alloc hs hw (tP (Fs hz)) (by grind [CB,SV.gX]) (by grind [xO,SV.gX]) h (by simp[SV.val])
  ·exact h.elim
 ·exact h.elim
theorem aky {dst:Option Tmp}{t type:TypeId}{pos:String}{after:Array Edge}{guard:Option (Nat×Bool)}{x:Operand} :
  ve P Γ σ m nx ⟨dst,.box t x,type,pos,after,guard⟩ (fun K=>need (σ x) (fun v=>Qi t v m nx K)):=by
 refine ve.need fun v hv=> ?_;intro K E w ρ h hs hw hσ hr;unfold Qi at h;split at h
 ·rename_i hp;simp only[execOp,Instr.box,Sem.run_bind,Result.andThen_ok,Bt,Sem.run_pure,Out];exact aV.alloc hs hw (tP (hσ _ _ hv)) (CB (by rw[hr _ _ hv,SV.gX hp])) (xO (E:=E) (by rw[hr _ _ hv,SV.gX hp])) h (by simp[SV.val])
 ·exact h.elim
def times (n:Nat)(zs:List SV):List SV:=match n with
 | 0=>[]
 | n+1=>zs++times n zs
theorem yP {E:Nat->Nat}{zs:List SV}{z:Array Value}(hz:z.toList=zs.map (SV.val E))(hne:z.size≠0): ∀ n:Nat,
  ((Array.range (n*z.size)).map fun i=>z[i% z.size]!).toList=(times n zs).map (SV.val E)
 | 0=>by simp[times]
 | n+1=>by
   have ih:=yP hz hne n;simp only[Array.toList_map,Array.toList_range] at ih ⊢;rw[show(n+1)*z.size=z.size+n*z.size by grind,List.range_add,List.map_append,times,List.map_append,← ih];congr 1
   ·rw[← hz];apply List.ext_getElem?
    grind [List.getElem?_range,Nat.mod_eq_of_lt,List.getElem?_eq_none]
   ·rw[List.map_map];apply List.map_congr_left;intro i _;simp
theorem Lc {nx:Nat}{zs:List SV}(h:SV.gM nx zs=true): ∀ n,SV.gM nx (times n zs)=true
 | 0=>rfl
 | n+1=>by
   have ih:=Lc h n;simp only[times];have app: ∀ {a b:List SV},SV.gM nx a=true->SV.gM nx b=true->SV.gM nx (a++b)=true:=by
    intro a;induction a with
    | nil=>grind
    | cons x r ihr=>intro b ha hb;simp only[SV.gM,Bool.and_eq_true,List.cons_append] at ha ⊢;grind
   exact app h ih
theorem ga {nx:Nat}: ∀ {a b:List SV},SV.gM nx a=true->SV.gM nx b=true->SV.gM nx (a++b)=true
 | [],_,_,hb=>hb
 | x::r,b,ha,hb=>by simp only[SV.gM,Bool.and_eq_true,List.cons_append] at ha ⊢;exact⟨ha.1,ga ha.2 hb⟩
theorem aaL {nx:Nat}: ∀ {a:List SV} {i:Nat} {v:SV},SV.gM nx a=true->v.wf nx=true->SV.gM nx (a.set i v)=true
 | [],_,_,_,_=>rfl
 | x::r,0,v,ha,hv=>by simp only[SV.gM,Bool.and_eq_true,List.set_cons_zero] at ha ⊢;exact⟨hv,ha.2⟩
 | x::r,i+1,v,ha,hv=>by simp only[SV.gM,Bool.and_eq_true,List.set_cons_succ] at ha ⊢;exact⟨ha.1,aaL ha.2 hv⟩
theorem DQ {nx:Nat}: ∀ {vs cs:List SV} {off:Nat},SV.gM nx cs=true->SV.gM nx vs=true->SV.gM nx (bz cs off vs)=true
 | [],_,_,hc,_=>hc
 | v::r,cs,off,hc,hv=>by simp only[SV.gM,Bool.and_eq_true] at hv;rw[bz];exact DQ (aaL hc hv.1) hv.2
theorem R4 {nx:Nat}{place:Nat->Option (Nat×Nat)}: ∀ {parts:List (Nat×SV)} {cells out:List SV},xw place cells parts=some out->SV.gM nx cells=true ->
  (∀ p∈ parts,p.2.wf nx=true)->SV.gM nx out=true
 | [],cells,out,h,hc,_=>by simp[xw] at h;subst h;exact hc
 | (i,v)::rest,cells,out,h,hc,hp=>by
   simp only[xw] at h;split at h
   ·cases h
   ·split at h
    ·exact R4 h (DQ hc (tP (hp (i,v) (by simp)))) (fun p hm=>hp p (by simp[hm]))
    ·cases h
theorem JJ {nx:Nat}{σ:Operand->Option SV}(hσ:WfS nx σ): ∀ {ps:List (Nat×Operand)} {l:List (Nat×SV)},partsOf σ ps=some l->∀ p∈ l,p.2.wf nx=true
 | [],l,h,p,hp=>by simp[partsOf] at h;subst h;cases hp
 | (i,x)::r,l,h,p,hp=>by
   simp only[partsOf] at h;split at h
   ·rename_i v l' hv hl;injection h with h;subst h;cases hp with
    | head=>exact hσ x v hv
    | tail _ hp=>exact JJ hσ hl p hp
   ·cases h
def pg (P:Program)(σ:Operand->Option SV)(t:TypeId)(len:Nat)(parts:List (Nat×Operand))(m:Mem)(nx:Nat)(K:KL):VC :=
 match P.underlying t with
 | some (.slice e)=>(match sz P e,i6 P e,partsOf σ parts with
   | some s,some z,some ps=>if z.plain&&decide (z.cells.length=s)&&decide (len*s<=16777216)&&decide (s≠0)then(match xw (fun i=>some (i*s,s)) (times len z.cells) ps with
      | some out=>WO e out len m nx K
      | none=>.fail "buildSlice: fill")else .fail "buildSlice: size"
   | _,_,_=>.fail "buildSlice")
 | _=>.fail "buildSlice"
theorem I4 {dst:Option Tmp}{t type:TypeId}{pos:String}{after:Array Edge}{guard:Option (Nat×Bool)}{len:Nat}{parts:Array (Nat×Operand)} :
  ve P Γ σ m nx ⟨dst,.buildSlice t len parts,type,pos,after,guard⟩ (pg P σ t len parts.toList m nx):=by
 intro K E w ρ h hs hw hσ hr;unfold pg at h;split at h
 ·rename_i e hd;split at h
  ·rename_i s z ps hsz hz hp;split at h
   ·rename_i hc;simp only[Bool.and_eq_true,decide_eq_true_eq] at hc;obtain⟨⟨⟨h1,h2⟩,h3⟩,h4⟩:=hc;split at h
    ·rename_i out hf;unfold WO at h;have hzc:=SV.gX (E:=E) h1;have hzs:(z.val E).cells.size=s:=by rw[hzc];simp[h2]
     have hfill:=y8 (E:=E) ps _ out hf;have hpp:(parts.map fun(x:Nat×Operand)=>(x.1,ρ x.2)).toList=ps.map fun p=>(p.1,p.2.val E):=by rw[← sO hr hp];simp
     have fin: ∀ z':Array Value,((Array.range (len*s)).map fun i=>z'[i% z'.size]!)=(SV.vals E (times len z.cells)).toArray ->
       Out P (aV K Γ E nx) ((match Instr.fill (fun i=>some (i*s,s)) ((Array.range (len*s)).map fun i=>z'[i% z'.size]!) (parts.map fun(x:Nat×Operand)=>(x.1,ρ x.2)).toList with
        | some cells=>do
          let r ← newRow e cells
          pure (Value.slice (some r) len len)
        | _=>stuck "buildSlice: a part of the wrong size" : Sem Value).run P w |>.andThen fun a w'=>(pure (Next.value a):Sem Next).run P w'):=by
      intro z' hz';rw[hz',hpp,hfill];simp only[Result.andThen_ok,Sem.run_bind,newRow,run_newObj,Sem.run_pure,Out];exact aV.alloc hs hw (R4 hf (Lc (tP (Fs hz)) len) (JJ hσ hp)) (CB (by simp[SV.bA])) (xO (E:=E) (by simp[SV.bA])) h (by simp[SV.val])
     simp only[execOp,Instr.buildSlice,Sem.run_bind,az hd,Result.andThen_ok,bU hsz,Sem.run_ite];rw[if_neg (by omega)];by_cases h0:len*s=0
     ·rw[if_pos h0];simp only[Sem.run_pure,Result.andThen_ok];refine fin #[] ?_;have:len=0:=by rcases Nat.mul_eq_zero.1 h0 with h | h;exact h;exact absurd h h4
      subst this;simp[times,SV.vals]
     ·rw[if_neg h0];simp only[eN (E:=E) hz,Sem.run_pure,Result.andThen_ok];refine fin _ ?_;apply Array.ext';have:=yP (E:=E) (zs:=z.cells) (z:=(z.val E).cells) (by rw[hzc]) (by rw[hzs];exact h4) len;rw[hzs] at this;rw[SV.bA];simpa [hzs] using this
    ·exact h.elim
   ·exact h.elim
  ·exact h.elim
 ·exact h.elim
end
theorem XJ {w:World}{b o:Nat}{v:Value}{c:Array Value}{ty:TypeId}{fr:Nat×Nat}(h:w.heap[b]?=some (.cells c ty fr)) :
  w.setCell ⟨b,o,none⟩ v={w with heap:=w.heap.setIfInBounds b (.cells (c.setIfInBounds o v) ty fr)}:=by
 unfold World.setCell;congr 1;apply Array.ext_getElem?;intro i;rw[Array.getElem?_modify,Array.getElem?_setIfInBounds];by_cases e:b=i
 ·subst e;obtain⟨hlt,he⟩:=Array.getElem?_eq_some_iff.1 h;simp[hlt,he]
 ·simp[e]
def gx (c:Array Value)(off:Nat):List Value->Array Value
 | []=>c
 | v::r=>gx (c.setIfInBounds off v) (off+1) r
theorem jH: ∀(vs:List Value) (c:Array Value) (off:Nat),(gx c off vs).toList=bz c.toList off vs
 | [],_,_=>rfl
 | v::r,c,off=>by rw[gx,jH r,bz];simp
theorem bG: ∀(vs:List Value) (c:Array Value) (off:Nat),(gx c off vs).size=c.size
 | [],_,_=>rfl
 | v::r,c,off=>by rw[gx,bG r];simp
theorem dN {P:Program}{b o:Nat}{ty:TypeId}{fr:Nat×Nat}: ∀(vs:List Value) (i:Nat) (w:World) (c:Array Value),w.heap[b]?=some (.cells c ty fr) ->
  (∀ j,c.size<=j∨¬ (fr.1<=j/\j<fr.2))->o+i+vs.length<=c.size->(∀ v∈ vs,v.oneCell'=true) ->
  (storeCells ⟨b,o,none⟩ vs i).run P w=.ok () {w with heap:=w.heap.setIfInBounds b (.cells (gx c (o+i) vs) ty fr)}
 | [],i,w,c,h,_,_,_=>by
   simp only[storeCells,Sem.run_pure,gx];congr 1;have:w.heap.setIfInBounds b (.cells c ty fr)=w.heap:=by
    apply Array.ext_getElem?;intro j;rw[Array.getElem?_setIfInBounds];by_cases e:b=j
    ·subst e;obtain⟨hlt,he⟩:=Array.getElem?_eq_some_iff.1 h;simp[hlt,he]
    ·simp[e]
   rw[this]
 | v::r,i,w,c,h,hf,hl,hv=>by
   have hv0:=hv v (by simp);simp only[List.length_cons] at hl;have hlt:o+i<c.size:=by omega
   have hfz:w.frozen? ⟨b,o+i,none⟩=false:=by
    simp only[World.frozen?,h];have:=hf (o+i);obtain⟨lo,hi⟩:=fr;simp only at this ⊢;rcases this with h1 | h1
    ·omega
    ·simp only[Bool.and_eq_false_iff,decide_eq_false_iff_not];by_cases h2:lo<=o+i
     ·right;exact fun h3=>h1 ⟨h2,h3⟩
     ·left;exact h2
   have hc:w.cell? ⟨b,o+i,none⟩=some c[o+i]:=by rw[cell_of h,Array.getElem?_eq_getElem hlt]
   simp only[storeCells,Sem.run_bind,cN,run_store P w ⟨b,o+i,none⟩ v .plain hv0,hc,hfz,Bool.false_eq_true,if_false,Result.andThen_ok];rw[XJ h];have hblt:=(Array.getElem?_eq_some_iff.1 h).1;rw[dN (ty:=ty) (fr:=fr) r (i+1) _ (c.setIfInBounds (o+i) v) (by simp[hblt]) (by simpa using hf) (by simp;omega) (fun u hu=>hv u (by simp[hu]))];congr 1;simp only[gx,Array.setIfInBounds_setIfInBounds,Nat.add_assoc]
section
variable {P : Program} {Γ : aQ} {σ : Operand -> Option SV} {m : Mem} {nx : Nat}
theorem aV.write {K:KL}{Γ:aQ}{E:Nat->Nat}{w:World}(hs:aG Γ E m nx w){key:Nat}{cs:List SV}{tot:Nat}{ty:TypeId}
  (hk:m.get key=some (.cells cs tot ty)) {off:Nat} {vs:List SV} (hv: ∀ v∈ vs,v.rC=true) (hl:off+vs.length<=cs.length) {sv:Option SV} {r:Value} (hr: ∀ v,sv=some v->r=v.val E)
  (h:(K sv (m.put key (.cells (bz cs off vs) tot ty)) nx).holds) :
  ∃ w',(storeCells ⟨E key,off,none⟩ (SV.vals E vs)).run P w=.ok () w'/\aV K Γ E nx r w':=by
 obtain⟨ob,ho,c,fr,rfl,h1,h2,h3⟩:=hs.qD key _ hk rfl;have hcl:cs.length<=c.size:=by
  cases hcs:cs.length with
  | zero=>omega
  | succ n =>
    obtain⟨v,hv⟩: ∃ v,cs[n]?=some v:=⟨cs[n]'(by omega),List.getElem?_eq_getElem _⟩
    have:=h2 n v hv;have:=(Array.getElem?_eq_some_iff.1 this).1;omega
 have hrun:=dN (P:=P) (o:=off) (SV.vals E vs) 0 w c ho h1 (by simp[SV.bA];omega) (fun v hv'=>by rw[SV.bA,List.mem_map] at hv';obtain⟨u,hu,rfl⟩:=hv';exact SV.vB (hv u hu))
 refine⟨_,hrun,E,sv,_,_,fun _ _=>rfl,Nat.le_refl _,hr,hs.write hk rfl rfl (B':=.cells (bz cs off vs) tot ty) ?_ rfl,h⟩;refine⟨_,fr,rfl,by rw[bG];exact h1,fun i v hi=> ?_,by rw[bG];exact h3⟩;rw[← Array.getElem?_toList,jH,Nat.add_zero]
 have key2: ∀(vs:List SV) (cs:List SV) (l:List Value) (off:Nat),(∀(i:Nat) (v:SV),cs[i]?=some v->l[i]?=some (v.val E)) ->
   ∀(i:Nat) (v:SV),(bz cs off vs)[i]?=some v->(bz l off (SV.vals E vs))[i]?=some (v.val E):=by
  intro vs;induction vs with
  | nil=>intro cs l off h i v hi;exact h i v hi
  | cons x r ih =>
    intro cs l off h i v hi;simp only[bz,SV.vals] at hi ⊢;refine ih (cs.set off x) (l.set off (x.val E)) (off+1) (fun j u hj=> ?_) i v hi;rw[List.getElem?_set] at hj ⊢;split at hj
    ·rename_i e;subst e;split at hj
     ·rename_i hlt;injection hj with hj;subst hj;have:off<l.length:=by
       obtain⟨u,hu⟩: ∃ u,cs[off]?=some u:=⟨cs[off],List.getElem?_eq_getElem hlt⟩
       have:=h off u hu;exact(List.getElem?_eq_some_iff.1 this).1
      simp[this]
     ·cases hj
    ·rename_i e;rw[if_neg e];exact h j u hj
 exact key2 vs cs c.toList off (fun j u hj=>by rw[Array.getElem?_toList];exact h2 j u hj) i v hi
def tL:List SV->Bool
 | []=>true
 | v::r=>v.rC&&tL r
theorem m6: ∀ {l:List SV},tL l=true->∀ v∈ l,v.rC=true
 | x::r,h,v,hv=>by
   simp only[tL,Bool.and_eq_true] at h;cases hv with
   | head=>exact h.1
   | tail _ hv=>exact m6 h.2 v hv
def mix (k:IntKind)(i:Nat)(v:Int):Nat->List Int->List SV
 | _,[]=>[]
 | j,z::r=>.int k false (if i=j then v else z)::mix k i v (j+1) r
theorem Y8 {k:IntKind}{i:Nat}{v:Int}: ∀ {l:List Int} {j:Nat},(mix k i v j l).length=l.length
 | [],_=>rfl
 | _::r,j=>by simp[mix,Y8 (l:=r)]
theorem Y7 {k:IntKind}{i:Nat}{v:Int}: ∀ {l:List Int} {j q:Nat} {x:SV},(mix k i v j l)[q]?=some x->x=.int k false (if i=j+q then v else LR l q)
 | [],_,_,_,h=>by simp[mix] at h
 | z::r,j,0,x,h=>by simp[mix] at h;subst h;simp[LR]
 | z::r,j,q+1,x,h=>by simp only[mix,List.getElem?_cons_succ] at h;rw[Y7 h,show j+1+q=j+(q+1)by omega];simp[LR]
def rE (i:Nat)(v:List UInt8):Nat->List (List UInt8)->List SV
 | _,[]=>[]
 | j,z::r=>.str false (if i=j then v else z)::rE i v (j+1) r
theorem S8 {i:Nat}{v:List UInt8}: ∀ {l:List (List UInt8)} {j:Nat},(rE i v j l).length=l.length
 | [],_=>rfl
 | _::r,j=>by simp[rE,S8 (l:=r)]
theorem S7 {i:Nat}{v:List UInt8}: ∀ {l:List (List UInt8)} {j q:Nat} {x:SV},(rE i v j l)[q]?=some x->x=.str false (if i=j+q then v else lZ l q)
 | [],_,_,_,h=>by simp[rE] at h
 | z::r,j,0,x,h=>by simp[rE] at h;subst h;simp[lZ]
 | z::r,j,q+1,x,h=>by simp only[rE,List.getElem?_cons_succ] at h;rw[S7 h,show j+1+q=j+(q+1)by omega];simp[lZ]
def aK.upd (i:Nat)(v:SV):aK->Option aK
 | .int k f=>(match v with
   | .int k' _ n=>if k=k' then some (.int k fun j=>if j=i then n else f j)else none
   | _=>none)
 | .bool f=>(match v with
   | .bool _ b=>some (.bool fun j=>if j=i then b else f j)
   | _=>none)
 | .str f=>(match v with
   | .str _ s=>some (.str fun j=>if j=i then s else f j)
   | _=>none)
 | .ref k f=>(match v with
   | .iq _ a 0=>some (.ref k fun j=>if j=i then a else f j)
   | _=>none)
 | .fq k w z f n c=>(match v with
   | .fq _ w' z' a 0 n' c'=>if w=w'/\z=z' then some (.fq k w z (fun j=>if j=i then a else f j) (fun j=>if j=i then n' else n j) (fun j=>if j=i then c' else c j))else none
   | _=>none)
 | .raw _=>none
theorem aK.X3 {i:Nat}{v:SV}{c c':aK}(h:c.upd i v=some c')(E:Nat->Nat):(c'.at i).val E=v.val E/\∀ j,j≠i->c'.at j=c.at j:=by
 cases c with
 | int k f =>
   simp only[aK.upd] at h;split at h
   ·split at h
    ·rename_i e;subst e;injection h with h;subst h;exact⟨by simp[aK.at,SV.val],fun j hj=>by simp[aK.at,hj]⟩
    ·cases h
   ·cases h
 | bool f =>
   simp only[aK.upd] at h;split at h
   ·injection h with h;subst h;exact⟨by simp[aK.at,SV.val],fun j hj=>by simp[aK.at,hj]⟩
   ·cases h
 | str f =>
   simp only[aK.upd] at h;split at h
   ·injection h with h;subst h;exact⟨by simp[aK.at,SV.val],fun j hj=>by simp[aK.at,hj]⟩
   ·cases h
 | ref k f =>
   simp only[aK.upd] at h;split at h
   ·injection h with h;subst h;exact⟨by simp[aK.at,SV.val],fun j hj=>by simp[aK.at,hj]⟩
   ·cases h
 | fq k w z f n c =>
   simp only[aK.upd] at h;split at h
   ·split at h
    ·rename_i e;obtain⟨rfl,rfl⟩:=e;injection h with h;subst h;exact⟨by simp[aK.at,SV.val],fun j hj=>by simp[aK.at,hj]⟩
    ·cases h
   ·cases h
 | raw f=>cases h
theorem aK.DM {i:Nat}{v:SV}{c c':aK}(h:c.upd i v=some c'):v.rC=true:=by
 cases c<;>simp only[aK.upd] at h
 case raw=>cases h
 all_goals (split at h<;>first | rfl | cases h)
def tr (P:Program)(t:TypeId)(a x:Option SV)(m:Mem)(nx:Nat)(K:KL):VC :=
 match a,x,sz P t with
 | some (.ptr key true o),some v,some n=>(match m.get key with
   | some (.cells cs tot ty)=>if v.plain&&tL v.cells&&decide (v.cells.length=n)&&decide (o+n<=cs.length)then
      K none (m.put key (.cells (bz cs o v.cells) tot ty)) nx else .fail "store: cells"
   | _=>.fail "store: no such block")
 | some (.tM key base n i),some (.int k _ v),some 1=>(match m.get key with
   | some (.cells cs tot ty)=>(match jQ cs base n with
     | some l=>(match Bi k l with
       | some zs=>.and (.atom (i<n)) (K none (m.put key (.cells (bz cs base (mix k i v 0 zs)) tot ty)) nx)
       | none=>.fail "store: no integers")
     | none=>.fail "store: cells")
   | some (.rows false nb [c] false tot ty)=>(match c.upd (base+i) (.int k true v)with
     | some c'=>.and (.atom (i<n/\base+i<nb)) (K none (m.put key (.rows false nb [c'] false tot ty)) nx)
     | none=>.fail "store: another kind")
   | _=>.fail "store: no such block")
 | some (.tM key base n i),some (.str _ v),some 1=>(match m.get key with
   | some (.cells cs tot ty)=>(match jQ cs base n with
     | some l=>(match tH l with
       | some zs=>.and (.atom (i<n)) (K none (m.put key (.cells (bz cs base (rE i v 0 zs)) tot ty)) nx)
       | none=>.fail "store: no texts")
     | none=>.fail "store: cells")
   | _=>.fail "store: no such block")
 | some (.o5 key w i k),some v,some 1=>(match m.get key with
   | some (.rows z n av false tot ty)=>if av.length=w then(match av[k]? with
     | some c=>(match c.upd i v with
       | some c'=>.and (.atom (i<n)) (K none (m.put key (.rows z n (av.set k c') false tot ty)) nx)
       | none=>.fail "store: another kind")
     | none=>.fail "store: no such column")else .fail "store: another row"
   | _=>.fail "store: no such row")
 | some (.iq key b o),some v,some 1=>(match m.get key with
   | some (.vq D cs tot ty false)=>(match cs[o]? with
     | some c=>(match c.upd b v with
       | some c'=>.and (.atom (D b=true)) (K none (m.put key (.vq D (cs.set o c') tot ty false)) nx)
       | none=>.fail "store: another kind")
     | none=>.fail "store: no such column")
   | _=>.fail "store: no family")
 | _,_,_=>.fail "store"
theorem vX {α:Type}: ∀(vs cs:List α) (off q:Nat) (u:α),(bz cs off vs)[q]?=some u->off+vs.length<=cs.length->(off<=q/\q<off+vs.length/\vs[q - off]?=some u)∨((q<off∨off+vs.length<=q)/\cs[q]?=some u):=by
 intro vs;induction vs with
 | nil=>intro cs off q u hq _;right;exact⟨by simp;omega,hq⟩
 | cons x r ih =>
   intro cs off q u hq hle;simp only[bz] at hq;simp only[List.length_cons] at hle ⊢;rcases ih (cs.set off x) (off+1) q u hq (by simp;omega)with ⟨g1,g2,g3⟩ | ⟨g1,g2⟩
   ·left;refine⟨by omega,by omega,?_⟩;rw[show q - off=(q - (off+1))+1 by omega];simpa using g3
   ·rw[List.getElem?_set] at g2;split at g2
    ·rename_i e;subst e;rw[if_pos (by omega)] at g2;left;refine⟨by omega,by omega,?_⟩;rw[Nat.sub_self];simpa using g2
    ·right;exact⟨by omega,g2⟩
theorem M9 {dst:Option Tmp}{t type:TypeId}{pos:String}{after:Array Edge}{guard:Option (Nat×Bool)}{a x:Operand} :
  ve P Γ σ m nx ⟨dst,.store t a x,type,pos,after,guard⟩ (tr P t (σ a) (σ x) m nx):=by
 intro K E w ρ h hs hw hσ hr;unfold tr at h;split at h
 ·rename_i key o v n ha hx hn;split at h
  ·rename_i cs tot ty hk;split at h
   ·rename_i hc;simp only[Bool.and_eq_true,decide_eq_true_eq] at hc;obtain⟨⟨⟨h1,h2⟩,h3⟩,h4⟩:=hc;obtain⟨w',hrun,haft⟩:=aV.write (P:=P) (r:=undef) hs hk (m6 h2) (by omega) (fun v hv=>by cases hv) h;have hcv:=SV.gX (E:=E) h1;have hsize:(v.val E).cells.size=n:=by rw[hcv];simp[h3]
    simp only[execOp,Instr.storeAt,hr a _ ha,hr x _ hx,SV.val,Instr.sureAddr,Sem.run_bind,Sem.run_pure,Result.andThen_ok,storeVar,bU hn,hsize];simp only[ne_eq,not_true_eq_false,if_false];rw[hcv];rw[SV.bA] at hrun;simp only[hrun,Result.andThen_ok,Out];exact haft
   ·exact h.elim
  ·exact h.elim
 ·rename_i key base n i k lf v ha hx hn;split at h
  ·rename_i cs tot ty hk;split at h
   ·rename_i l hl;split at h
    ·rename_i zs hz;obtain⟨hi,h⟩:=h;have hi:i<n:=hi;have hg:=cW hl;have hzg:=vA hz;have hlt:base+i<cs.length:=by have:(l[i]?)=some (l[i]'(by rw[hg.1];exact hi)):=List.getElem?_eq_getElem _;exact(List.getElem?_eq_some_iff.1 (hg.2 i _ this)).1
     obtain⟨ob,ho,c,fr,rfl,h1,h2,h3⟩:=hs.qD key _ hk rfl;have hcl:base+i<c.size:=(Array.getElem?_eq_some_iff.1 (h2 _ _ (List.getElem?_eq_getElem hlt))).1;have hrun:=dN (P:=P) (o:=base+i) [Value.int k v] 0 w c ho h1 (by simp;omega) (fun u hu=>by simp at hu;subst hu;rfl);have hE:=hs.write hk rfl rfl (B':=.cells (bz cs base (mix k i v 0 zs)) tot ty) (o:=.cells (gx c (base+i+0) [Value.int k v]) ty fr) ?_ rfl
     ·simp only[execOp,Instr.storeAt,hr a _ ha,hr x _ hx,SV.val,Instr.sureAddr,Sem.run_bind,Sem.run_pure,Result.andThen_ok,storeVar,bU hn];simp only[Value.cells,List.size_toArray,List.length_singleton,ne_eq,not_true_eq_false,if_false,hrun,Result.andThen_ok,Out];exact⟨E,none,_,_,fun _ _=>rfl,Nat.le_refl _,(fun v hv=>by cases hv),hE,h⟩
     ·refine⟨_,fr,rfl,by rw[bG];exact h1,fun q u hq=> ?_,by rw[bG];exact h3⟩;have hmixlen:(mix k i v 0 zs).length=n:=by rw[Y8,hzg.1,hg.1]
      have hset: ∀(vs cs:List SV) (off q:Nat) (u:SV),(bz cs off vs)[q]?=some u->off+vs.length<=cs.length->(off<=q/\q<off+vs.length/\vs[q - off]?=some u)∨((q<off∨off+vs.length<=q)/\cs[q]?=some u):=by
       intro vs;induction vs with
       | nil=>intro cs off q u hq _;right;exact⟨by simp;omega,hq⟩
       | cons x r ih =>
         intro cs off q u hq hle;simp only[bz] at hq;simp only[List.length_cons] at hle ⊢;rcases ih (cs.set off x) (off+1) q u hq (by simp;omega)with ⟨g1,g2,g3⟩ | ⟨g1,g2⟩
         ·left;refine⟨by omega,by omega,?_⟩;rw[show q - off=(q - (off+1))+1 by omega];simpa using g3
         ·rw[List.getElem?_set] at g2;split at g2
          ·rename_i e;subst e;rw[if_pos (by omega)] at g2;left;refine⟨by omega,by omega,?_⟩;rw[Nat.sub_self];simpa using g2
          ·right;exact⟨by omega,g2⟩
      have hbase:base+n<=cs.length:=by
       cases n with
       | zero=>omega
       | succ n' =>have:(l[n']?)=some (l[n']'(by rw[hg.1];omega)):=List.getElem?_eq_getElem _;have:=(List.getElem?_eq_some_iff.1 (hg.2 n' _ this)).1;omega
      have hsa:(gx c (base+i+0) [Value.int k v])[q]?=if base+i=q then some (.int k v)else c[q]?:=by
       simp only[gx,Nat.add_zero];rw[Array.getElem?_setIfInBounds];by_cases e:base+i=q
       ·rw[if_pos e,if_pos e,if_pos (by omega)]
       ·rw[if_neg e,if_neg e]
      rw[hsa];rcases hset _ _ _ _ _ hq (by rw[hmixlen];exact hbase)with ⟨g1,g2,g3⟩ | ⟨g1,g2⟩
      ·have hu:=Y7 g3;subst hu;rw[hmixlen] at g2;by_cases e:base+i=q
       ·rw[if_pos e,if_pos (by omega)];rfl
       ·rw[if_neg e,if_neg (by omega)];have hq':(l[q - base]?)=some (l[q - base]'(by rw[hg.1];omega)):=List.getElem?_eq_getElem _;obtain⟨b,hb⟩:=hzg.2 _ _ hq';have:=h2 _ _ (hg.2 _ _ hq');rw[show base+(q - base)=q by omega,hb] at this;rw[this];rfl
      ·rw[hmixlen] at g1;rw[if_neg (by omega)];exact h2 q u g2
    ·exact h.elim
   ·exact h.elim
  ·rename_i nb col tot ty hk;split at h
   ·rename_i col' hup;obtain⟨⟨hi,hb⟩,h⟩:=h;have hb:base+i<nb:=hb;obtain⟨ob,ho,c,fr,rfl,h1,h2,h3,h4⟩:=hs.qD key _ hk rfl;have hcl:base+i<c.size:=by simp only[List.length_cons,List.length_nil] at h2;omega
    obtain⟨u1,u2⟩:=aK.X3 hup E;have hrun:=dN (P:=P) (o:=base+i) [Value.int k v] 0 w c ho (h1 rfl) (by simp;omega) (fun u hu=>by simp at hu;subst hu;rfl);have hE:=hs.write hk rfl rfl (B':=.rows false nb [col'] false tot ty) (o:=.cells (gx c (base+i+0) [Value.int k v]) ty fr) ?_ rfl
    ·simp only[execOp,Instr.storeAt,hr a _ ha,hr x _ hx,SV.val,Instr.sureAddr,Sem.run_bind,Sem.run_pure,Result.andThen_ok,storeVar,bU hn];simp only[Value.cells,List.size_toArray,List.length_singleton,ne_eq,not_true_eq_false,if_false,hrun,Result.andThen_ok,Out];exact⟨E,none,_,_,fun _ _=>rfl,Nat.le_refl _,(fun v hv=>by cases hv),hE,h⟩
    ·refine⟨_,fr,rfl,fun _=>by rw[bG];exact h1 rfl,by rw[bG];exact h2,by rw[bG];exact h3,fun i' k' cl hi' hk'=> ?_⟩
     match k',hk' with
     | 0,hk' =>
       simp only[List.getElem?_cons_zero,Option.some.injEq] at hk';subst hk';have hsa:(gx c (base+i+0) [Value.int k v])[i'*[col'].length+0]?=if base+i=i' then some (.int k v)else c[i']?:=by
        simp only[gx,Nat.add_zero,List.length_singleton,Nat.mul_one];rw[Array.getElem?_setIfInBounds];by_cases e:base+i=i'
        ·rw[if_pos e,if_pos e,if_pos (by omega)]
        ·rw[if_neg e,if_neg e]
       rw[hsa];by_cases e:base+i=i'
       ·subst e;rw[if_pos rfl];exact congrArg some u1.symm
       ·rw[if_neg e,u2 i' (fun h=>e h.symm)];have:=h4 i' 0 col hi' rfl;simpa using this
     | q+1,hk'=>simp at hk'
   ·exact h.elim
  ·exact h.elim
 ·rename_i key base n i lf v ha hx hn;split at h
  ·rename_i cs tot ty hk;split at h
   ·rename_i l hl;split at h
    ·rename_i zs hz;obtain⟨hi,h⟩:=h;have hi:i<n:=hi;have hg:=cW hl;have hzg:=sn hz;have hzl:=BN hz;have hlt:base+i<cs.length:=by have:(l[i]?)=some (l[i]'(by rw[hg.1];exact hi)):=List.getElem?_eq_getElem _;exact(List.getElem?_eq_some_iff.1 (hg.2 i _ this)).1
     obtain⟨ob,ho,c,fr,rfl,h1,h2,h3⟩:=hs.qD key _ hk rfl;have hcl:base+i<c.size:=(Array.getElem?_eq_some_iff.1 (h2 _ _ (List.getElem?_eq_getElem hlt))).1;have hrun:=dN (P:=P) (o:=base+i) [Value.string ⟨v.toArray⟩] 0 w c ho h1 (by simp;omega) (fun u hu=>by simp at hu;subst hu;rfl);have hE:=hs.write hk rfl rfl (B':=.cells (bz cs base (rE i v 0 zs)) tot ty) (o:=.cells (gx c (base+i+0) [Value.string ⟨v.toArray⟩]) ty fr) ?_ rfl
     ·simp only[execOp,Instr.storeAt,hr a _ ha,hr x _ hx,SV.val,Instr.sureAddr,Sem.run_bind,Sem.run_pure,Result.andThen_ok,storeVar,bU hn];simp only[Value.cells,List.size_toArray,List.length_singleton,ne_eq,not_true_eq_false,if_false,hrun,Result.andThen_ok,Out];exact⟨E,none,_,_,fun _ _=>rfl,Nat.le_refl _,(fun v hv=>by cases hv),hE,h⟩
     ·refine⟨_,fr,rfl,by rw[bG];exact h1,fun q u hq=> ?_,by rw[bG];exact h3⟩;have hmixlen:(rE i v 0 zs).length=n:=by rw[S8,hzl,hg.1]
      have hbase:base+n<=cs.length:=by
       cases n with
       | zero=>omega
       | succ n' =>have:(l[n']?)=some (l[n']'(by rw[hg.1];omega)):=List.getElem?_eq_getElem _;have:=(List.getElem?_eq_some_iff.1 (hg.2 n' _ this)).1;omega
      have hsa:(gx c (base+i+0) [Value.string ⟨v.toArray⟩])[q]?=if base+i=q then some (.string ⟨v.toArray⟩)else c[q]?:=by
       simp only[gx,Nat.add_zero];rw[Array.getElem?_setIfInBounds];by_cases e:base+i=q
       ·rw[if_pos e,if_pos e,if_pos (by omega)]
       ·rw[if_neg e,if_neg e]
      rw[hsa];rcases vX _ _ _ _ _ hq (by rw[hmixlen];exact hbase)with ⟨g1,g2,g3⟩ | ⟨g1,g2⟩
      ·have hu:=S7 g3;subst hu;rw[hmixlen] at g2;by_cases e:base+i=q
       ·rw[if_pos e,if_pos (by omega)];rfl
       ·rw[if_neg e,if_neg (by omega)];have hq':(l[q - base]?)=some (l[q - base]'(by rw[hg.1];omega)):=List.getElem?_eq_getElem _;obtain⟨b,hb⟩:=hzg _ _ hq';have:=h2 _ _ (hg.2 _ _ hq');rw[show base+(q - base)=q by omega,hb] at this;rw[this];rfl
      ·rw[hmixlen] at g1;rw[if_neg (by omega)];exact h2 q u g2
    ·exact h.elim
   ·exact h.elim
  ·exact h.elim
 ·rename_i key w0 i k v ha hx hn;split at h
  ·rename_i z n av tot ty hk;split at h
   ·rename_i hw0;split at h
    ·rename_i col hcol;split at h
     ·rename_i col' hup;obtain⟨hi,h⟩:=h;have hi:i<n:=hi;subst hw0;have hkl:k<av.length:=(List.getElem?_eq_some_iff.1 hcol).1;obtain⟨ob,ho,c,fr,rfl,h1,h2,h3,h4⟩:=hs.qD key _ hk (SB.mc hi);have hcl:i*av.length+k<c.size:=by
       have:i*av.length+k<n*av.length:=by have:(i+1)*av.length<=n*av.length:=Nat.mul_le_mul_right _ hi;rw[Nat.add_mul] at this;omega
       omega
      obtain⟨u1,u2⟩:=aK.X3 hup E;have hrun:=dN (P:=P) (o:=i*av.length+k) [v.val E] 0 w c ho (h1 rfl) (by simp;omega) (fun u hu=>by simp at hu;subst hu;exact SV.vB (aK.DM hup));have hE:=hs.write hk (SB.mc hi) rfl (B':=.rows z n (av.set k col') false tot ty) (o:=.cells (gx c (i*av.length+k+0) [v.val E]) ty fr) ?_ rfl
      ·have hcell:(v.val E).cells=#[v.val E]:=by
        have hc:=aK.DM hup;cases v<;>first | rfl | (simp[SV.rC] at hc;done) | skip
        rename_i u;cases u<;>first | rfl | (simp[SV.rC] at hc;done)
       simp only[execOp,Instr.storeAt,hr a _ ha,hr x _ hx,SV.val,Instr.sureAddr,Sem.run_bind,Sem.run_pure,Result.andThen_ok,storeVar,bU hn,hcell];simp only[List.size_toArray,List.length_singleton,ne_eq,not_true_eq_false,if_false,hrun,Result.andThen_ok,Out];exact⟨E,none,_,_,fun _ _=>rfl,Nat.le_refl _,(fun v hv=>by cases hv),hE,h⟩
      ·refine⟨_,fr,rfl,fun _=>by rw[bG];exact h1 rfl,by rw[bG,List.length_set];exact h2,by rw[bG];exact h3,fun i' k' cl hi' hk'=> ?_⟩;rw[List.length_set];have hk'l:k'<av.length:=by
        have:=(List.getElem?_eq_some_iff.1 hk').1
        rwa [List.length_set] at this
       have hsa:(gx c (i*av.length+k+0) [v.val E])[i'*av.length+k']?=if i*av.length+k=i'*av.length+k' then some (v.val E)else c[i'*av.length+k']?:=by
        simp only[gx,Nat.add_zero];rw[Array.getElem?_setIfInBounds];by_cases e:i*av.length+k=i'*av.length+k'
        ·rw[if_pos e,if_pos e,if_pos hcl]
        ·rw[if_neg e,if_neg e]
       have hinj:i*av.length+k=i'*av.length+k'->i=i'/\k=k':=fun e=>by
        have e1:i=i':=by
         rcases Nat.lt_trichotomy i i' with hlt | heq | hgt
         ·have:(i+1)*av.length<=i'*av.length:=Nat.mul_le_mul_right _ hlt;rw[Nat.add_mul] at this;omega
         ·exact heq
         ·have:(i'+1)*av.length<=i*av.length:=Nat.mul_le_mul_right _ hgt;rw[Nat.add_mul] at this;omega
        subst e1;exact⟨rfl,by omega⟩
       rw[hsa];rw[List.getElem?_set] at hk';by_cases e:k=k'
       ·rw[if_pos e,if_pos hkl] at hk';injection hk' with hk';subst hk';by_cases ei:i'=i
        ·subst ei;subst e;rw[if_pos rfl,u1]
        ·rw[if_neg (fun h=>ei (hinj h).1.symm),u2 i' ei];subst e;exact h4 i' k col hi' hcol
       ·rw[if_neg e] at hk';rw[if_neg (fun h=>e (hinj h).2)];exact h4 i' k' cl hi' hk'
     ·exact h.elim
    ·exact h.elim
   ·exact h.elim
  ·exact h.elim
 ·rename_i key b o v ha hx hn;split at h
  ·rename_i D cs tot ty hk;split at h
   ·rename_i col hcol;split at h
    ·rename_i col' hup;obtain⟨hD,h⟩:=h;have hD:D b=true:=hD;have hol:o<cs.length:=(List.getElem?_eq_some_iff.1 hcol).1;obtain⟨ob,ho,c,fr,rfl,h1,h2,h3⟩:=hs.jK key _ b hk hD;have hoc:o<c.size:=(Array.getElem?_eq_some_iff.1 (h2 o (col.at b) (by rw[List.getElem?_map,hcol];rfl))).1;have hvc:=SV.vB (E:=E) (aK.DM hup);obtain⟨u1,u2⟩:=aK.X3 hup E;have hrun:=dN (P:=P) (o:=o) [v.val E] 0 w c ho h1 (by simp;omega) (fun u hu=>by simp at hu;subst hu;exact hvc);have hE:=hs.ajx hk hD (cs':=cs.set o col') (o:=.cells (gx c (o+0) [v.val E]) ty fr) ?_ ?_
     ·have hcells:(v.val E).cells=#[v.val E]:=by
       have hc:=aK.DM hup;cases v<;>first | rfl | (simp[SV.rC] at hc;done) | skip
       rename_i u;cases u<;>first | rfl | (simp[SV.rC] at hc;done)
      simp only[execOp,Instr.storeAt,hr a _ ha,hr x _ hx,SV.val,Instr.sureAddr,Sem.run_bind,Sem.run_pure,Result.andThen_ok,storeVar,bU hn];simp only[hcells,List.size_toArray,List.length_singleton,ne_eq,not_true_eq_false,if_false,hrun,Result.andThen_ok,Out];exact⟨E,none,_,_,fun _ _=>rfl,Nat.le_refl _,(fun v hv=>by cases hv),hE,h⟩
     ·refine⟨_,fr,rfl,by rw[bG];exact h1,fun q u hq=> ?_,by rw[bG];exact h3⟩;simp only[gx,Nat.add_zero];rw[Array.getElem?_setIfInBounds];rw[List.getElem?_map,List.getElem?_set] at hq;by_cases e:o=q
      ·rw[if_pos e] at hq ⊢;rw[if_pos hoc];rw[if_pos hol] at hq;injection hq with hq;subst hq;rw[u1]
      ·rw[if_neg e] at hq ⊢;exact h2 q u (by rw[List.getElem?_map];exact hq)
     ·intro b' hb';apply List.ext_getElem?;intro q;rw[List.getElem?_map,List.getElem?_map,List.getElem?_set];by_cases e:o=q
      ·subst e;rw[if_pos rfl,if_pos hol,hcol];exact congrArg some (u2 b' hb')
      ·rw[if_neg e]
    ·exact h.elim
   ·exact h.elim
  ·exact h.elim
 ·exact h.elim
end
end
end Go.Proofs.YtpaaiebohjjieaaGreatDoor.Sx
