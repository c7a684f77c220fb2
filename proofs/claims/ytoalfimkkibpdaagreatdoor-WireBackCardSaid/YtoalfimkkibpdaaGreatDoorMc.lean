/-
  The framework's part 7c: maps with texts as keys, of which the number of entries is not known.
-/
import Derived.Test.YtoalfimkkibpdaaGreatDoorMb
import Derived.MapKept
namespace Go.Proofs.YtoalfimkkibpdaaGreatDoor.Sx
open Go
noncomputable section
def setD (d:List UInt8→Bool)(s:List UInt8):List UInt8→Bool:=fun t=>d t||decide (t=s)
def setG (g:List UInt8→Int)(s:List UInt8)(n:Int):List UInt8→Int:=fun t=>bif decide (t=s)then n else g t
def setV (g:List UInt8→Value)(s:List UInt8)(v:Value):List UInt8→Value:=fun t=>bif decide (t=s)then v else g t
def dflt (b:Bool)(n:Int):Int:=bif b then n else 0
def dfltV (b:Bool)(v:Value):Value:=bif b then v else .pointer none
def FCol.look (c:FCol)(b:Bool)(s:List UInt8)(z:SV):Option SV:=match c,z with
 | .int k g,.int k' _ 0=>if k=k' then some (.int k false (dflt b (g s)))else none
 | .raw g,.nilptr=>some (.raw (dfltV b (g s)))
 | _,_=>none
def FCol.set (c:FCol)(s:List UInt8)(v:SV):Option FCol:=match c,v with
 | .int k g,.int k' _ n=>if k=k' then some (.int k (setG g s n))else none
 | .raw g,.raw u=>some (.raw (setV g s u))
 | .raw g,.nilptr=>some (.raw (setV g s (.pointer none)))
 | _,_=>none
theorem strV_inj {s t:List UInt8} (h:strV s=strV t):s=t:=by
 simp only[strV,Value.string.injEq] at h
 have:=congrArg ByteArray.data h
 simpa using this
theorem uniq_of {α β:Type} {f:α→β}: ∀ {l:List α},(l.map f).Nodup→∀ {a b:α},a∈ l→b∈ l→f a=f b→a=b
 | [],_,a,b,h,_,_=>by cases h
 | x::r,hn,a,b,ha,hb,e=>by
   simp only[List.map_cons,List.nodup_cons,List.mem_map,not_exists,not_and] at hn
   rcases List.mem_cons.1 ha with h1 | h1<;>rcases List.mem_cons.1 hb with h2 | h2
   ·exact h1.trans h2.symm
   ·subst h1;exact absurd e.symm (hn.1 b h2)
   ·subst h2;exact absurd e (hn.1 a h1)
   ·exact uniq_of hn.2 h1 h2 e
theorem FCol.look_val {c:FCol} {b:Bool} {s:List UInt8} {z v:SV} (h:c.look b s z=some v)(E:Nat→Nat):v.val E=if b=true then c.val s else z.val E:=by
 unfold FCol.look at h
 split at h
 ·split at h
  ·rename_i e;subst e
   injection h with h;subst h
   cases b<;>rfl
  ·cases h
 ·injection h with h;subst h
  cases b<;>rfl
 ·cases h
theorem FCol.set_val {c c':FCol} {s:List UInt8} {v:SV} (h:c.set s v=some c')(E:Nat→Nat):c'.val s=v.val E∧∀ t,t≠s→c'.val t=c.val t:=by
 unfold FCol.set at h
 split at h
 ·split at h
  ·rename_i e;subst e
   injection h with h;subst h
   exact⟨by simp[FCol.val,SV.val,setG],fun t ht=>by simp[FCol.val,setG,ht]⟩
  ·cases h
 ·injection h with h;subst h
  exact⟨by simp[FCol.val,SV.val,setV],fun t ht=>by simp[FCol.val,setV,ht]⟩
 ·injection h with h;subst h
  exact⟨by simp[FCol.val,SV.val,setV],fun t ht=>by simp[FCol.val,setV,ht]⟩
 ·cases h
theorem strV_key (s:List UInt8):MapKept.IsKey .string (strV s):=trivial
theorem FmOk.find {d:List UInt8→Bool} {c:FCol} {pend} {es:Array MapEntry} {clock:Nat} (h:FmOk d c pend es clock)(s:List UInt8) :
  (d s=false∧Instr.findNow .string (strV s) es.toList 0=some none∧∀ x∈ es.toList,x.key≠strV s) ∨
  (d s=true∧∃ j e,Instr.findNow .string (strV s) es.toList 0=some (some (j,c.val s))∧es[j]?=some e∧e.key=strV s∧e.val=c.val s):=by
 rcases MapKept.findNow_spec (strV_key s) es.toList 0 h.ks with ⟨h1,h2⟩ | ⟨j,e,h1,h2,h3⟩
 ·cases hd:d s with
  | false=>exact .inl ⟨rfl,h1,h2⟩
  | true =>
    obtain⟨e,he,hk,_⟩:=h.has s hd
    exact absurd hk (h2 e he)
 ·have hj:es[j]?=some e:=by simpa using h2
  have hm:e∈ es.toList:=List.mem_of_getElem? h2
  cases hd:d s with
  | false=>exact absurd h3 (h.no s hd e hm)
  | true =>
    obtain⟨e',he',hk,hv⟩:=h.has s hd
    have:=uniq_of h.st.2.2 he' hm (hk.trans h3.symm)
    subst this
    exact .inr ⟨rfl,j,e',by rw[h1,Nat.zero_add,hv],hj,h3,hv⟩
theorem mem_modify {es:Array MapEntry} {i:Nat} {f:MapEntry→MapEntry} {x:MapEntry}:x∈ (es.modify i f).toList↔∃ j e,es[j]?=some e∧x=if i=j then f e else e:=by
 rw[List.mem_iff_getElem?]
 constructor
 ·rintro⟨j,hj⟩
  rw[Array.getElem?_toList,Array.getElem?_modify] at hj
  by_cases e:i=j
  ·rw[if_pos e] at hj
   obtain⟨y,hy,rfl⟩:=Option.map_eq_some_iff.1 hj
   exact⟨j,y,hy,by rw[if_pos e]⟩
  ·rw[if_neg e] at hj
   exact⟨j,x,hj,by rw[if_neg e]⟩
 ·rintro⟨j,e,hj,rfl⟩
  refine⟨j,?_⟩
  rw[Array.getElem?_toList,Array.getElem?_modify,hj]
  by_cases e:i=j<;>simp[e]
theorem FmOk.put {d:List UInt8→Bool} {c c':FCol} {pend} {es:Array MapEntry} {clock:Nat} (h:FmOk d c pend es clock) {s:List UInt8} {u:Value} (hc:c'.val s=u∧∀ t,t≠s→c'.val t=c.val t)
  {j:Nat} {e:MapEntry} (hj:es[j]?=some e) (hk:e.key=strV s) {f:MapEntry→MapEntry} (hf:(f e).key=strV s∧(f e).val=u∧(f e).born=e.born) (hfb: ∀ x,(f x).born=x.born) (hd:d s=true) {pend'} (hp: ∀ t b,pend'=some (t,b)→t=s∧(e.born:Int)=b):FmOk (setD d s) c' pend' (es.modify j f) clock:=by
 have hkey: ∀ e',es[j]?=some e'→(f e').key=e'.key:=fun e' he'=>by rw[hj] at he';cases he';rw[hf.1,hk]
 have hme:f e∈ (es.modify j f).toList:=mem_modify.2 ⟨j,e,hj,by rw[if_pos rfl]⟩
 refine⟨MapKept.stamped_modify h.st _ _ (fun x _=>hfb x) (fun e' _ he'=>hkey e' he'),MapKept.isKey_modify h.ks _ _ hkey,fun t ht=> ?_,fun t ht x hx=> ?_,fun t b ht=> ?_⟩
 ·by_cases e1:t=s
  ·subst e1
   exact⟨f e,hme,hf.1,by rw[hf.2.1,hc.1]⟩
  ·obtain⟨x,hx,hxk,hxv⟩:=h.has t (by simpa [setD,e1] using ht)
   rw[List.mem_iff_getElem?] at hx
   obtain⟨i,hi⟩:=hx
   rw[Array.getElem?_toList] at hi
   have hne:j≠i:=fun e2=>by
    subst e2
    rw[hj] at hi;cases hi
    exact e1 (strV_inj (hxk.symm.trans hk))
   exact⟨x,mem_modify.2 ⟨i,x,hi,by rw[if_neg hne]⟩,hxk,by rw[hxv,hc.2 t e1]⟩
 ·have hts:t≠s∧d t=false:=by
   simp only[setD,Bool.or_eq_false_iff,decide_eq_false_iff_not] at ht
   exact⟨ht.2,ht.1⟩
  obtain⟨i,y,hi,rfl⟩:=mem_modify.1 hx
  have hy:y∈ es.toList:=List.mem_of_getElem? (by rw[Array.getElem?_toList];exact hi)
  by_cases e1:j=i
  ·rw[if_pos e1]
   subst e1
   rw[hkey y hi];exact h.no t hts.2 y hy
  ·rw[if_neg e1];exact h.no t hts.2 y hy
 ·obtain⟨rfl,hb⟩:=hp t b ht
  exact⟨f e,hme,by rw[hf.2.2];exact hb,hf.1⟩
theorem FmOk.add {d:List UInt8→Bool} {c c':FCol} {pend} {es:Array MapEntry} {clock:Nat} (h:FmOk d c pend es clock) {s:List UInt8} {u:Value} (hc:c'.val s=u∧∀ t,t≠s→c'.val t=c.val t)
  (hn: ∀ x∈ es.toList,x.key≠strV s) {pend'} (hp: ∀ t b,pend'=some (t,b)→t=s∧(clock:Int)=b):FmOk (setD d s) c' pend' (es.push {key:=strV s,val:=u,born:=clock}) (clock+1):=by
 have mem: ∀ {x},x∈ (es.push {key:=strV s,val:=u,born:=clock}).toList↔x∈ es.toList∨x={key:=strV s,val:=u,born:=clock}:=by
  intro x;simp only[Array.toList_push,List.mem_append,List.mem_singleton]
 refine⟨MapKept.stamped_push h.st hn,fun x hx=> ?_,fun t ht=> ?_,fun t ht x hx=> ?_,fun t b ht=> ?_⟩
 ·rcases mem.1 hx with hx | rfl
  ·exact h.ks x hx
  ·trivial
 ·by_cases e1:t=s
  ·subst e1
   exact⟨_,mem.2 (.inr rfl),rfl,hc.1.symm⟩
  ·obtain⟨x,hx,hxk,hxv⟩:=h.has t (by simpa [setD,e1] using ht)
   exact⟨x,mem.2 (.inl hx),hxk,by rw[hxv,hc.2 t e1]⟩
 ·simp only[setD,Bool.or_eq_false_iff,decide_eq_false_iff_not] at ht
  rcases mem.1 hx with hx | rfl
  ·exact h.no t ht.1 x hx
  ·exact fun e1=>ht.2 (strV_inj e1.symm)
 ·obtain⟨rfl,hb⟩:=hp t b ht
  exact⟨_,mem.2 (.inr rfl),hb,rfl⟩
theorem FmOk.nil (c:FCol)(clock:Nat):FmOk (fun _=>false) c none #[] clock :=
 ⟨MapKept.stamped_empty clock,by simp,(fun _ h=>by cases h),by simp,(fun _ _ h=>by cases h)⟩
end
end Go.Proofs.YtoalfimkkibpdaaGreatDoor.Sx
namespace Go.Proofs.YtoalfimkkibpdaaGreatDoor.Sx
open Go
noncomputable section
def keyEq:SV→SV→Option (Bool×Bool)
 | .str l s,.str l' s'=>some (l&&l',decide (s=s'))
 | .int k l a,.int k' l' b=>if k=k' then some (l&&l',decide (a=b))else none
 | .bool l a,.bool l' b=>some (l&&l',decide (a=b))
 | _,_=>none
def keyD:TypeDesc→SV→Bool
 | .string,.str .. =>true
 | .int k,.int k' .. =>decide (k'=k)
 | .bool,.bool .. =>true
 | _,_=>false
theorem keyD_is {d:TypeDesc} {v:SV} (h:keyD d v=true)(E:Nat→Nat):MapKept.IsKey d (v.val E):=by
 unfold keyD at h
 split at h
 ·trivial
 ·have h:=of_decide_eq_true h;exact h
 ·trivial
 ·cases h
theorem keyEq_same {d:TypeDesc} {a b:SV} {l e:Bool} (ha:keyD d a=true)(hb:keyD d b=true)(h:keyEq a b=some (l,e))(E:Nat→Nat) :
  Instr.sameNow d (a.val E) (b.val E)=some e∧(e=true→a.val E=b.val E):=by
 obtain⟨r,h1,h2⟩:=MapKept.sameNow_of_keys (keyD_is ha E) (keyD_is hb E)
 have he:e=true↔a.val E=b.val E:=by
  unfold keyEq at h
  split at h
  ·injection h with h;injection h with _ h;subst h
   simp only[decide_eq_true_eq,SV.val,Value.string.injEq]
   constructor
   ·intro h;rw[h]
   ·intro h
    have:=congrArg ByteArray.data h
    simpa using this
  ·split at h
   ·rename_i hk
    injection h with h;injection h with _ h;subst h;subst hk
    simp[SV.val]
   ·cases h
  ·injection h with h;injection h with _ h;subst h
   simp[SV.val]
  ·cases h
 rw[h1]
 refine⟨?_,he.1⟩
 congr 1
 cases r<;>cases e<;>simp_all
abbrev Hit:=Option (Nat×(Nat×SV×SV))
def mapFind (d:TypeDesc)(k:SV)(t:Hit→VC):List (Nat×SV×SV)→Nat→VC
 | [],_=>t none
 | e::r,i=>match keyD d e.2.1,keyEq k e.2.1 with
   | true,some (true,b)=>(match b with
     | true=>t (some (i,e))
     | false=>mapFind d k t r (i+1))
   | true,some (false,b)=>fork b fun b=>(match b with
     | true=>t (some (i,e))
     | false=>mapFind d k t r (i+1))
   | _,_=>.fail "map: keys"
theorem mapFind_iff {d:TypeDesc} {k:SV} (hk:keyD d k=true): ∀(es:List (Nat×SV×SV))(i:Nat),∃(obl:Prop)(r:Hit),(∀ t,(mapFind d k t es i).holds↔obl∧(t r).holds) ∧
  (obl→(∀ E,Instr.findNow d (k.val E) (ents E es) i=some (r.map fun x=>(x.1,x.2.2.2.val E)))∧∀ j e,r=some (j,e)→i≤j∧es[j - i]?=some e∧∀ E,e.2.1.val E=k.val E)
 | [],i=>⟨True,none,fun t=>⟨fun h=>⟨trivial,h⟩,fun h=>h.2⟩,fun _=>⟨fun _=>rfl,fun _ _ h=>by cases h⟩⟩
 | e::r,i=>by
   obtain⟨obl,x,h1,h2⟩:=mapFind_iff hk r (i+1)
   have fl: ∀ why:String,∃(obl:Prop) (r':Hit),(∀ t:Hit→VC,(VC.fail why).holds↔obl∧(t r').holds) ∧
     (obl→(∀ E,Instr.findNow d (k.val E) (ents E (e::r)) i=some (r'.map fun x=>(x.1,x.2.2.2.val E)))∧∀ j e',r'=some (j,e')→i≤j∧(e::r)[j - i]?=some e'∧∀ E,e'.2.1.val E=k.val E) :=
    fun why=>⟨False,none,fun t=>⟨fun h=>h.elim,fun h=>h.1.elim⟩,fun h=>h.elim⟩
   cases hd:keyD d e.2.1 with
   | false=>simp only[mapFind,hd];exact fl _
   | true =>
     cases he:keyEq k e.2.1 with
     | none=>simp only[mapFind,hd,he];exact fl _
     | some q =>
       obtain⟨l,b⟩:=q
       have key:=fun E=>keyEq_same hk hd he E
       have fnd: ∀ E,Instr.findNow d (k.val E) (ents E (e::r)) i=(match b with
         | true=>some (some (i,e.2.2.val E))
         | false=>Instr.findNow d (k.val E) (ents E r) (i+1)):=fun E=>by
        show Instr.findNow d (k.val E) ({key:=e.2.1.val E,val:=e.2.2.val E,born:=e.1}::ents E r) i=_
        rw[Instr.findNow]
        simp only[(key E).1]
        cases b<;>rfl
       have main: ∃(obl:Prop) (r':Hit),(∀ t:Hit→VC,(match b with | true=>t (some (i,e)) | false=>mapFind d k t r (i+1)).holds↔obl∧(t r').holds) ∧
         (obl→(∀ E,Instr.findNow d (k.val E) (ents E (e::r)) i=some (r'.map fun x=>(x.1,x.2.2.2.val E)))∧∀ j e',r'=some (j,e')→i≤j∧(e::r)[j - i]?=some e'∧∀ E,e'.2.1.val E=k.val E):=by
        cases b with
        | true =>
          refine⟨True,some (i,e),fun t=>⟨fun h=>⟨trivial,h⟩,fun h=>h.2⟩,fun _=>⟨fun E=>by rw[fnd E];rfl,fun j e' h=> ?_⟩⟩
          injection h with h;injection h with h3 h4;subst h3;subst h4
          exact⟨Nat.le_refl _,by simp,fun E=>((key E).2 rfl).symm⟩
        | false =>
          refine⟨obl,x,h1,fun ho=>⟨fun E=>by rw[fnd E];exact(h2 ho).1 E,fun j e' h=> ?_⟩⟩
          obtain⟨g1,g2,g3⟩:=(h2 ho).2 j e' h
          refine⟨by omega,?_,g3⟩
          rw[show j - i=(j - (i+1))+1 by omega];simpa using g2
       cases l with
       | true=>simp only[mapFind,hd,he];exact main
       | false =>
         simp only[mapFind,hd,he]
         obtain⟨obl',r',m1,m2⟩:=main
         refine⟨obl',r',fun t=> ?_,m2⟩
         rw[fork_iff]
         exact m1 t
def lookRes (ok:Bool)(z:SV):Hit→SV
 | some (_,e)=>(match ok with
   | true=>.tup [e.2.2,.bool true true]
   | false=>e.2.2)
 | none=>(match ok with
   | true=>.tup [z,.bool true false]
   | false=>z)
def qlookup (P:Program)(look:Look)(t:TypeId)(x k:SV)(ok:Bool)(K:Option SV→VC):VC :=
 match P.underlying t with
 | some (.map kt et)=>(match P.underlying kt,zeroSV P et with
   | some d,some z=>(match keyD d k,x with
     | true,.nilmap=>K (some (lookRes ok z none))
     | true,.map key=>(match look key with
       | some (.map es _)=>mapFind d k (fun r=>K (some (lookRes ok z r))) es 0
       | some (.fmap f c _)=>(match d,k with
         | .string,.str _ s=>(match c.look (f s) s z with
           | some v=>K (some (match ok with
             | true=>.tup [v,.bool false (f s)]
             | false=>v))
           | none=>.fail "lookup: what a map holds")
         | _,_=>.fail "lookup: a key")
       | _=>.fail "lookup: no map")
     | _,_=>.fail "lookup")
   | _,_=>.fail "lookup: types")
 | _=>.fail "lookup: no map type"
section
variable {P : Program} {look : Look} {σ : Operand → Option SV}
theorem qlookup_ok {t:TypeId} {x k:Operand} {ok:Bool} {a b:SV} (hx:σ x=some a)(hk:σ k=some b) :
  QOk P look σ (fun ρ=>Instr.lookup t (ρ x) (ρ k) ok) (qlookup P look t a b ok):=by
 unfold qlookup
 split
 ·rename_i kt et ht
  split
  ·rename_i d z hd hz
   split
   ·rename_i hkd
    refine QOk.v _ fun E w ρ hc hr=> ?_
    simp only[Instr.lookup,hr x _ hx,hr k _ hk,Sem.run_bind,run_und ht,Result.andThen_ok,SV.val,Sem.run_pure]
    cases ok<;>simp[Instr.findKey,run_und hd,Instr.findNow,zeroSV_run (E:=E) hz,lookRes,SV.val,SV.vals,MapKept.run_checkKey hd (keyD_is hkd E)]
   ·rename_i key hkd
    split
    ·rename_i es clock hl
     obtain⟨obl,r,h1,h2⟩:=mapFind_iff hkd es 0
     refine⟨obl,some (lookRes ok z r),fun K=>h1 _,fun E w ρ hc hr ho=> ?_⟩
     obtain⟨ob,hob,hb⟩:=hc.1 key _ hl rfl
     have hb:ob=.map (ents E es).toArray clock:=hb
     subst hb
     have hf:=(h2 ho).1 E
     have hf':Instr.findNow d (b.val E) (ents E es).toArray.toList 0=_:=hf
     refine⟨(lookRes ok z r).val E,?_,fun v hv=>by injection hv with hv;rw[← hv]⟩
     simp only[Instr.lookup,hr x _ hx,hr k _ hk,Sem.run_bind,run_und ht,Result.andThen_ok,SV.val,Sem.run_pure,MapKept.run_getObj_map hob,MapKept.run_checkKey hd (keyD_is hkd E) _ 9999,Instr.findKey,run_und hd,hf']
     cases r with
     | none=>cases ok<;>simp[zeroSV_run (E:=E) hz,lookRes,SV.val,SV.vals]
     | some q=>cases ok<;>simp[lookRes,SV.val,SV.vals]
    ·rename_i f c pend hl
     split
     ·rename_i lt s
      split
      ·rename_i v hv
       refine QOk.k _ fun E w ρ hc hr=> ?_
       obtain⟨ob,hob,es,clock,rfl,hfm⟩:=hc.1 key _ hl rfl
       have hlv:=FCol.look_val hv E
       refine⟨match ok with
        | true=>.tuple #[v.val E,.bool (f s)]
        | false=>v.val E,?_,fun u hu=>by injection hu with hu;subst hu;cases ok<;>rfl⟩
       simp only[Instr.lookup,hr x _ hx,hr k _ hk,Sem.run_bind,run_und ht,Result.andThen_ok,SV.val,Sem.run_pure,MapKept.run_getObj_map hob,MapKept.run_checkKey (k:=.string ⟨s.toArray⟩) hd trivial _ 9999,Instr.findKey,run_und hd]
       rcases hfm.find s with ⟨h1,h2,_⟩ | ⟨h1,j,e,h2,_⟩
       ·have h2':Instr.findNow .string (.string ⟨s.toArray⟩) es.toList 0=_:=h2
        rw[h1] at hlv ⊢
        simp only[h2',Sem.run_pure,Result.andThen_ok,Sem.run_bind,zeroSV_run (E:=E) hz,hlv]
        cases ok<;>simp
       ·have h2':Instr.findNow .string (.string ⟨s.toArray⟩) es.toList 0=_:=h2
        rw[h1] at hlv ⊢
        simp only[h2',Sem.run_pure,Result.andThen_ok,Sem.run_bind,hlv]
        cases ok<;>simp
      ·exact QOk.fail _
     ·exact QOk.fail _
    ·exact QOk.fail _
   ·exact QOk.fail _
  ·exact QOk.fail _
 ·exact QOk.fail _
end
end
end Go.Proofs.YtoalfimkkibpdaaGreatDoor.Sx
namespace Go.Proofs.YtoalfimkkibpdaaGreatDoor.Sx
open Go
noncomputable section
def bytesOf:List SV→Option (Bool×List UInt8)
 | []=>some (true,[])
 | .int .u8 l v::r=>(match bytesOf r with
   | some (l',bs)=>some (l&&l',UInt8.ofNat v.toNat::bs)
   | none=>none)
 | _=>none
def isBytes (P:Program)(t:TypeId):Bool:=match P.underlying t with
 | some (.slice e)=>(match P.underlying e with
   | some (.int .u8)=>true
   | _=>false)
 | _=>false
def bytesFrom (f:Nat→Int)(i n:Nat):List UInt8:=(List.range n).map fun j=>UInt8.ofNat (f (i+j)).toNat
theorem bytesOf_ints (g:Nat→Int): ∀ l:List Nat,∃ lt,bytesOf (l.map fun j=>SV.int .u8 false (g j))=some (lt,l.map fun j=>UInt8.ofNat (g j).toNat)
 | []=>⟨true,rfl⟩
 | a::r=>by
   obtain⟨lt,h⟩:=bytesOf_ints g r
   exact⟨false&&lt,by simp only[List.map_cons,bytesOf,h]⟩
def qbytes (look:Look)(a:SV)(K:Option SV→VC):VC:=match a with
 | .nilslc=>K (some (.str true []))
 | .slc key o n _ _=>(match look key with
   | some (.cells cs _ _)=>(match takeAt cs o n with
     | some l=>(match bytesOf l with
       | some (l',bs)=>K (some (.str l' bs))
       | none=>.fail "convert: bytes that are not known")
     | none=>.fail "convert: a slice out of its block")
   | _=>.fail "convert: the block")
 | .rslc key 1 false i n _=>(match look key with
   | some (.rows false nb [.int .u8 f] _ _ _)=>.and (.atom (i+n≤nb)) (K (some (.str false (bytesFrom f i n))))
   | _=>.fail "convert: the block")
 | _=>.fail "convert: a slice"
def qconvB (P:Program)(look:Look)(src dst:TypeId)(a:SV)(K:Option SV→VC):VC:=match isBytes P src,P.underlying dst with
 | true,some .string=>qbytes look a K
 | _,_=>qconv P src dst a K
def pushByte (c:Value)(s:ByteArray):Sem (ForInStep ByteArray):=do
 let .int .u8 n:=c | stuck "bytesToString: byte expected"
 pure (.yield (s.push (UInt8.ofNat n.toNat)))
theorem bytesToString_eq (a:Addr)(n c:Nat):Conv.bytesToString (.slice (some a) n c)=(do
  let s ← forIn (← loadCells a n) ByteArray.empty pushByte
  pure (.string s)):=rfl
theorem run_pushes {P:Program} {w:World} {E:Nat→Nat}: ∀ {l:List SV} {lt:Bool} {bs:List UInt8} (acc:List UInt8),bytesOf l=some (lt,bs) →
  (forIn (SV.vals E l) (⟨acc.toArray⟩:ByteArray) pushByte).run P w=.ok ⟨(acc++bs).toArray⟩ w
 | [],lt,bs,acc,h=>by
   simp only[bytesOf,Option.some.injEq,Prod.mk.injEq] at h
   obtain⟨_,rfl⟩:=h
   simp[SV.vals]
 | x::r,lt,bs,acc,h=>by
   unfold bytesOf at h
   split at h
   ·rename_i e;cases e
   ·rename_i l v r' e
    injection e with e1 e2;subst e1;subst e2
    split at h
    ·rename_i l' bs' hr
     simp only[Option.some.injEq,Prod.mk.injEq] at h
     obtain⟨_,rfl⟩:=h
     simp only[SV.vals,SV.val,List.forIn_cons,Sem.run_bind]
     have:(pushByte (.int .u8 v) ⟨acc.toArray⟩).run P w=.ok (.yield ⟨(acc++[UInt8.ofNat v.toNat]).toArray⟩) w:=by
      simp[pushByte,ByteArray.push]
     rw[this]
     simp only[Result.andThen_ok]
     rw[run_pushes (acc++[UInt8.ofNat v.toNat]) hr]
     simp
    ·cases h
   ·cases h
section
variable {P : Program} {look : Look} {σ : Operand → Option SV}
theorem run_convBytes {src dst:TypeId} {v:Value} {w:World} (hb:isBytes P src=true)(hd:P.underlying dst=some .string)(hv: ∀ k n,v≠.int k n)(hs: ∀ b,v≠.string b) :
  (convert src dst v).run P w=(Conv.bytesToString v).run P w:=by
 unfold isBytes at hb
 split at hb
 ·rename_i e he
  split at hb
  ·rename_i he2
   simp only[convert,Sem.run_bind,run_und he,run_und hd,Result.andThen_ok]
   cases v<;>first
    | (rename_i k n;exact absurd rfl (hv k n))
    | (rename_i b;exact absurd rfl (hs b))
    | (simp only[run_und he2,Result.andThen_ok])
  ·cases hb
 ·cases hb
theorem qconvB_ok {src dst:TypeId} {x:Operand} {a:SV} (hx:σ x=some a):QOk P look σ (fun ρ=>convert src dst (ρ x)) (qconvB P look src dst a):=by
 unfold qconvB
 split
 ·rename_i hb hd
  unfold qbytes
  split
  ·exact QOk.v _ fun E w ρ hc hr=>by
    rw[hr x _ hx,run_convBytes hb hd (fun _ _ h=>by cases h) (fun _ h=>by cases h)]
    rfl
  ·rename_i key o n cl c
   split
   ·rename_i cs tot ty hk
    split
    ·rename_i l hl
     split
     ·rename_i l' bs hbs
      refine QOk.v _ fun E w ρ hc hr=> ?_
      obtain⟨ob,ho,c0,fr,rfl,_,h2,_⟩:=hc.1 key _ hk rfl
      have hg:=takeAt_get hl
      have hll:=run_loadCells (P:=P) ho o (SV.vals E l) (fun j v hj=>by
       rw[SV.vals_eq,List.getElem?_map] at hj
       cases hjl:l[j]? with
       | none=>rw[hjl] at hj;cases hj
       | some u=>rw[hjl] at hj;injection hj with hj;subst hj;exact h2 _ _ (hg.2 j u hjl))
      have hlen:(SV.vals E l).length=n:=by rw[SV.vals_eq,List.length_map,hg.1]
      rw[hlen] at hll
      rw[hr x _ hx,run_convBytes hb hd (fun _ _ h=>by cases h) (fun _ h=>by cases h)]
      simp only[SV.val,bytesToString_eq,Sem.run_bind,hll,Result.andThen_ok]
      rw[← Array.forIn_toList]
      have:=run_pushes (P:=P) (w:=w) (E:=E) [] hbs
      simp only[List.nil_append] at this
      exact(congrArg (fun r:Result ByteArray=>r.andThen fun a w'=>Sem.run P (pure (Value.string a)) w') this).trans rfl
     ·exact QOk.fail _
    ·exact QOk.fail _
   ·exact QOk.fail _
  ·rename_i key i n c
   split
   ·rename_i nb f ro tot ty hk
    refine QOk.atom fun hin=>QOk.v _ fun E w ρ hc hr=> ?_
    obtain⟨ob,ho,c0,fr,rfl,_,_,_,h2⟩:=hc.1 key _ hk rfl
    obtain⟨lt,hbs⟩:=bytesOf_ints (fun j=>f (i+j)) (List.range n)
    have hl:(SV.vals E ((List.range n).map fun j=>SV.int .u8 false (f (i+j)))).length=n:=by rw[SV.vals_eq,List.length_map,List.length_map,List.length_range]
    have hll:=run_loadCells (P:=P) ho (i*1) (SV.vals E ((List.range n).map fun j=>SV.int .u8 false (f (i+j)))) (fun j v hj=>by
     rw[SV.vals_eq,List.map_map,List.getElem?_map] at hj
     by_cases hjn:j<n
     ·rw[List.getElem?_range hjn] at hj
      injection hj with hj;subst hj
      have:=h2 (i+j) 0 (.int .u8 f) (by omega) rfl
      rw[show i*1+j=(i+j)*[Col.int IntKind.u8 f].length+0 by simp]
      exact this
     ·rw[List.getElem?_eq_none (by simpa using hjn)] at hj;cases hj)
    rw[hl] at hll
    rw[hr x _ hx,run_convBytes hb hd (fun _ _ h=>by cases h) (fun _ h=>by cases h)]
    simp only[SV.val,Bool.false_and,cond_false,bytesToString_eq,Sem.run_bind,hll,Result.andThen_ok]
    rw[← Array.forIn_toList]
    have:=run_pushes (P:=P) (w:=w) (E:=E) [] hbs
    simp only[List.nil_append] at this
    exact(congrArg (fun r:Result ByteArray=>r.andThen fun a w'=>Sem.run P (pure (Value.string a)) w') this).trans rfl
   ·exact QOk.fail _
  ·exact QOk.fail _
 ·exact qconv_ok hx
end
def quietConv (P:Program)(src dst:TypeId):Bool :=
 match P.underlying src,P.underlying dst with
 | some (.int _),some (.int _)=>true
 | some .string,some .string=>true
 | _,some .string=>isBytes P src
 | _,_=>false
def isQuiet (P:Program):Op→Bool
 | .move _ | .assign _ | .pick .. | .load .. | .nilCheck _ | .binOp .. | .unOp .. | .makeInterface .. | .makeFunc .. | .slice .. | .fieldAddr .. | .field ..
 | .indexAddr .. | .index .. | .typeAssert .. | .extract .. | .build .. | .lookup .. =>true
 | .convert s d _=>quietConv P s d
 | .call c=>(match c.callee with
   | .builtin .len | .builtin .cap | .builtin .min | .builtin .max=>true
   | _=>false)
 | _=>false
def need (x:Option SV)(t:SV→VC):VC :=
 match x with
 | some v=>t v
 | none=>.fail "a value that is not known"
def qnil (x:Option SV)(K:Option SV→VC):VC :=
 match x with
 | some (.ptr a b c)=>K (some (.ptr a b c))
 | some (.eptr a b c d)=>K (some (.eptr a b c d))
 | some (.veptr a b c d e)=>K (some (.veptr a b c d e))
 | some (.iface t v)=>K (some (.iface t v))
 | some (.func (.func f) a b)=>K (some (.func (.func f) a b))
 | _=>.fail "nilCheck"
def qpick (c a b:Option SV)(K:Option SV→VC):VC :=
 match c with
 | some (.bool true v)=>(match v with
   | true=>K a
   | false=>K b)
 | some (.bool false v)=>fork v (fun e=>match e with
   | true=>K a
   | false=>K b)
 | _=>.fail "pick"
def qlenM (P:Program)(look:Look)(t:TypeId)(x:SV)(K:Option SV→VC):VC :=
 match x with
 | .map key=>(match P.underlying t,look key with
   | some (.map _ _),some (.map es _)=>K (some (.int .i64 true es.length))
   | _,_=>.fail "len: no map")
 | _=>qlen P t x K
theorem qlenM_ok {P:Program} {look:Look} {σ:Operand→Option SV} {t:TypeId} {ats:Array TypeId} {ty:TypeId} {x:Operand} {a:SV} (hx:σ x=some a)(h0:ats[0]?=some t) :
  QOk P look σ (fun ρ=>Builtin.len_ ats ty #[ρ x]) (qlenM P look t a):=by
 unfold qlenM
 split
 ·rename_i key
  split
  ·rename_i kt et es clock ht hl
   refine QOk.v _ fun E w ρ hc hr=> ?_
   obtain⟨ob,hob,hb⟩:=hc.1 key _ hl rfl
   have hb:ob=.map (ents E es).toArray clock:=hb
   subst hb
   simp[Builtin.len_,h0,hr x _ hx,SV.val,run_und ht,MapKept.run_getObj_map hob,goInt,ents]
  ·exact QOk.fail _
 ·exact qlen_ok hx h0
def qcall (P:Program)(look:Look)(σ:Operand→Option SV)(b:Builtin)(ats:Array TypeId)(args:List Operand)(K:Option SV→VC):VC :=
 match b,args with
 | .len,[x]=>(match ats[0]? with
   | some t=>need (σ x) (fun v=>qlenM P look t v K)
   | none=>.fail "len")
 | .cap,[x]=>(match ats[0]? with
   | some t=>need (σ x) (fun v=>qcap P t v K)
   | none=>.fail "cap")
 | .min,[x,y]=>need (σ x) (fun v=>need (σ y) (fun u=>qminmax false v u K))
 | .max,[x,y]=>need (σ x) (fun v=>need (σ y) (fun u=>qminmax true v u K))
 | _,_=>.fail "builtin"
def qop (P:Program)(look:Look)(σ:Operand→Option SV)(o:Op)(K:Option SV→VC):VC :=
 match o with
 | .move x | .assign x=>K (σ x)
 | .pick c a b=>qpick (σ c) (σ a) (σ b) K
 | .load t a=>qload P look t (σ a) K
 | .nilCheck x=>qnil (σ x) K
 | .binOp op t x y _=>need (σ x) (fun a=>need (σ y) (fun b=>qbin P op t (isConst x||isConst y) a b K))
 | .unOp op _ x=>need (σ x) (fun a=>qun op a K)
 | .convert s d x=>need (σ x) (fun a=>qconvB P look s d a K)
 | .makeInterface t x=>need (σ x) (fun a=>qmakeIface P t a K)
 | .makeFunc fn a b=>qmakeFunc fn (evs σ a.toList) (evs σ b.toList) K
 | .slice t x lo hi mx=>qslice P σ t (σ x) lo hi mx K
 | .fieldAddr s x f=>qfieldAddr P s (σ x) f K
 | .field t x f=>need (σ x) (fun a=>qfield P t a f K)
 | .indexAddr t x i=>qindexAddr P t (σ x) (σ i) K
 | .index t x i=>need (σ x) (fun a=>need (σ i) (fun b=>qindex P t a b K))
 | .typeAssert x _ at_ ok=>need (σ x) (fun a=>qassert P a at_ ok K)
 | .extract x i=>need (σ x) (fun a=>qextract a i K)
 | .build t parts=>qbuild P σ t parts.toList K
 | .lookup t x k ok=>need (σ x) (fun a=>need (σ k) (fun b=>qlookup P look t a b ok K))
 | .call c=>(match c.callee with
   | .builtin b=>qcall P look σ b c.argTypes c.args.toList K
   | _=>.fail "call")
 | _=>.fail "no quiet operation"
def QOp (P:Program)(look:Look)(σ:Operand→Option SV)(o:Oper)(t:QT):Prop :=
 ∃(obl:Prop) (sv:Option SV),(∀ K,(t K).holds↔obl∧(K sv).holds) ∧
  (∀ E w ρ,Compat E look w→Reads E σ ρ→obl→∃ r,(execOp ρ o).run P w=.ok (.value r) w∧∀ v,sv=some v→r=v.val E)
section
variable {P : Program} {look : Look} {σ : Operand → Option SV}
theorem QOp.of {s:(Operand→Value)→Sem Value} {o:Oper} {t:QT} (h:QOk P look σ s t)(he: ∀ ρ,execOp ρ o=(do pure (.value (← s ρ)):Sem Next)):QOp P look σ o t:=by
 obtain⟨obl,sv,h1,h2⟩:=h
 refine⟨obl,sv,h1,fun E w ρ hc hr ho=> ?_⟩
 obtain⟨r,hrun,hv⟩:=h2 E w ρ hc hr ho
 exact⟨r,by rw[he,Sem.run_bind,hrun];rfl,hv⟩
theorem QOp.fail {o:Oper} (why:String):QOp P look σ o (fun _=>.fail why) :=
 ⟨False,none,fun _K=>⟨fun h=>h.elim,fun h=>h.1.elim⟩,fun _ _ _ _ _ h=>h.elim⟩
theorem QOp.need {o:Oper} {x:Operand} {t:SV→QT} (h: ∀ v,σ x=some v→QOp P look σ o (t v)):QOp P look σ o (fun K=>need (σ x) (fun v=>t v K)):=by
 unfold Sx.need
 cases hx:σ x with
 | none=>exact QOp.fail _
 | some v=>exact h v hx
theorem QOp.k {o:Oper} (x:Operand)(he: ∀ ρ,execOp ρ o=(pure (.value (ρ x)):Sem Next)):QOp P look σ o (fun K=>K (σ x)) :=
 ⟨True,σ x,fun K=>⟨fun h=>⟨trivial,h⟩,fun h=>h.2⟩,fun E w ρ _ hr _=>⟨ρ x,by rw[he];rfl,fun v hv=>hr x v hv⟩⟩
theorem qop_ok (o:Oper):QOp P look σ o (qop P look σ o.op):=by
 obtain⟨dst,op,type,pos,after,guard⟩:=o
 cases op
 case move x=>exact QOp.k x fun ρ=>rfl
 case assign x=>exact QOp.k x fun ρ=>rfl
 case pick c a b =>
  show QOp P look σ _ (qpick (σ c) (σ a) (σ b))
  unfold qpick
  have key: ∀ l v,σ c=some (.bool l v)→QOp P look σ ⟨dst,.pick c a b,type,pos,after,guard⟩ (fun K=>match v with | true=>K (σ a) | false=>K (σ b)):=by
   intro l v hc
   have he: ∀ E ρ w,Reads E σ ρ→(execOp ρ ⟨dst,.pick c a b,type,pos,after,guard⟩).run P w=.ok (.value (if v then ρ a else ρ b)) w:=by
    intro E ρ w hr
    simp only[execOp,hr c _ hc,SV.val,asBool,Sem.run_bind,Sem.run_pure,Result.andThen_ok]
   cases v with
   | true=>exact⟨True,σ a,fun K=>⟨fun h=>⟨trivial,h⟩,fun h=>h.2⟩,fun E w ρ _ hr _=>⟨ρ a,by rw[he E ρ w hr];rfl,fun v hv=>hr a v hv⟩⟩
   | false=>exact⟨True,σ b,fun K=>⟨fun h=>⟨trivial,h⟩,fun h=>h.2⟩,fun E w ρ _ hr _=>⟨ρ b,by rw[he E ρ w hr];rfl,fun v hv=>hr b v hv⟩⟩
  split
  ·rename_i v hc;exact key _ _ hc
  ·rename_i v hc
   obtain⟨obl,sv,h1,h2⟩:=key _ _ hc
   exact⟨obl,sv,fun K=>by rw[fork_iff];exact h1 K,h2⟩
  ·exact QOp.fail _
 case load t a=>exact QOp.of (qload_ok t a) fun ρ=>rfl
 case nilCheck x =>
  show QOp P look σ _ (qnil (σ x))
  unfold qnil
  split
  all_goals first
   | exact QOp.fail _
   | (rename_i hx;exact⟨True,_,fun K=>⟨fun h=>⟨trivial,h⟩,fun h=>h.2⟩,fun E w ρ _ hr _=>⟨_,by simp only[execOp,hr x _ hx,SV.val];rfl,fun v hv=>by injection hv with hv;subst hv;rfl⟩⟩)
 case binOp op t x y yt=>exact QOp.need fun a ha=>QOp.need fun b hb=>QOp.of (qbin_ok (_yt:=yt) ha hb) fun ρ=>rfl
 case unOp op t x=>exact QOp.need fun a ha=>QOp.of (qun_ok ha) fun ρ=>rfl
 case convert s d x=>exact QOp.need fun a ha=>QOp.of (qconvB_ok ha) fun ρ=>rfl
 case makeInterface t x=>exact QOp.need fun a ha=>QOp.of (qmakeIface_ok ha) fun ρ=>rfl
 case makeFunc fn a b=>exact QOp.of qmakeFunc_ok fun ρ=>rfl
 case slice t x lo hi mx=>exact QOp.of qslice_ok fun ρ=>rfl
 case fieldAddr s x f=>exact QOp.of (qfieldAddr_ok s x f) fun ρ=>rfl
 case field t x f=>exact QOp.need fun a ha=>QOp.of (qfield_ok ha) fun ρ=>rfl
 case indexAddr t x i=>exact QOp.of (qindexAddr_ok t x i) fun ρ=>rfl
 case index t x i=>exact QOp.need fun a ha=>QOp.need fun b hb=>QOp.of (qindex_ok ha hb) fun ρ=>rfl
 case typeAssert x t at_ ok=>exact QOp.need fun a ha=>QOp.of (qassert_ok (t:=t) ha) fun ρ=>rfl
 case extract x i=>exact QOp.need fun a ha=>QOp.of (qextract_ok ha) fun ρ=>rfl
 case build t parts=>exact QOp.of qbuild_ok fun ρ=>rfl
 case lookup t x k ok=>exact QOp.need fun a ha=>QOp.need fun b hb=>QOp.of (qlookup_ok ha hb) fun ρ=>rfl
 case call c =>
  obtain⟨callee,args,ats⟩:=c
  cases callee with
  | value f=>exact QOp.fail _
  | invoke r m=>exact QOp.fail _
  | builtin b =>
    show QOp P look σ _ (qcall P look σ b ats args.toList)
    unfold qcall
    have harr: ∀ {l:List Operand},args.toList=l→args=l.toArray:=fun h=>by rw[← h]
    split
    ·rename_i x hx
     have:=harr hx;subst this
     split
     ·rename_i t ht
      exact QOp.need fun a ha=>QOp.of (qlenM_ok (ty:=type) ha ht) fun ρ=>(BigFrame.execOp_builtin ..).trans (by rw[BigFrame.builtin_len];simp)
     ·exact QOp.fail _
    ·rename_i x hx
     have:=harr hx;subst this
     split
     ·rename_i t ht
      exact QOp.need fun a ha=>QOp.of (qcap_ok (ty:=type) ha ht) fun ρ=>(BigFrame.execOp_builtin ..).trans (by rw[BigFrame.builtin_cap];simp)
     ·exact QOp.fail _
    ·rename_i x y hx
     have:=harr hx;subst this
     exact QOp.need fun a ha=>QOp.need fun b hb=>QOp.of (qmin_ok (ats:=ats) (ty:=type) ha hb) fun ρ=>(BigFrame.execOp_builtin ..).trans (by rw[BigFrame.builtin_min];simp)
    ·rename_i x y hx
     have:=harr hx;subst this
     exact QOp.need fun a ha=>QOp.need fun b hb=>QOp.of (qmax_ok (ats:=ats) (ty:=type) ha hb) fun ρ=>(BigFrame.execOp_builtin ..).trans (by rw[BigFrame.builtin_max];simp)
    ·exact QOp.fail _
 all_goals exact QOp.fail _
end
end
end Go.Proofs.YtoalfimkkibpdaaGreatDoor.Sx
namespace Go.Proofs.YtoalfimkkibpdaaGreatDoor.Sx
open Go
noncomputable section
def Fr (ro:Option Nat):Fence:={Fence.wide with round:=ro}
theorem callsIn_fr {ro:Option Nat} {n:Nat} {P:Program} {f:FuncId} {args:Array Value} {w:World} {R:Ending→World→Prop}:CallsIn (Fr ro) n P f args w R↔Calls P f args w R:=by
 rw[← callsIn_wide (n:=n)]
 cases ro with
 | none=>exact Iff.rfl
 | some l=>exact⟨CallsIn.outOfRound,CallsIn.inRound l⟩
def Out (P:Program)(R:Value→World→Prop)(x:Result Next)(RP:List PanicEntry→World→Prop:=fun _ _=>False):Prop:=match x with
 | .ok (.value v) w=>R v w
 | .ok .skip w=>R undef w
 | .ok (.enter f args) w=>Calls P f args w fun e w'=>(∃ v,e=.returned v∧R v w')∨∃ ch,e=.panicked ch∧RP ch w'
 | .ok (.round l f tmps assign body) w=>RoundIn Fence.wide 0 P l f tmps assign body w fun e w'=>∃ v,e=.returned v∧R v w'
 | .halt (.panic v) w=>RP [{v,recovered:=false}] w
 | _=>False
theorem about_fr (ro:Option Nat) {P:Program} {o:Oper} {a:Act} {w:World}: ∀ f,o.about P w a.eval=some f→(Fr ro).fn f:=fun _ _=>trivial
def noDefer (o:Oper):Bool:=match o.op with
 | .defer _=>false
 | _=>true
theorem semAt_fr {ro:Option Nat} {o:Oper} (h:noDefer o=true)(ρ:Operand→Value):o.semAt ro ρ=execOp ρ o:=by
 cases ro with
 | none=>rfl
 | some l =>
   unfold noDefer at h
   unfold Oper.semAt
   cases ho:o.op<;>rw[ho] at h<;>first | rfl | cases h
theorem Out.wp {P:Program} {ro:Option Nat} {o:Oper} (hd:noDefer o=true) {a:Act} {w:World} {R:Value→World→Prop} {RP:List PanicEntry→World→Prop} {Q:Exit→Act→World→Prop} {K:Act→World→Prop}
  (h:Out P R ((execOp a.eval o).run P w) RP) (hk: ∀ r w',R r w'→K (a.put o.dst r) w') (hp: ∀ ch w',RP ch w'→Q (.panic ch) a w'):o.wpIn (Fr ro) 0 P a w K Q:=by
 unfold Oper.wpIn
 refine⟨about_fr ro,?_⟩
 have hs:o.semAt (Fr ro).round a.eval=execOp a.eval o:=semAt_fr (ro:=ro) hd _
 rw[hs]
 generalize (execOp a.eval o).run P w=x at h
 cases x with
 | ok n w' =>
   cases n<;>simp only[Out] at h<;>simp only[Oper.uponIn]
   case value v=>exact hk _ _ h
   case skip=>exact hk _ _ h
   case enter f args =>
    refine⟨fun h=>(by cases ro<;>cases h),callsIn_fr.2 (Calls.mono h fun e w'' he=> ?_)⟩
    rcases he with ⟨v,rfl,hr⟩ | ⟨ch,rfl,hr⟩
    ·exact hk _ _ hr
    ·exact hp _ _ hr
   case round l f tmps assign body =>
    refine⟨fun h=>(by cases ro<;>cases h),?_⟩
    have h2:RoundIn (Fr ro) 0 P l f tmps assign body w' fun e w''=>∃ v,e=.returned v∧R v w'':=by cases ro<;>exact h
    refine h2.mono fun e w'' he=> ?_
    obtain⟨v,rfl,hr⟩:=he
    exact hk _ _ hr
 | halt x w' =>
   cases x<;>simp only[Out] at h
   simp only[Oper.uponIn]
   exact hp _ _ h
theorem Out.mono {P:Program} {R R':Value→World→Prop} {RP RP':List PanicEntry→World→Prop} {x:Result Next} (h:Out P R x RP)(hr: ∀ v w,R v w→R' v w)(hp: ∀ c w,RP c w→RP' c w):Out P R' x RP':=by
 unfold Out at *
 split at h<;>first
  | exact hr _ _ h
  | exact Calls.mono h fun e w' he=>he.imp (fun⟨v,he,hv⟩=>⟨v,he,hr _ _ hv⟩) (fun⟨c,he,hv⟩=>⟨c,he,hp _ _ hv⟩)
  | exact RoundIn.mono h fun e w' ⟨v,he,hv⟩=>⟨v,he,hr _ _ hv⟩
  | exact hp _ _ h
  | exact h.elim
theorem Out.dull {P:Program} {R:Value→World→Prop} {RP:List PanicEntry→World→Prop} {x:Result Next} (h:Out P R x):Out P R x RP:=h.mono (fun _ _ h=>h) (fun _ _ h=>h.elim)
abbrev KL:=Option SV→Mem→Nat→VC
def After (K:KL)(Γ:Base)(E:Nat→Nat)(nx:Nat)(r:Value)(w':World):Prop :=
 ∃ E' sv m' nx',(∀ k,k<nx→E' k=E k)∧nx≤nx'∧(∀ v,sv=some v→r=v.val E')∧SatM Γ E' m' nx' w'∧(K sv m' nx').holds
abbrev PK:=SV→Mem→Nat→VC
def AfterP (KP:PK)(Γ:Base)(E:Nat→Nat)(nx:Nat)(ch:List PanicEntry)(w':World):Prop :=
 ∃ E' v m' nx',(∀ k,k<nx→E' k=E k)∧nx≤nx'∧ch=[{v:=v.val E',recovered:=false}]∧v.wf nx'=true∧SatM Γ E' m' nx' w'∧(KP v m' nx').holds
theorem AfterP.weaken {KP:PK} {Γ:Base} {E E':Nat→Nat} {nx nx':Nat} {ch:List PanicEntry} {w:World} (h:AfterP KP Γ E' nx' ch w)(hE: ∀ k,k<nx→E' k=E k)(hn:nx≤nx'):AfterP KP Γ E nx ch w:=by
 obtain⟨E'',v,m,n,h1,h2,h3,h4,h5,h6⟩:=h
 exact⟨E'',v,m,n,fun k hk=>(h1 k (Nat.lt_of_lt_of_le hk hn)).trans (hE k hk),Nat.le_trans hn h2,h3,h4,h5,h6⟩
theorem After.unown {K:KL} {Γ:Base} {E:Nat→Nat} {nx:Nat} {r:Value} {w:World} (h:After K Γ.own E nx r w):After K Γ E nx r w:=by
 obtain⟨E',sv,m',nx',h1,h2,h3,h4,h5⟩:=h
 exact⟨E',sv,m',nx',h1,h2,h3,h4.unown,h5⟩
theorem AfterP.unown {KP:PK} {Γ:Base} {E:Nat→Nat} {nx:Nat} {c:List PanicEntry} {w:World} (h:AfterP KP Γ.own E nx c w):AfterP KP Γ E nx c w:=by
 obtain⟨E',v,m',nx',h1,h2,h3,h4,h5,h6⟩:=h
 exact⟨E',v,m',nx',h1,h2,h3,h4,h5.unown,h6⟩
def WfS (nx:Nat)(σ:Operand→Option SV):Prop:=∀ x v,σ x=some v→v.wf nx=true
def LOp (P:Program)(Γ:Base)(σ:Operand→Option SV)(m:Mem)(nx:Nat)(o:Oper)(t:KL→VC):Prop :=
 ∀ K E w ρ,(t K).holds→SatM Γ E m nx w→Mem.wf nx m=true→WfS nx σ→Reads E σ ρ→Out P (After K Γ E nx) ((execOp ρ o).run P w)
section
variable {P : Program} {Γ : Base} {σ : Operand → Option SV} {m : Mem} {nx : Nat} {o : Oper}
theorem LOp.fail (why:String):LOp P Γ σ m nx o (fun _=>.fail why):=fun _ _ _ _ h=>h.elim
theorem LOp.need {x:Operand} {t:SV→KL→VC} (h: ∀ v,σ x=some v→LOp P Γ σ m nx o (t v)):LOp P Γ σ m nx o (fun K=>need (σ x) (fun v=>t v K)):=by
 unfold Sx.need
 cases hx:σ x with
 | none=>exact LOp.fail _
 | some v=>exact h v hx
theorem After.alloc {K:KL} {Γ:Base} {E:Nat→Nat} {w:World} (hs:SatM Γ E m nx w)(hw:Mem.wf nx m=true) {cs:List SV} {tot:Nat} {ty:TypeId}
  {sv:SV} {c:Array Value} (hcs:SV.wfs nx cs=true) (hc: ∀(i:Nat) (v:SV),cs[i]?=some v→c[i]?=some (v.val E)) (hm:c.size=tot)
  (hk:(K (some sv) ((nx,.cells cs tot ty)::m) (nx+1)).holds) {r:Value} (hr:r=sv.val (fun k=>if k=nx then w.heap.size else E k)) :
  After K Γ E nx r {w with heap:=w.heap.push (.cells c ty)}:=by
 have hE: ∀ k,k<nx→(fun k=>if k=nx then w.heap.size else E k) k=E k:=fun k hk=>by simp[Nat.ne_of_lt hk]
 refine⟨_,some sv,_,_,hE,Nat.le_succ _,fun v hv=>by injection hv with hv;subst hv;exact hr,hs.alloc hw (B:=.cells cs tot ty) ?_,hk⟩
 refine⟨c,(0,0),rfl,fun i=>.inr (by simp),fun i v hv=> ?_,hm⟩
 rw[SV.val_congr hE v (SV.wfs_get hcs hv)];exact hc i v hv
theorem ofCells_wf {nx:Nat}: ∀ {l:List Value} {xs:List SV},SV.ofCells l=some xs→SV.wfs nx xs=true
 | [],xs,h=>by simp[SV.ofCells] at h;subst h;rfl
 | v::r,xs,h=>by
   simp only[SV.ofCells] at h
   split at h
   ·rename_i x l' hx hl
    injection h with h;subst h
    simp only[SV.wfs,ofCells_wf hl,Bool.and_true]
    unfold SV.ofCell at hx
    split at hx<;>first | (injection hx with hx;subst hx;rfl) | cases hx
   ·cases h
theorem ofConst_wf {nx:Nat} {v:Value} {x:SV} (h:SV.ofConst v=some x):x.wf nx=true:=by
 unfold SV.ofConst at h
 split at h
 ·split at h
  ·rename_i l hl;injection h with h;subst h;exact ofCells_wf hl
  ·cases h
 ·unfold SV.ofCell at h
  split at h<;>first | (injection h with h;subst h;rfl) | cases h
theorem zeroSV_wf {nx:Nat} {t:TypeId} {v:SV} (h:zeroSV P t=some v):v.wf nx=true:=by
 unfold zeroSV at h
 split at h
 ·split at h
  ·exact ofConst_wf h
  ·cases h
 ·cases h
theorem cells_wf {nx:Nat} {v:SV} (h:v.wf nx=true):SV.wfs nx v.cells=true:=by
 cases v<;>simp_all [SV.cells,SV.wf,SV.wfs]
theorem map_get {E:Nat→Nat} {l:List SV} {c:Array Value} (hc:c.toList=l.map (SV.val E)): ∀(i:Nat)(v:SV),l[i]?=some v→c[i]?=some (v.val E):=by
 intro i v hv
 rw[← Array.getElem?_toList,hc,List.getElem?_map,hv];rfl
theorem map_size {E:Nat→Nat} {l:List SV} {c:Array Value} (hc:c.toList=l.map (SV.val E)):c.size=l.length:=by
 rw[← Array.length_toList,hc,List.length_map]
def lnew (ty:TypeId)(v:SV)(m:Mem)(nx:Nat)(K:KL):VC :=
 match v.plain with
 | true=>K (some (.ptr nx true 0)) ((nx,.cells v.cells v.cells.length ty)::m) (nx+1)
 | false=>.fail "new: a value that is not known"
def lslice (elem:TypeId)(cs:List SV)(n:Nat)(m:Mem)(nx:Nat)(K:KL):VC :=
 K (some (.slc nx 0 n true n)) ((nx,.cells cs cs.length elem)::m) (nx+1)
theorem newVar_run {w:World} {t:TypeId} {v:Value}:(newVar t v).run P w=.ok ⟨w.heap.size,0,none⟩ {w with heap:=w.heap.push (.cells v.cells t)}:=by
 simp[newVar,newRow]
theorem lalloc_ok {dst:Option Tmp} {t type:TypeId} {pos:String} {after:Array Edge} {guard:Option (Nat×Bool)} :
  LOp P Γ σ m nx ⟨dst,.alloc t,type,pos,after,guard⟩ (fun K=>match zeroSV P t with | some z=>lnew t z m nx K | none=>.fail "alloc"):=by
 intro K E w ρ h hs hw hσ hr
 split at h
 ·rename_i z hz
  unfold lnew at h
  split at h
  ·rename_i hp
   simp only[execOp,Instr.alloc,Sem.run_bind,zeroSV_run (E:=E) hz,Result.andThen_ok,newVar_run,Sem.run_pure,Out]
   exact After.alloc hs hw (cells_wf (zeroSV_wf hz)) (map_get (by rw[SV.cells_val hp])) (map_size (E:=E) (by rw[SV.cells_val hp])) h (by simp[SV.val])
  ·exact h.elim
 ·exact h.elim
theorem lbox_ok {dst:Option Tmp} {t type:TypeId} {pos:String} {after:Array Edge} {guard:Option (Nat×Bool)} {x:Operand} :
  LOp P Γ σ m nx ⟨dst,.box t x,type,pos,after,guard⟩ (fun K=>need (σ x) (fun v=>lnew t v m nx K)):=by
 refine LOp.need fun v hv=> ?_
 intro K E w ρ h hs hw hσ hr
 unfold lnew at h
 split at h
 ·rename_i hp
  simp only[execOp,Instr.box,Sem.run_bind,Result.andThen_ok,newVar_run,Sem.run_pure,Out]
  exact After.alloc hs hw (cells_wf (hσ _ _ hv)) (map_get (by rw[hr _ _ hv,SV.cells_val hp])) (map_size (E:=E) (by rw[hr _ _ hv,SV.cells_val hp])) h (by simp[SV.val])
 ·exact h.elim
def times (n:Nat)(zs:List SV):List SV:=match n with
 | 0=>[]
 | n+1=>zs++times n zs
theorem times_range {E:Nat→Nat} {zs:List SV} {z:Array Value} (hz:z.toList=zs.map (SV.val E))(hne:z.size≠0): ∀ n:Nat,
  ((Array.range (n*z.size)).map fun i=>z[i% z.size]!).toList=(times n zs).map (SV.val E)
 | 0=>by simp[times]
 | n+1=>by
   have ih:=times_range hz hne n
   simp only[Array.toList_map,Array.toList_range] at ih ⊢
   rw[show(n+1)*z.size=z.size+n*z.size by rw[Nat.add_mul];omega,List.range_add,List.map_append,times,List.map_append,← ih]
   congr 1
   ·rw[← hz]
    apply List.ext_getElem?
    intro i
    rw[List.getElem?_map]
    by_cases hi:i<z.size
    ·rw[List.getElem?_range hi]
     simp[Nat.mod_eq_of_lt hi,hi]
    ·rw[List.getElem?_eq_none (by simp;omega),List.getElem?_eq_none (by simp;omega)];rfl
   ·rw[List.map_map]
    apply List.map_congr_left
    intro i _
    simp
theorem times_wf {nx:Nat} {zs:List SV} (h:SV.wfs nx zs=true): ∀ n,SV.wfs nx (times n zs)=true
 | 0=>rfl
 | n+1=>by
   have ih:=times_wf h n
   simp only[times]
   have app: ∀ {a b:List SV},SV.wfs nx a=true→SV.wfs nx b=true→SV.wfs nx (a++b)=true:=by
    intro a
    induction a with
    | nil=>intro b _ hb;exact hb
    | cons x r ihr=>intro b ha hb;simp only[SV.wfs,Bool.and_eq_true,List.cons_append] at ha ⊢;exact⟨ha.1,ihr ha.2 hb⟩
   exact app h ih
theorem wfs_append {nx:Nat}: ∀ {a b:List SV},SV.wfs nx a=true→SV.wfs nx b=true→SV.wfs nx (a++b)=true
 | [],_,_,hb=>hb
 | x::r,b,ha,hb=>by simp only[SV.wfs,Bool.and_eq_true,List.cons_append] at ha ⊢;exact⟨ha.1,wfs_append ha.2 hb⟩
theorem wfs_set {nx:Nat}: ∀ {a:List SV} {i:Nat} {v:SV},SV.wfs nx a=true→v.wf nx=true→SV.wfs nx (a.set i v)=true
 | [],_,_,_,_=>rfl
 | x::r,0,v,ha,hv=>by simp only[SV.wfs,Bool.and_eq_true,List.set_cons_zero] at ha ⊢;exact⟨hv,ha.2⟩
 | x::r,i+1,v,ha,hv=>by simp only[SV.wfs,Bool.and_eq_true,List.set_cons_succ] at ha ⊢;exact⟨ha.1,wfs_set ha.2 hv⟩
theorem wfs_setRange {nx:Nat}: ∀ {vs cs:List SV} {off:Nat},SV.wfs nx cs=true→SV.wfs nx vs=true→SV.wfs nx (setRange cs off vs)=true
 | [],_,_,hc,_=>hc
 | v::r,cs,off,hc,hv=>by
   simp only[SV.wfs,Bool.and_eq_true] at hv
   rw[setRange]
   exact wfs_setRange (wfs_set hc hv.1) hv.2
theorem fillS_wf {nx:Nat} {place:Nat→Option (Nat×Nat)}: ∀ {parts:List (Nat×SV)} {cells out:List SV},fillS place cells parts=some out→SV.wfs nx cells=true →
  (∀ p∈ parts,p.2.wf nx=true)→SV.wfs nx out=true
 | [],cells,out,h,hc,_=>by simp[fillS] at h;subst h;exact hc
 | (i,v)::rest,cells,out,h,hc,hp=>by
   simp only[fillS] at h
   split at h
   ·cases h
   ·split at h
    ·exact fillS_wf h (wfs_setRange hc (cells_wf (hp (i,v) (by simp)))) (fun p hm=>hp p (by simp[hm]))
    ·cases h
theorem partsOf_wf {nx:Nat} {σ:Operand→Option SV} (hσ:WfS nx σ): ∀ {ps:List (Nat×Operand)} {l:List (Nat×SV)},partsOf σ ps=some l→∀ p∈ l,p.2.wf nx=true
 | [],l,h,p,hp=>by simp[partsOf] at h;subst h;cases hp
 | (i,x)::r,l,h,p,hp=>by
   simp only[partsOf] at h
   split at h
   ·rename_i v l' hv hl
    injection h with h;subst h
    cases hp with
    | head=>exact hσ x v hv
    | tail _ hp=>exact partsOf_wf hσ hl p hp
   ·cases h
def lbuildSlice (P:Program)(σ:Operand→Option SV)(t:TypeId)(len:Nat)(parts:List (Nat×Operand))(m:Mem)(nx:Nat)(K:KL):VC :=
 match P.underlying t with
 | some (.slice e)=>(match sz P e,zeroSV P e,partsOf σ parts with
   | some s,some z,some ps=>if z.plain&&decide (z.cells.length=s)&&decide (len*s≤16777216)&&decide (s≠0)then(match fillS (fun i=>some (i*s,s)) (times len z.cells) ps with
      | some out=>lslice e out len m nx K
      | none=>.fail "buildSlice: fill")else .fail "buildSlice: size"
   | _,_,_=>.fail "buildSlice")
 | _=>.fail "buildSlice"
theorem lbuildSlice_ok {dst:Option Tmp} {t type:TypeId} {pos:String} {after:Array Edge} {guard:Option (Nat×Bool)} {len:Nat} {parts:Array (Nat×Operand)} :
  LOp P Γ σ m nx ⟨dst,.buildSlice t len parts,type,pos,after,guard⟩ (lbuildSlice P σ t len parts.toList m nx):=by
 intro K E w ρ h hs hw hσ hr
 unfold lbuildSlice at h
 split at h
 ·rename_i e hd
  split at h
  ·rename_i s z ps hsz hz hp
   split at h
   ·rename_i hc
    simp only[Bool.and_eq_true,decide_eq_true_eq] at hc
    obtain⟨⟨⟨h1,h2⟩,h3⟩,h4⟩:=hc
    split at h
    ·rename_i out hf
     unfold lslice at h
     have hzc:=SV.cells_val (E:=E) h1
     have hzs:(z.val E).cells.size=s:=by rw[hzc];simp[h2]
     have hfill:=fillS_run (E:=E) ps _ out hf
     have hpp:(parts.map fun(x:Nat×Operand)=>(x.1,ρ x.2)).toList=ps.map fun p=>(p.1,p.2.val E):=by rw[← partsOf_val hr hp];simp
     have fin: ∀ z':Array Value,((Array.range (len*s)).map fun i=>z'[i% z'.size]!)=(SV.vals E (times len z.cells)).toArray →
       Out P (After K Γ E nx) ((match Instr.fill (fun i=>some (i*s,s)) ((Array.range (len*s)).map fun i=>z'[i% z'.size]!) (parts.map fun(x:Nat×Operand)=>(x.1,ρ x.2)).toList with
        | some cells=>do
          let r ← newRow e cells
          pure (Value.slice (some r) len len)
        | _=>stuck "buildSlice: a part of the wrong size" : Sem Value).run P w |>.andThen fun a w'=>(pure (Next.value a):Sem Next).run P w'):=by
      intro z' hz'
      rw[hz',hpp,hfill]
      simp only[Result.andThen_ok,Sem.run_bind,newRow,run_newObj,Sem.run_pure,Out]
      exact After.alloc hs hw (fillS_wf hf (times_wf (cells_wf (zeroSV_wf hz)) len) (partsOf_wf hσ hp)) (map_get (by simp[SV.vals_eq])) (map_size (E:=E) (by simp[SV.vals_eq])) h (by simp[SV.val])
     simp only[execOp,Instr.buildSlice,Sem.run_bind,run_und hd,Result.andThen_ok,run_sz hsz,Sem.run_ite]
     rw[if_neg (by omega)]
     by_cases h0:len*s=0
     ·rw[if_pos h0]
      simp only[Sem.run_pure,Result.andThen_ok]
      refine fin #[] ?_
      have:len=0:=by rcases Nat.mul_eq_zero.1 h0 with h | h;exact h;exact absurd h h4
      subst this;simp[times,SV.vals]
     ·rw[if_neg h0]
      simp only[zeroSV_run (E:=E) hz,Sem.run_pure,Result.andThen_ok]
      refine fin _ ?_
      apply Array.ext'
      have:=times_range (E:=E) (zs:=z.cells) (z:=(z.val E).cells) (by rw[hzc]) (by rw[hzs];exact h4) len
      rw[hzs] at this
      rw[SV.vals_eq]
      simpa [hzs] using this
    ·exact h.elim
   ·exact h.elim
  ·exact h.elim
 ·exact h.elim
end
end
end Go.Proofs.YtoalfimkkibpdaaGreatDoor.Sx
