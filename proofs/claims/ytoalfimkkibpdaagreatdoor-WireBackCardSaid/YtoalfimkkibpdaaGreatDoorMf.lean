/-
  The framework's part 11a: maps: making, writing, deleting, ranging.
-/
import Derived.Test.YtoalfimkkibpdaaGreatDoorMd
import Derived.Test.YtoalfimkkibpdaaGreatDoorMc
namespace Go.Proofs.YtoalfimkkibpdaaGreatDoor.Sx
open Go
noncomputable section
section
variable {P : Program} {Γ : Base} {σ : Operand → Option SV} {m : Mem} {nx : Nat}
theorem After.allocB {K:KL} {E:Nat→Nat} {w:World} (hs:SatM Γ E m nx w)(hw:Mem.wf nx m=true) {B:SB} {o:Obj} {sv:Option SV} {r:Value} (hB:BlkOk E B o)(hBw:B.wf nx=true)
  (hr: ∀ v,sv=some v→r=v.val (fun k=>if k=nx then w.heap.size else E k)) (h:(K sv ((nx,B)::m) (nx+1)).holds) :
  After K Γ E nx r {w with heap:=w.heap.push o}:=by
 have hE: ∀ k,k<nx→(fun k=>if k=nx then w.heap.size else E k) k=E k:=fun k hk=>by simp[Nat.ne_of_lt hk]
 exact⟨_,sv,_,_,hE,Nat.le_succ _,hr,hs.alloc hw (hB.congr hE hBw),h⟩
theorem After.writeMap {K:KL} {E:Nat→Nat} {w:World} (hs:SatM Γ E m nx w) {key:Nat} {B B':SB} {o:Obj} (hk:m.get key=some B)(hn:B.no=false)(hro:B.ro=false)(hB:BlkOk E B' o)(hro':B'.ro=false)
  {sv:Option SV} {r:Value} (hr: ∀ v,sv=some v→r=v.val E) (h:(K sv (m.put key B') nx).holds):After K Γ E nx r {w with heap:=w.heap.setIfInBounds (E key) o} :=
 ⟨E,sv,_,_,fun _ _=>rfl,Nat.le_refl _,hr,hs.write hk hn hro hB hro',h⟩
def lmakeMap (P:Program)(t:TypeId)(hint:Option (Option SV))(m:Mem)(nx:Nat)(K:KL):VC :=
 match hint with
 | none=>K (some (.map nx)) ((nx,.map [] 0)::m) (nx+1)
 | some (some (.int ..))=>(match P.underlying t with
   | some (.map ..)=>K (some (.map nx)) ((nx,.map [] 0)::m) (nx+1)
   | _=>.fail "make: no map")
 | _=>.fail "make: how many"
theorem lmakeMap_ok {dst:Option Tmp} {t type:TypeId} {pos:String} {after:Array Edge} {guard:Option (Nat×Bool)} {r:Option Operand} :
  LOp P Γ σ m nx ⟨dst,.makeMap t r,type,pos,after,guard⟩ (lmakeMap P t (r.map σ) m nx):=by
 intro K E w ρ h hs hw hσ hr
 have fin:(K (some (.map nx)) ((nx,.map [] 0)::m) (nx+1)).holds→Out P (After K Γ E nx) (.ok (.value (.map (some w.heap.size))) {w with heap:=w.heap.push (.map #[] 0)}):=fun h=>by
  exact After.allocB hs hw (B:=.map [] 0) (o:=.map #[] 0) rfl rfl (fun v hv=>by injection hv with hv;subst hv;simp[SV.val]) h
 cases r with
 | none =>
   have h:(K (some (.map nx)) ((nx,.map [] 0)::m) (nx+1)).holds:=h
   exact fin h
 | some x =>
   simp only[lmakeMap,Option.map_some] at h
   split at h
   ·rename_i e;cases e
   ·rename_i k l n hx
    injection hx with hx
    split at h
    ·rename_i kt et ht
     have hrun:(execOp ρ ⟨dst,.makeMap t (some x),type,pos,after,guard⟩).run P w=.ok (.value (.map (some w.heap.size))) {w with heap:=w.heap.push (.map #[] 0)}:=by
      simp only[execOp,Instr.makeMap,Option.map_some,Sem.run_bind,run_und ht,Result.andThen_ok,hr x _ hx,SV.val,asInt,asIntOf,Sem.run_pure,run_newObj]
     rw[hrun];exact fin h
    ·exact h.elim
   ·exact h.elim
def setEs:List (Nat×SV×SV)→Nat→SV→SV→List (Nat×SV×SV)
 | [],_,_,_=>[]
 | e::r,0,k,v=>(e.1,k,v)::r
 | e::r,i+1,k,v=>e::setEs r i k v
def dropEs:List (Nat×SV×SV)→Nat→List (Nat×SV×SV)
 | [],_=>[]
 | _::r,0=>r
 | e::r,i+1=>e::dropEs r i
def addEs (es:List (Nat×SV×SV))(e:Nat×SV×SV):List (Nat×SV×SV):=match es with
 | []=>[e]
 | x::r=>x::addEs r e
theorem ents_set (E:Nat→Nat)(k v:SV): ∀(es:List (Nat×SV×SV))(i:Nat),ents E (setEs es i k v)=(ents E es).modify i fun e=>{e with key:=k.val E,val:=v.val E}
 | [],i=>by cases i<;>rfl
 | e::r,0=>rfl
 | e::r,i+1=>by
   have:=ents_set E k v r i
   simp only[ents,List.map_cons,setEs,List.modify_succ_cons] at this ⊢
   rw[this]
theorem ents_drop (E:Nat→Nat): ∀(es:List (Nat×SV×SV))(i:Nat),ents E (dropEs es i)=(ents E es).eraseIdx i
 | [],i=>by cases i<;>rfl
 | e::r,0=>rfl
 | e::r,i+1=>by
   have:=ents_drop E r i
   simp only[ents,List.map_cons,dropEs,List.eraseIdx_cons_succ] at this ⊢
   rw[this]
theorem ents_add (E:Nat→Nat)(e:Nat×SV×SV): ∀(es:List (Nat×SV×SV)),ents E (addEs es e)=ents E es++[{key:=e.2.1.val E,val:=e.2.2.val E,born:=e.1}]
 | []=>rfl
 | x::r=>by
   have:=ents_add E e r
   simp only[ents,List.map_cons,addEs,List.cons_append] at this ⊢
   rw[this]
theorem arr_modify {l:List MapEntry} {i:Nat} {f:MapEntry→MapEntry}:l.toArray.modify i f=(l.modify i f).toArray:=by
 apply Array.ext'
 simp[]
theorem arr_erase {l:List MapEntry} {i:Nat}:l.toArray.eraseIdxIfInBounds i=(l.eraseIdx i).toArray:=by
 unfold Array.eraseIdxIfInBounds
 split
 ·simp
 ·rename_i h
  rw[List.eraseIdx_of_length_le (by simpa using h)]
theorem sameBits_refl {d:TypeDesc} {k:SV} (h:keyD d k=true)(E:Nat→Nat)(n:Nat):Instr.sameBits n (k.val E) (k.val E)=true:=by
 unfold keyD at h
 split at h<;>first | cases h;done | skip
 all_goals cases n<;>simp[SV.val,Instr.sameBits,(MapKept.bytes_beq _ _).2 rfl]
def withMap (P:Program)(t:TypeId)(x k:Option SV)(m:Mem)(f:TypeDesc→SV→Nat→List (Nat×SV×SV)→Nat→SV→VC):VC :=
 match P.underlying t,x,k with
 | some (.map kt et),some (.map key),some kv=>(match P.underlying kt,zeroSV P et,m.get key with
   | some d,some z,some (.map es clock)=>(match keyD d kv with
     | true=>f d kv key es clock z
     | false=>.fail "map: another kind of key")
   | _,_,_=>.fail "map: no map")
 | _,_,_=>.fail "map: no map"
theorem withMap_iff {t:TypeId} {x k:Option SV} {f:TypeDesc→SV→Nat→List (Nat×SV×SV)→Nat→SV→VC} (h:(withMap P t x k m f).holds) :
  ∃ kt et d z kv key es clock,P.underlying t=some (.map kt et)∧P.underlying kt=some d∧zeroSV P et=some z∧x=some (.map key)∧k=some kv∧m.get key=some (.map es clock)∧keyD d kv=true∧(f d kv key es clock z).holds:=by
 unfold withMap at h
 split at h
 ·rename_i kt et key kv ht
  split at h
  ·rename_i d z es clock hd hz hm
   split at h
   ·rename_i hk
    exact⟨kt,et,d,z,kv,key,es,clock,ht,hd,hz,rfl,rfl,hm,hk,h⟩
   ·exact h.elim
  ·exact h.elim
 ·exact h.elim
def fmapAt (x:Option SV)(m:Mem):Option (Nat×(List UInt8→Bool)×FCol×Option (List UInt8×Int)):=match x with
 | some (.map key)=>(match m.get key with
   | some (.fmap f c p)=>some (key,f,c,p)
   | _=>none)
 | _=>none
theorem fmapAt_get {x:Option SV} {r} (h:fmapAt x m=some r):x=some (.map r.1)∧m.get r.1=some (.fmap r.2.1 r.2.2.1 r.2.2.2):=by
 unfold fmapAt at h
 split at h
 ·rename_i key
  split at h
  ·rename_i hm;injection h with h;subst h;exact⟨rfl,hm⟩
  ·cases h
 ·cases h
def fmapUpdate (P:Program)(t:TypeId)(key:Nat)(f:List UInt8→Bool)(c:FCol)(k v:Option SV)(m:Mem)(nx:Nat)(K:KL):VC :=
 match P.underlying t,k,v with
 | some (.map kt _),some (.str _ s),some u=>(match P.underlying kt,c.set s u with
   | some .string,some c'=>K none (m.put key (.fmap (setD f s) c' none)) nx
   | _,_=>.fail "map: a value")
 | _,_,_=>.fail "map: a key"
theorem fmapUpdate_ok {t:TypeId} {key:Nat} {f c p} {k v:Option SV} {K:KL} {E:Nat→Nat} {w:World} (hm:m.get key=some (.fmap f c p))(h:(fmapUpdate P t key f c k v m nx K).holds)(hs:SatM Γ E m nx w) :
  ∃ kv u w',k=some kv∧v=some u∧(Instr.mapUpdate t (.map (some (E key))) (kv.val E) (u.val E)).run P w=.ok () w'∧After K Γ E nx undef w':=by
 unfold fmapUpdate at h
 split at h
 ·rename_i kt et l s u ht
  split at h
  ·rename_i c' hd hc'
   obtain⟨ob,hob,es,clock,rfl,hfm⟩:=hs.blk key _ hm rfl
   have hsv:=FCol.set_val hc' E
   rcases hfm.find s with ⟨h1,h2,h3⟩ | ⟨h1,j,e,h2,h3,h4,h5⟩
   ·have h2':Instr.findNow .string (.string ⟨s.toArray⟩) es.toList 0=_:=h2
    refine⟨_,_,_,rfl,rfl,?_,After.writeMap hs hm rfl rfl (B':=.fmap (setD f s) c' none) ⟨_,_,rfl,hfm.add hsv h3 (fun _ _ h=>by cases h)⟩ rfl (sv:=none) (fun v hv=>by cases hv) h⟩
    simp only[SV.val,Instr.mapUpdate,Sem.run_bind,run_und ht,Result.andThen_ok,MapKept.run_getObj_map hob,MapKept.run_checkKey (k:=.string ⟨s.toArray⟩) hd trivial false 9999,Instr.findKey,run_und hd,h2',Sem.run_pure,MapKept.run_setObj_map _ hob,strV]
   ·have h2':Instr.findNow .string (.string ⟨s.toArray⟩) es.toList 0=_:=h2
    have h4':e.key=.string ⟨s.toArray⟩:=h4
    refine⟨_,_,_,rfl,rfl,?_,After.writeMap hs hm rfl rfl (B':=.fmap (setD f s) c' none) ⟨_,_,rfl,hfm.put (f:=fun e=>{e with key:=strV s,val:=u.val E}) hsv h3 h4 ⟨rfl,rfl,rfl⟩ (fun _=>rfl) h1 (fun _ _ h=>by cases h)⟩ rfl (sv:=none) (fun v hv=>by cases hv) h⟩
    simp only[SV.val,Instr.mapUpdate,Sem.run_bind,run_und ht,Result.andThen_ok,MapKept.run_getObj_map hob,MapKept.run_checkKey (k:=.string ⟨s.toArray⟩) hd trivial false 9999,Instr.findKey,run_und hd,h2',Sem.run_pure,h3,Option.map_some,Option.getD_some,h4',MapKept.run_keyThatStays (k:=.string ⟨s.toArray⟩) (d:=.string) trivial,MapKept.run_setObj_map _ hob,strV]
  ·exact h.elim
 ·exact h.elim
def fmapEntry (P:Program)(t:TypeId)(key:Nat)(f:List UInt8→Bool)(c:FCol)(k:Option SV)(m:Mem)(nx:Nat)(K:KL):VC :=
 match P.underlying t,k with
 | some (.map kt et),some (.str _ s)=>(match P.underlying kt,zeroSV P et with
   | some .string,some z=>(match c.look (f s) s z with
     | some v=>(match c.set s v with
       | some c'=>.all Int fun b=>K (some (.tup [v,.int .i64 false b])) (m.put key (.fmap (setD f s) c' (some (s,b)))) nx
       | none=>.fail "map: a value")
     | none=>.fail "map: a value")
   | _,_=>.fail "map: a key")
 | _,_=>.fail "map: a key"
theorem fmapEntry_ok {t:TypeId} {key:Nat} {f c p} {k:Option SV} {K:KL} {E:Nat→Nat} {w:World} (hm:m.get key=some (.fmap f c p))(h:(fmapEntry P t key f c k m nx K).holds)(hs:SatM Γ E m nx w) :
  ∃ kv r w',k=some kv∧(Instr.mapEntry t (.map (some (E key))) (kv.val E)).run P w=.ok r w'∧After K Γ E nx r w':=by
 unfold fmapEntry at h
 split at h
 ·rename_i kt et l s ht
  split at h
  ·rename_i z hd hz
   split at h
   ·rename_i v hv
    split at h
    ·rename_i c' hc'
     obtain⟨ob,hob,es,clock,rfl,hfm⟩:=hs.blk key _ hm rfl
     have hsv:=FCol.set_val hc' E
     have hlv:=FCol.look_val hv E
     rcases hfm.find s with ⟨h1,h2,h3⟩ | ⟨h1,j,e,h2,h3,h4,h5⟩
     ·have h2':Instr.findNow .string (.string ⟨s.toArray⟩) es.toList 0=_:=h2
      rw[h1,if_neg (by simp)] at hlv
      refine⟨_,_,_,rfl,?_,After.writeMap hs hm rfl rfl (B':=.fmap (setD f s) c' (some (s,(clock:Int)))) ⟨_,_,rfl,hfm.add hsv h3 (fun t b h=>by injection h with h;injection h with h1 h2;exact⟨h1.symm,h2⟩)⟩ rfl (sv:=some (.tup [v,.int .i64 false clock])) (fun v hv=>by injection hv with hv;subst hv;rfl) (h clock)⟩
      simp only[SV.val,SV.vals,Instr.mapEntry,Sem.run_bind,run_und ht,Result.andThen_ok,MapKept.run_getObj_map hob,MapKept.run_checkKey (k:=.string ⟨s.toArray⟩) hd trivial false 9999,Instr.findKey,run_und hd,h2',Sem.run_pure,zeroSV_run (E:=E) hz,MapKept.run_setObj_map _ hob,strV,goInt,hlv]
     ·have h2':Instr.findNow .string (.string ⟨s.toArray⟩) es.toList 0=_:=h2
      have h4':e.key=.string ⟨s.toArray⟩:=h4
      rw[h1,if_pos rfl] at hlv
      refine⟨_,_,_,rfl,?_,After.writeMap hs hm rfl rfl (B':=.fmap (setD f s) c' (some (s,(e.born:Int)))) ⟨_,_,rfl,hfm.put (f:=fun e=>{e with key:=strV s}) hsv h3 h4 ⟨rfl,by show e.val=_;rw[h5,hlv],rfl⟩ (fun _=>rfl) h1 (fun t b h=>by injection h with h;injection h with h1 h2;exact⟨h1.symm,h2⟩)⟩ rfl (sv:=some (.tup [v,.int .i64 false e.born])) (fun v hv=>by injection hv with hv;subst hv;rfl) (h e.born)⟩
      simp only[SV.val,SV.vals,Instr.mapEntry,Sem.run_bind,run_und ht,Result.andThen_ok,MapKept.run_getObj_map hob,MapKept.run_checkKey (k:=.string ⟨s.toArray⟩) hd trivial false 9999,Instr.findKey,run_und hd,h2',Sem.run_pure,h3,Option.map_some,Option.getD_some,h4',MapKept.run_keyThatStays (k:=.string ⟨s.toArray⟩) (d:=.string) trivial,MapKept.run_setObj_map _ hob,strV,goInt,hlv]
    ·exact h.elim
   ·exact h.elim
  ·exact h.elim
 ·exact h.elim
def fmapStore (key:Nat)(f:List UInt8→Bool)(c:FCol)(p:Option (List UInt8×Int))(s v:Option SV)(m:Mem)(nx:Nat)(K:KL):VC :=
 match p,s,v with
 | some (t,b'),some (.int _ _ b),some u=>(match c.set t u with
   | some c'=>.and (.atom (b=b')) (K none (m.put key (.fmap (setD f t) c' none)) nx)
   | none=>.fail "map: a value")
 | _,_,_=>.fail "map: no such entry"
theorem fmapStore_ok {mt:TypeId} {key:Nat} {f c p} {s v:Option SV} {K:KL} {E:Nat→Nat} {w:World} (hm:m.get key=some (.fmap f c p))(h:(fmapStore key f c p s v m nx K).holds)(hs:SatM Γ E m nx w) :
  ∃ sv u w',s=some sv∧v=some u∧(Instr.entryStore mt (.map (some (E key))) (sv.val E) (u.val E)).run P w=.ok () w'∧After K Γ E nx undef w':=by
 unfold fmapStore at h
 split at h
 ·rename_i t b' ik il b u
  split at h
  ·rename_i c' hc'
   obtain⟨hb,h⟩:=h
   have hb:b=b':=hb
   subst hb
   obtain⟨ob,hob,es,clock,rfl,hfm⟩:=hs.blk key _ hm rfl
   have hsv:=FCol.set_val hc' E
   obtain⟨e,he,hborn,hkey⟩:=hfm.pd t b rfl
   have hd:f t=true:=by
    cases hf:f t with
    | true=>rfl
    | false=>exact absurd hkey (hfm.no t hf e he)
   obtain⟨i,hi⟩: ∃ i,es.findIdx? (fun e=>(e.born:Int)==b)=some i:=by
    cases hf:es.findIdx? (fun e=>(e.born:Int)==b)with
    | some i=>exact⟨i,rfl⟩
    | none =>
      rw[Array.findIdx?_eq_none_iff] at hf
      have:=hf e (by simpa using he)
      simp[hborn] at this
   have hie:es[i]?=some e:=by
    have h0:=Array.findIdx?_eq_some_iff_getElem.1 hi
    obtain⟨hlt,hp,_⟩:=h0
    have hmem:es[i]∈ es.toList:=by simp
    have:=uniq_of hfm.st.2.1 hmem he (by
     have:((es[i]).born:Int)=b:=by simpa using hp
     omega)
    rw[Array.getElem?_eq_getElem hlt,this]
   refine⟨_,_,_,rfl,rfl,?_,After.writeMap hs hm rfl rfl (B':=.fmap (setD f t) c' none) ⟨_,_,rfl,hfm.put (f:=fun e=>{e with val:=u.val E}) hsv hie hkey ⟨hkey,rfl,rfl⟩ (fun _=>rfl) hd (fun _ _ h=>by cases h)⟩ rfl (sv:=none) (fun v hv=>by cases hv) h⟩
   simp only[SV.val,Instr.entryStore,Sem.run_bind,MapKept.run_getObj_map hob,Result.andThen_ok,asInt,asIntOf,Sem.run_pure,hi,MapKept.run_setObj_map _ hob]
  ·exact h.elim
 ·exact h.elim
def lmapUpdate (P:Program)(t:TypeId)(x k v:Option SV)(m:Mem)(nx:Nat)(K:KL):VC:=match fmapAt x m with
 | some (key,f,c,_)=>fmapUpdate P t key f c k v m nx K
 | none=>withMap P t x k m fun d kv key es clock _=>match v with
   | some u=>mapFind d kv (fun r=>match r with
     | some (i,_)=>K none (m.put key (.map (setEs es i kv u) clock)) nx
     | none=>K none (m.put key (.map (addEs es (clock,kv,u)) (clock+1))) nx) es 0
   | none=>.fail "map: a value that is not known"
theorem keyStays {d:TypeDesc} {k:SV} (h:keyD d k=true) {E:Nat→Nat} {old:Value} (he:old=k.val E) {w:World}:(Instr.keyThatStays old (k.val E)).run P w=.ok (k.val E) w:=by
 subst he
 simp[Instr.keyThatStays,sameBits_refl h]
theorem ents_get {E:Nat→Nat} {es:List (Nat×SV×SV)} {i:Nat} {e:Nat×SV×SV} (h:es[i]?=some e):(ents E es).toArray[i]?=some {key:=e.2.1.val E,val:=e.2.2.val E,born:=e.1}:=by
 simp[ents,List.getElem?_map,h]
theorem mapUpdate_run {t kt et:TypeId} {d:TypeDesc} {kv u:SV} {key:Nat} {es:List (Nat×SV×SV)} {clock:Nat} {r:Hit} {E:Nat→Nat} {w:World} (ht:P.underlying t=some (.map kt et))(hd:P.underlying kt=some d)(hkd:keyD d kv=true)
  (ho:w.heap[E key]?=some (.map (ents E es).toArray clock)) (hf:Instr.findNow d (kv.val E) (ents E es) 0=some (r.map fun x=>(x.1,x.2.2.2.val E))) (hg: ∀ j e,r=some (j,e)→es[j]?=some e∧e.2.1.val E=kv.val E) :
  (Instr.mapUpdate t (.map (some (E key))) (kv.val E) (u.val E)).run P w=.ok () {w with heap:=w.heap.setIfInBounds (E key) (match r with
    | some (i,_)=>.map (ents E (setEs es i kv u)).toArray clock
    | none=>.map (ents E (addEs es (clock,kv,u))).toArray (clock+1))}:=by
 have hf':Instr.findNow d (kv.val E) (ents E es).toArray.toList 0=_:=hf
 simp only[Instr.mapUpdate,Sem.run_bind,run_und ht,Result.andThen_ok,MapKept.run_getObj_map ho,MapKept.run_checkKey hd (keyD_is hkd E) false 9999,Instr.findKey,run_und hd,hf',Sem.run_pure]
 cases r with
 | none =>
   simp only[Option.map_none,MapKept.run_setObj_map _ ho,ents_add]
   simp
 | some q =>
   obtain⟨i,e⟩:=q
   obtain⟨g1,g2⟩:=hg i e rfl
   simp only[Option.map_some,ents_get g1,Option.getD_some,Sem.run_bind,keyStays hkd g2,Result.andThen_ok,MapKept.run_setObj_map _ ho,ents_set,arr_modify]
theorem lmapUpdate_ok {dst:Option Tmp} {t type:TypeId} {pos:String} {after:Array Edge} {guard:Option (Nat×Bool)} {x k v:Operand} :
  LOp P Γ σ m nx ⟨dst,.mapUpdate t x k v,type,pos,after,guard⟩ (lmapUpdate P t (σ x) (σ k) (σ v) m nx):=by
 intro K E w ρ h hs hw hσ hr
 unfold lmapUpdate at h
 split at h
 ·rename_i hf
  obtain⟨hx,hm⟩:=fmapAt_get hf
  obtain⟨kv,u,w',hk,hv,hrun,haft⟩:=fmapUpdate_ok hm h hs
  have hex:(execOp ρ ⟨dst,.mapUpdate t x k v,type,pos,after,guard⟩).run P w=.ok .skip w':=by
   simp only[execOp,hr x _ hx,hr k _ hk,hr v _ hv,SV.val,Sem.run_bind,hrun,Result.andThen_ok,Sem.run_pure]
  rw[hex];exact haft
 obtain⟨kt,et,d,z,kv,key,es,clock,ht,hd,hz,hx,hk,hm,hkd,h⟩:=withMap_iff h
 split at h
 ·rename_i u hv
  obtain⟨obl,r,h1,h2⟩:=mapFind_iff hkd es 0
  obtain⟨ho,h⟩:=(h1 _).1 h
  obtain⟨f1,f2⟩:=h2 ho
  obtain⟨ob,hob,hb⟩:=hs.blk key _ hm rfl
  have hb:ob=.map (ents E es).toArray clock:=hb
  subst hb
  have hrun:=mapUpdate_run (P:=P) (u:=u) ht hd hkd hob (f1 E) (fun j e e'=>by obtain⟨_,g2,g3⟩:=f2 j e e';exact⟨by simpa using g2,g3 E⟩)
  have hex:(execOp ρ ⟨dst,.mapUpdate t x k v,type,pos,after,guard⟩).run P w=(do Instr.mapUpdate t (.map (some (E key))) (kv.val E) (u.val E);pure .skip:Sem Next).run P w:=by
   simp only[execOp,hr x _ hx,hr k _ hk,hr v _ hv,SV.val]
  rw[hex,Sem.run_bind,hrun]
  simp only[Result.andThen_ok,Sem.run_pure,Out]
  cases r with
  | none=>exact After.writeMap hs hm rfl rfl (B':=.map (addEs es (clock,kv,u)) (clock+1)) rfl rfl (fun v hv=>by cases hv) h
  | some q=>exact After.writeMap hs hm rfl rfl (B':=.map (setEs es q.1 kv u) clock) rfl rfl (fun v hv=>by cases hv) h
 ·exact h.elim
theorem linsert_ok {dst:Option Tmp} {t type:TypeId} {pos:String} {after:Array Edge} {guard:Option (Nat×Bool)} {x k v:Operand} :
  LOp P Γ σ m nx ⟨dst,.insert t x k v,type,pos,after,guard⟩ (lmapUpdate P t (σ x) (σ k) (σ v) m nx) :=
 fun K E w ρ h hs hw hσ hr=>lmapUpdate_ok (dst:=dst) (type:=type) (pos:=pos) (after:=after) (guard:=guard) K E w ρ h hs hw hσ hr
def lmapEntry (P:Program)(t:TypeId)(x k:Option SV)(m:Mem)(nx:Nat)(K:KL):VC:=match fmapAt x m with
 | some (key,f,c,_)=>fmapEntry P t key f c k m nx K
 | none=>withMap P t x k m fun d kv key es clock z=>mapFind d kv (fun r=>match r with
    | some (i,e)=>K (some (.tup [e.2.2,.int .i64 true e.1])) (m.put key (.map (setEs es i kv e.2.2) clock)) nx
    | none=>K (some (.tup [z,.int .i64 true clock])) (m.put key (.map (addEs es (clock,kv,z)) (clock+1))) nx) es 0
theorem lmapEntry_ok {dst:Option Tmp} {t type:TypeId} {pos:String} {after:Array Edge} {guard:Option (Nat×Bool)} {x k:Operand} :
  LOp P Γ σ m nx ⟨dst,.mapEntry t x k,type,pos,after,guard⟩ (lmapEntry P t (σ x) (σ k) m nx):=by
 intro K E w ρ h hs hw hσ hr
 unfold lmapEntry at h
 split at h
 ·rename_i hf
  obtain⟨hx,hm⟩:=fmapAt_get hf
  obtain⟨kv,r,w',hk,hrun,haft⟩:=fmapEntry_ok hm h hs
  have hex:(execOp ρ ⟨dst,.mapEntry t x k,type,pos,after,guard⟩).run P w=.ok (.value r) w':=by
   simp only[execOp,hr x _ hx,hr k _ hk,SV.val,Sem.run_bind,hrun,Result.andThen_ok,Sem.run_pure]
  rw[hex];exact haft
 obtain⟨kt,et,d,z,kv,key,es,clock,ht,hd,hz,hx,hk,hm,hkd,h⟩:=withMap_iff h
 obtain⟨obl,r,h1,h2⟩:=mapFind_iff hkd es 0
 obtain⟨ho,h⟩:=(h1 _).1 h
 obtain⟨f1,f2⟩:=h2 ho
 obtain⟨ob,hob,hb⟩:=hs.blk key _ hm rfl
 have hb:ob=.map (ents E es).toArray clock:=hb
 subst hb
 have hf':Instr.findNow d (kv.val E) (ents E es).toArray.toList 0=_:=f1 E
 simp only[execOp,Instr.mapEntry,hr x _ hx,hr k _ hk,SV.val,Sem.run_bind,run_und ht,Result.andThen_ok,MapKept.run_getObj_map hob,MapKept.run_checkKey hd (keyD_is hkd E) false 9999,Instr.findKey,run_und hd,hf',Sem.run_pure]
 cases r with
 | none =>
   simp only[Option.map_none,Sem.run_bind,zeroSV_run (E:=E) hz,Result.andThen_ok,MapKept.run_setObj_map _ hob,Sem.run_pure,Out]
   have hpush:(ents E es).toArray.push {key:=kv.val E,val:=z.val E,born:=clock}=(ents E (addEs es (clock,kv,z))).toArray:=by rw[ents_add];simp
   rw[hpush]
   exact After.writeMap hs hm rfl rfl (B':=.map (addEs es (clock,kv,z)) (clock+1)) rfl rfl (fun v hv=>by injection hv with hv;subst hv;simp[SV.val,SV.vals,goInt]) h
 | some q =>
   obtain⟨i,e⟩:=q
   obtain⟨_,g2,g3⟩:=f2 i e rfl
   have g2:es[i]?=some e:=by simpa using g2
   simp only[Option.map_some,ents_get g2,Option.getD_some,Sem.run_bind,keyStays hkd (g3 E),Result.andThen_ok,MapKept.run_setObj_map _ hob,Sem.run_pure,Out]
   have hset:((ents E es).toArray.modify i fun e=>{e with key:=kv.val E})=(ents E (setEs es i kv e.2.2)).toArray:=by
    rw[ents_set,arr_modify]
    congr 1
    have hl:(ents E es)[i]?=some {key:=e.2.1.val E,val:=e.2.2.val E,born:=e.1}:=by simp[ents,List.getElem?_map,g2]
    apply List.ext_getElem?
    intro j
    simp only[List.getElem?_modify]
    by_cases hij:i=j
    ·subst hij;simp[hl]
    ·simp[hij]
   rw[hset]
   exact After.writeMap hs hm rfl rfl (B':=.map (setEs es i kv e.2.2) clock) rfl rfl (fun v hv=>by injection hv with hv;subst hv;simp[SV.val,SV.vals,goInt]) h
def stampAt (b:Int):List (Nat×SV×SV)→Nat→Option (Nat×SV)
 | [],_=>none
 | e::r,i=>match decide (((e.1:Nat):Int)=b)with
   | true=>some (i,e.2.1)
   | false=>stampAt b r (i+1)
def lentryStore (x s v:Option SV)(m:Mem)(nx:Nat)(K:KL):VC:=match fmapAt x m with
 | some (key,f,c,p)=>fmapStore key f c p s v m nx K
 | none=>match x,s,v with
 | some (.map key),some (.int _ _ b),some u=>(match m.get key with
   | some (.map es clock)=>(match stampAt b es 0 with
     | some (i,k)=>K none (m.put key (.map (setEs es i k u) clock)) nx
     | none=>.fail "map: no such entry")
   | _=>.fail "map: no map")
 | _,_,_=>.fail "map: entry"
theorem stampAt_get {b:Int}: ∀ {es:List (Nat×SV×SV)} {i j:Nat} {k:SV},stampAt b es i=some (j,k)→i≤j∧(∃ e,es[j - i]?=some e∧e.2.1=k)∧∀ E,(ents E es).findIdx? (fun e=>(e.born:Int)==b)=some (j - i)
 | [],_,_,_,h=>by cases h
 | e::r,i,j,k,h=>by
   simp only[stampAt] at h
   split at h
   ·rename_i hb
    injection h with h;injection h with h1 h2;subst h1;subst h2
    refine⟨Nat.le_refl _,⟨e,by simp,rfl⟩,fun E=> ?_⟩
    have hb:=of_decide_eq_true hb
    show List.findIdx? _ ({key:=e.2.1.val E,val:=e.2.2.val E,born:=e.1}::ents E r)=_
    rw[List.findIdx?_cons]
    simp[hb]
   ·rename_i hb
    obtain⟨g1,⟨e',g2,g3⟩,g4⟩:=stampAt_get h
    have hb:=of_decide_eq_false hb
    refine⟨by omega,⟨e',?_,g3⟩,fun E=> ?_⟩
    ·rw[show j - i=(j - (i+1))+1 by omega];simpa using g2
    ·show List.findIdx? _ ({key:=e.2.1.val E,val:=e.2.2.val E,born:=e.1}::ents E r)=_
     rw[List.findIdx?_cons,g4 E]
     have:(((e.1:Nat):Int)==b)=false:=by simpa using hb
     simp only[this]
     simp;omega
theorem lentryStore_ok {dst:Option Tmp} {t type:TypeId} {pos:String} {after:Array Edge} {guard:Option (Nat×Bool)} {x s v:Operand} :
  LOp P Γ σ m nx ⟨dst,.entryStore t x s v,type,pos,after,guard⟩ (lentryStore (σ x) (σ s) (σ v) m nx):=by
 intro K E w ρ h hs hw hσ hr
 unfold lentryStore at h
 split at h
 ·rename_i hf
  obtain⟨hx,hm⟩:=fmapAt_get hf
  obtain⟨sv,u,w',hk,hv,hrun,haft⟩:=fmapStore_ok (P:=P) (mt:=t) hm h hs
  have hex:(execOp ρ ⟨dst,.entryStore t x s v,type,pos,after,guard⟩).run P w=.ok .skip w':=by
   simp only[execOp,hr x _ hx,hr s _ hk,hr v _ hv,SV.val,Sem.run_bind,hrun,Result.andThen_ok,Sem.run_pure]
  rw[hex];exact haft
 split at h
 ·rename_i key ik il b u hx hst hv
  split at h
  ·rename_i es clock hm
   split at h
   ·rename_i i k hi
    obtain⟨_,⟨e,g2,g3⟩,g4⟩:=stampAt_get hi
    have g2:es[i]?=some e:=by simpa using g2
    obtain⟨ob,hob,hb⟩:=hs.blk key _ hm rfl
    have hb:ob=.map (ents E es).toArray clock:=hb
    subst hb
    have hfi:(ents E es).toArray.findIdx? (fun e=>(e.born:Int)==b)=some i:=by
     have:=g4 E
     simpa using this
    have hset:((ents E es).toArray.modify i fun e=>{e with val:=u.val E})=(ents E (setEs es i k u)).toArray:=by
     rw[ents_set,arr_modify]
     congr 1
     have hl:(ents E es)[i]?=some {key:=e.2.1.val E,val:=e.2.2.val E,born:=e.1}:=by simp[ents,List.getElem?_map,g2]
     apply List.ext_getElem?
     intro j
     simp only[List.getElem?_modify]
     by_cases hij:i=j
     ·subst hij;simp[hl,g3]
     ·simp[hij]
    have hrun:(execOp ρ ⟨dst,.entryStore t x s v,type,pos,after,guard⟩).run P w=.ok .skip {w with heap:=w.heap.setIfInBounds (E key) (.map (ents E (setEs es i k u)).toArray clock)}:=by
     simp only[execOp,Instr.entryStore,hr x _ hx,hr s _ hst,hr v _ hv,SV.val,Sem.run_bind,MapKept.run_getObj_map hob,Result.andThen_ok,asInt,asIntOf,Sem.run_pure,hfi,MapKept.run_setObj_map _ hob,hset]
    rw[hrun]
    exact After.writeMap hs hm rfl rfl (B':=.map (setEs es i k u) clock) rfl rfl (fun v hv=>by cases hv) h
   ·exact h.elim
  ·exact h.elim
 ·exact h.elim
def ldelete (P:Program)(ats:Array TypeId)(x k:SV)(m:Mem)(nx:Nat)(K:KL):VC :=
 match ats[0]? with
 | some t=>(match x with
   | .nilmap=>(match P.underlying t with
     | some (.map kt _)=>(match P.underlying kt with
       | some d=>(match keyD d k with
         | true=>K (some (.tup [])) m nx
         | false=>.fail "delete: key")
       | none=>.fail "delete")
     | _=>.fail "delete")
   | _=>withMap P t (some x) (some k) m fun d kv key es clock _=>mapFind d kv (fun r=>match r with
     | some (i,_)=>K (some (.tup [])) (m.put key (.map (dropEs es i) clock)) nx
     | none=>K (some (.tup [])) m nx) es 0)
 | none=>.fail "delete"
theorem ldelete_ok {ats:Array TypeId} {ty:TypeId} {x k:SV} {K:KL} {E:Nat→Nat} {w:World} (h:(ldelete P ats x k m nx K).holds)(hs:SatM Γ E m nx w) :
  ∃ r w',(Builtin.delete_ ats ty #[x.val E,k.val E]).run P w=.ok r w'∧After K Γ E nx r w':=by
 unfold ldelete at h
 split at h
 ·rename_i t h0
  split at h
  ·split at h
   ·rename_i kt et ht
    split at h
    ·rename_i d hd
     split at h
     ·rename_i hkd
      refine⟨.tuple #[],w,by simp only[Builtin.delete_,h0,SV.val,List.getElem?_toArray,List.getElem?_cons_zero,List.getElem?_cons_succ,Sem.run_bind,run_und ht,Result.andThen_ok,MapKept.run_checkKey hd (keyD_is hkd E) true 9999,Sem.run_pure],E,some (.tup []),m,nx,fun _ _=>rfl,Nat.le_refl _,fun v hv=>by injection hv with hv;subst hv;rfl,hs,h⟩
     ·exact h.elim
    ·exact h.elim
   ·exact h.elim
  ·obtain⟨kt,et,d,z,kv,key,es,clock,ht,hd,hz,hx,hk,hm,hkd,h⟩:=withMap_iff h
   injection hx with hx;subst hx
   injection hk with hk;subst hk
   obtain⟨obl,r,h1,h2⟩:=mapFind_iff hkd es 0
   obtain⟨ho,h⟩:=(h1 _).1 h
   obtain⟨f1,f2⟩:=h2 ho
   obtain⟨ob,hob,hb⟩:=hs.blk key _ hm rfl
   have hb:ob=.map (ents E es).toArray clock:=hb
   subst hb
   have hf':Instr.findNow d (k.val E) (ents E es).toArray.toList 0=_:=f1 E
   cases r with
   | none =>
     have same:w.heap.setIfInBounds (E key) (.map (ents E es).toArray clock)=w.heap:=by
      apply Array.ext_getElem?
      intro j
      rw[Array.getElem?_setIfInBounds]
      split
      ·rename_i e
       subst e
       rw[hob]
       split
       ·rfl
       ·rename_i hn;exact absurd (Array.getElem?_eq_some_iff.1 hob).1 hn
      ·rfl
     refine⟨.tuple #[],w,?_,E,some (.tup []),m,nx,fun _ _=>rfl,Nat.le_refl _,fun v hv=>by injection hv with hv;subst hv;rfl,hs,h⟩
     simp only[Builtin.delete_,h0,SV.val,List.getElem?_toArray,List.getElem?_cons_zero,List.getElem?_cons_succ,Sem.run_bind,run_und ht,Result.andThen_ok,MapKept.run_getObj_map hob,MapKept.run_checkKey hd (keyD_is hkd E) _ 9999,Instr.findKey,run_und hd,hf',Option.map_none,Sem.run_pure,MapKept.run_setObj_map _ hob,same]
   | some q =>
     obtain⟨i,e⟩:=q
     refine⟨.tuple #[],{w with heap:=w.heap.setIfInBounds (E key) (.map (ents E (dropEs es i)).toArray clock)},?_,After.writeMap hs hm rfl rfl (B':=.map (dropEs es i) clock) rfl rfl (fun v hv=>by injection hv with hv;subst hv;rfl) h⟩
     simp only[Builtin.delete_,h0,SV.val,List.getElem?_toArray,List.getElem?_cons_zero,List.getElem?_cons_succ,Sem.run_bind,run_und ht,Result.andThen_ok,MapKept.run_getObj_map hob,MapKept.run_checkKey hd (keyD_is hkd E) _ 9999,Instr.findKey,run_und hd,hf',Option.map_some,Sem.run_pure,MapKept.run_setObj_map _ hob,arr_erase,ents_drop]
 ·exact h.elim
def lrange (P:Program)(t:TypeId)(x:Option SV)(m:Mem)(nx:Nat)(K:KL):VC :=
 match P.underlying t,x with
 | some (.map _ _),some .nilmap=>K (some (.ptr nx true 0)) ((nx,.mit none 0 [] 0)::m) (nx+1)
 | some (.map _ _),some (.map key)=>(match m.get key with
   | some (.map _ clock)=>K (some (.ptr nx true 0)) ((nx,.mit (some key) clock [] clock)::m) (nx+1)
   | _=>.fail "range: no map")
 | _,_=>.fail "range: over what"
theorem lrange_ok {dst:Option Tmp} {t type:TypeId} {pos:String} {after:Array Edge} {guard:Option (Nat×Bool)} {x:Operand} :
  LOp P Γ σ m nx ⟨dst,.range t x,type,pos,after,guard⟩ (lrange P t (σ x) m nx):=by
 intro K E w ρ h hs hw hσ hr
 unfold lrange at h
 split at h
 ·rename_i kt et ht hx
  have hrun:(execOp ρ ⟨dst,.range t x,type,pos,after,guard⟩).run P w=.ok (.value (.pointer (some ⟨w.heap.size,0,none⟩))) {w with heap:=w.heap.push (.mapIter none 0 #[] 0)}:=by
   simp only[execOp,Instr.range,hr x _ hx,SV.val,Sem.run_bind,run_und ht,Result.andThen_ok,Sem.run_pure,run_newObj]
  rw[hrun]
  exact After.allocB hs hw (B:=.mit none 0 [] 0) (o:=.mapIter none 0 #[] 0) rfl rfl (fun v hv=>by injection hv with hv;subst hv;simp[SV.val]) h
 ·rename_i kt et key ht hx
  split at h
  ·rename_i es clock hm
   obtain⟨ob,hob,hb⟩:=hs.blk key _ hm rfl
   have hb:ob=.map (ents E es).toArray clock:=hb
   subst hb
   have hrun:(execOp ρ ⟨dst,.range t x,type,pos,after,guard⟩).run P w=.ok (.value (.pointer (some ⟨w.heap.size,0,none⟩))) {w with heap:=w.heap.push (.mapIter (some (E key)) clock #[] clock)}:=by
    simp only[execOp,Instr.range,hr x _ hx,SV.val,Sem.run_bind,run_und ht,Result.andThen_ok,Sem.run_pure,MapKept.run_getObj_map hob,run_newObj]
   rw[hrun]
   have hkl:=hs.lt key _ hm
   exact After.allocB hs hw (B:=.mit (some key) clock [] clock) (o:=.mapIter (some (E key)) clock #[] clock) rfl (by simp only[SB.wf,Nat.blt_eq];exact hkl) (fun v hv=>by injection hv with hv;subst hv;simp[SV.val]) h
  ·exact h.elim
 ·exact h.elim
def memN (b:Nat):List Nat→Bool
 | []=>false
 | x::r=>match Nat.beq x b with
   | true=>true
   | false=>memN b r
theorem memN_eq (b:Nat): ∀ l:List Nat,memN b l=l.contains b
 | []=>rfl
 | x::r=>by
   simp only[memN,List.contains_cons]
   cases h:Nat.beq x b with
   | true=>have:=Nat.eq_of_beq_eq_true h;subst this;simp
   | false =>
     have hne: ¬ (b=x):=fun e=>by subst e;rw[Nat.beq_refl] at h;cases h
     simp[hne,memN_eq b r]
def pickEs (p:Nat→Bool):List (Nat×SV×SV)→List (Nat×SV×SV)
 | []=>[]
 | e::r=>match p e.1 with
   | true=>e::pickEs p r
   | false=>pickEs p r
theorem ents_pick (E:Nat→Nat)(p:Nat→Bool): ∀ es:List (Nat×SV×SV),ents E (pickEs p es)=(ents E es).filter fun e=>p e.born
 | []=>rfl
 | e::r=>by
   have:=ents_pick E p r
   simp only[ents,List.map_cons,pickEs,List.filter_cons] at this ⊢
   cases p e.1<;>simp[this]
def allEs (p:Nat→Bool):List (Nat×SV×SV)→Bool
 | []=>true
 | e::r=>p e.1&&allEs p r
theorem ents_all (E:Nat→Nat)(p:Nat→Bool): ∀ es:List (Nat×SV×SV),(ents E es).all (fun e=>p e.born)=allEs p es
 | []=>rfl
 | e::r=>by
   have:=ents_all E p r
   simp only[ents,List.map_cons,List.all_cons,allEs] at this ⊢
   rw[this]
def nextEs (es:List (Nat×SV×SV))(since:Nat)(seen:List Nat):List (Option (Nat×SV×SV)) :=
 let left:=pickEs (fun b=>!memN b seen) es
 let old:=pickEs (fun b=>Nat.blt b since) left
 (match old with
   | []=>[none]
   | _=>[])++(old++pickEs (fun b=>Nat.ble since b) left).map some
def allNext (f:Option (Nat×SV×SV)→VC):List (Option (Nat×SV×SV))→VC
 | []=>.tt
 | [x]=>f x
 | x::r=>.and (f x) (allNext f r)
theorem allNext_mem {f:Option (Nat×SV×SV)→VC}: ∀ {l:List (Option (Nat×SV×SV))} {x},(allNext f l).holds→x∈ l→(f x).holds
 | [],x,_,h=>by cases h
 | [y],x,h,hm=>by rw[List.mem_singleton] at hm;subst hm;exact h
 | y::z::r,x,h,hm=>by
   obtain⟨h1,h2⟩:=h
   rcases List.mem_cons.1 hm with rfl | hm
   ·exact h1
   ·exact allNext_mem h2 hm
def neL:List Nat→Bool
 | []=>false
 | _=>true
def neE:List (Nat×SV×SV)→Bool
 | []=>false
 | _=>true
def lnext (x:Option SV)(isString:Bool)(m:Mem)(nx:Nat)(K:KL):VC :=
 match x,isString with
 | some (.ptr key true 0),false=>(match m.get key with
   | some (.mit none _ _ _)=>K (some (.tup [.bool true false])) m nx
   | some (.mit (some mk) since seen last)=>(match m.get mk with
     | some (.map es clock)=>(match neL seen&&neE es&&allEs (fun b=>Nat.ble last b) es with
       | true=>.fail "range: all that there was is gone"
       | false=>allNext (fun e=>match e with
         | none=>K (some (.tup [.bool true false])) m nx
         | some e=>K (some (.tup [.bool true true,e.2.1,e.2.2])) (m.put key (.mit (some mk) since (seen++[e.1]) clock)) nx) (nextEs es since seen))
     | _=>.fail "range: no map")
   | _=>.fail "range: no iterator")
 | _,_=>.fail "range: next"
theorem run_getObj_it {P:Program} {w:World} {r:Nat} {mp:Option Nat} {s:Nat} {seen:Array Nat} {c:Nat} (hb:w.heap[r]?=some (.mapIter mp s seen c)):(getObj r).run P w=.ok (.mapIter mp s seen c) w:=by
 simp[getObj,Sem.run,hb]
theorem run_setObj_it {P:Program} {w:World} {r:Nat} {mp:Option Nat} {s:Nat} {seen:Array Nat} {c:Nat} (o:Obj)(hb:w.heap[r]?=some (.mapIter mp s seen c)):(setObj r o).run P w=.ok () {w with heap:=w.heap.setIfInBounds r o}:=by
 simp[setObj,Sem.run,hb]
theorem nextEs_eq (E:Nat→Nat)(es:List (Nat×SV×SV))(since:Nat)(seen:List Nat) :
  (let left:=(ents E es).toArray.filter fun e=>!seen.toArray.contains e.born
    let old:=left.filter (·.born<since)
    let new:=left.filter (·.born≥since)
    (if old.isEmpty then #[none] else #[])++(old++new).map some)=((nextEs es since seen).map fun x=>x.map fun e=>({key:=e.2.1.val E,val:=e.2.2.val E,born:=e.1}:MapEntry)).toArray:=by
 have h1:((ents E es).toArray.filter fun e=>!seen.toArray.contains e.born)=(ents E (pickEs (fun b=>!memN b seen) es)).toArray:=by
  rw[ents_pick]
  simp[memN_eq]
 have h2: ∀ l:List (Nat×SV×SV),((ents E l).toArray.filter fun e=>decide (e.born<since))=(ents E (pickEs (fun b=>Nat.blt b since) l)).toArray:=fun l=>by
  rw[ents_pick]
  have:(fun e:MapEntry=>decide (e.born<since))=fun e=>Nat.blt e.born since:=by
   funext e
   cases h:Nat.blt e.born since with
   | true=>rw[Nat.blt_eq] at h;simp[h]
   | false =>
     have: ¬ (e.born<since):=fun hh=>by rw[← Nat.blt_eq] at hh;rw[hh] at h;cases h
     simp[this]
  rw[this]
  simp
 have h3: ∀ l:List (Nat×SV×SV),((ents E l).toArray.filter fun e=>decide (e.born≥since))=(ents E (pickEs (fun b=>Nat.ble since b) l)).toArray:=fun l=>by
  rw[ents_pick]
  have:(fun e:MapEntry=>decide (e.born≥since))=fun e=>Nat.ble since e.born:=by
   funext e
   cases h:Nat.ble since e.born with
   | true=>have:=Nat.le_of_ble_eq_true h;simp[this]
   | false =>
     have: ¬ (since≤e.born):=fun hh=>by rw[Nat.ble_eq_true_of_le hh] at h;cases h
     simp[this]
  rw[this]
  simp
 simp only[h1,h2,h3]
 unfold nextEs
 simp only
 generalize pickEs (fun b=>Nat.blt b since) (pickEs (fun b=>!memN b seen) es)=old
 generalize pickEs (fun b=>Nat.ble since b) (pickEs (fun b=>!memN b seen) es)=new
 cases old with
 | nil=>simp[ents,List.map_map,Function.comp_def]
 | cons e r=>simp[ents,List.map_map,Function.comp_def]
def tailN (r mk since:Nat)(seen:Array Nat)(clock:Nat)(cands:Array (Option MapEntry))(c:Nat):Sem Value :=
 match cands[c]? with
 | some (some e)=>do
   setObj r (.mapIter (some mk) since (seen.push e.born) clock)
   pure (.tuple #[.bool true,e.key,e.val])
 | some none=>pure (.tuple #[.bool false])
 | none=>stuck "Next: no such candidate"
theorem lnext_ok {dst:Option Tmp} {type:TypeId} {pos:String} {after:Array Edge} {guard:Option (Nat×Bool)} {x:Operand} {b:Bool} :
  LOp P Γ σ m nx ⟨dst,.next x b,type,pos,after,guard⟩ (lnext (σ x) b m nx):=by
 intro K E w ρ h hs hw hσ hr
 unfold lnext at h
 split at h
 ·rename_i key hx
  split at h
  ·rename_i s1 s2 s3 hm
   obtain⟨ob,hob,hb⟩:=hs.blk key _ hm rfl
   have hb:ob=.mapIter none s1 s2.toArray s3:=hb
   subst hb
   have hrun:(execOp ρ ⟨dst,.next x false,type,pos,after,guard⟩).run P w=.ok (.value (.tuple #[.bool false])) w:=by
    simp only[execOp,Instr.next,hr x _ hx,SV.val,Sem.run_bind,run_getObj_it hob,Result.andThen_ok,Sem.run_pure]
   rw[hrun]
   exact⟨E,some (.tup [.bool true false]),m,nx,fun _ _=>rfl,Nat.le_refl _,fun v hv=>by injection hv with hv;subst hv;simp[SV.val,SV.vals],hs,h⟩
  ·rename_i mk since seen last hm
   split at h
   ·rename_i es clock hmk
    split at h
    ·exact h.elim
    ·rename_i hcond
     obtain⟨ob,hob,hb⟩:=hs.blk key _ hm rfl
     have hb:ob=.mapIter (some (E mk)) since seen.toArray last:=hb
     subst hb
     obtain⟨om,hom,hb⟩:=hs.blk mk _ hmk rfl
     have hb:om=.map (ents E es).toArray clock:=hb
     subst hb
     have hc:(!seen.toArray.isEmpty&& !(ents E es).toArray.isEmpty&&(ents E es).toArray.all (fun e=>decide (e.born≥last)))=false:=by
      have e1:(!seen.toArray.isEmpty)=neL seen:=by cases seen<;>rfl
      have e2:(!(ents E es).toArray.isEmpty)=neE es:=by cases es<;>rfl
      have e3:(ents E es).toArray.all (fun e=>decide (e.born≥last))=allEs (fun b=>Nat.ble last b) es:=by
       rw[← ents_all E]
       have:(fun e:MapEntry=>decide (e.born≥last))=fun e=>Nat.ble last e.born:=by
        funext e
        cases h:Nat.ble last e.born with
        | true=>have:=Nat.le_of_ble_eq_true h;simp[this]
        | false =>
          have: ¬ (last≤e.born):=fun hh=>by rw[Nat.ble_eq_true_of_le hh] at h;cases h
          simp[this]
       rw[this]
       simp
      rw[e1,e2,e3];exact hcond
     have hcand:=nextEs_eq E es since seen
     simp only at hcand
     have hne:0<(nextEs es since seen).length:=by
      unfold nextEs
      simp only
      split
      ·simp
      ·rename_i hh
       have:pickEs (fun b=>Nat.blt b since) (pickEs (fun b=>!memN b seen) es)≠[]:=fun e=>hh e
       cases hp:pickEs (fun b=>Nat.blt b since) (pickEs (fun b=>!memN b seen) es)with
       | nil=>exact absurd hp this
       | cons=>simp
     have hex:(execOp ρ ⟨dst,.next x false,type,pos,after,guard⟩).run P w=(do
       let c ← choose (.mapNext ((nextEs es since seen).map fun x=>x.map fun e=>({key:=e.2.1.val E,val:=e.2.2.val E,born:=e.1}:MapEntry)).toArray.size)
       let v ← tailN (E key) (E mk) since seen.toArray clock ((nextEs es since seen).map fun x=>x.map fun e=>({key:=e.2.1.val E,val:=e.2.2.val E,born:=e.1}:MapEntry)).toArray c
       pure (.value v):Sem Next).run P w:=by
      rw[← hcand]
      simp only[execOp,Instr.next,hr x _ hx,SV.val,Sem.run_bind,run_getObj_it hob,Result.andThen_ok,MapKept.run_getObj_map hom,hc,Bool.false_eq_true,if_false,Sem.run_pure]
      generalize Sem.run P (choose _) w=r
      cases r<;>rfl
     rw[hex]
     have main: ∀(c:Nat) (w':World),SatM Γ E m nx w'→w'.heap=w.heap→c<(nextEs es since seen).length →
       Out P (After K Γ E nx) ((do
        let v ← tailN (E key) (E mk) since seen.toArray clock ((nextEs es since seen).map fun x=>x.map fun e=>({key:=e.2.1.val E,val:=e.2.2.val E,born:=e.1}:MapEntry)).toArray c
        pure (.value v):Sem Next).run P w'):=by
      intro c w' hs' hw' hlt
      have hget:(nextEs es since seen)[c]?=some (nextEs es since seen)[c]:=List.getElem?_eq_getElem hlt
      have hk:=allNext_mem h (List.getElem_mem hlt)
      cases hx:(nextEs es since seen)[c] with
      | none =>
        rw[hx] at hk hget
        have ht:tailN (E key) (E mk) since seen.toArray clock ((nextEs es since seen).map fun x=>x.map fun e=>({key:=e.2.1.val E,val:=e.2.2.val E,born:=e.1}:MapEntry)).toArray c=pure (.tuple #[.bool false]):=by
         unfold tailN
         simp only[List.getElem?_toArray,List.getElem?_map,hget,Option.map_some,Option.map_none]
        rw[ht]
        simp only[Sem.run_bind,Sem.run_pure,Result.andThen_ok,Out]
        exact⟨E,some (.tup [.bool true false]),m,nx,fun _ _=>rfl,Nat.le_refl _,fun v hv=>by injection hv with hv;subst hv;simp[SV.val,SV.vals],hs',hk⟩
      | some e =>
        rw[hx] at hk hget
        have hob':w'.heap[E key]?=some (.mapIter (some (E mk)) since seen.toArray last):=by rw[hw'];exact hob
        have ht:tailN (E key) (E mk) since seen.toArray clock ((nextEs es since seen).map fun x=>x.map fun e=>({key:=e.2.1.val E,val:=e.2.2.val E,born:=e.1}:MapEntry)).toArray c =
          (do setObj (E key) (.mapIter (some (E mk)) since (seen.toArray.push e.1) clock);pure (.tuple #[.bool true,e.2.1.val E,e.2.2.val E])):=by
         unfold tailN
         simp only[List.getElem?_toArray,List.getElem?_map,hget,Option.map_some]
        rw[ht]
        simp only[Sem.run_bind,run_setObj_it _ hob',Result.andThen_ok,Sem.run_pure,Out]
        exact After.writeMap hs' hm rfl rfl (B':=.mit (some mk) since (seen++[e.1]) clock) (by show _=_;simp) rfl (fun v hv=>by injection hv with hv;subst hv;simp[SV.val,SV.vals]) hk
     rw[Sem.run_bind,run_choose]
     have hsz:((nextEs es since seen).map fun x=>x.map fun e=>({key:=e.2.1.val E,val:=e.2.2.val E,born:=e.1}:MapEntry)).toArray.size=(nextEs es since seen).length:=by simp
     rw[hsz]
     by_cases hf:(Question.mapNext (nextEs es since seen).length).forced=true
     ·rw[if_pos hf]
      exact main 0 w hs rfl hne
     ·rw[if_neg hf]
      exact main _ _ (hs.drew _) rfl (Nat.mod_lt _ hne)
   ·exact h.elim
  ·exact h.elim
 ·exact h.elim
end
end
end Go.Proofs.YtoalfimkkibpdaaGreatDoor.Sx
