/-
  The framework's part 11a: maps: making, writing, deleting, ranging.
-/
import Derived.Test.YtoibaecagklkaaaGreatDoorMd
import Derived.Test.YtoibaecagklkaaaGreatDoorMc
import Derived.Test.YtoibaecagklkaaaGreatDoorMe
namespace Go.Proofs.YtoibaecagklkaaaGreatDoor.Sx
open Go
noncomputable section
section
variable {P : Program} {Γ : aY} {σ : Operand -> Option SV} {m : Mem} {nx : Nat}
theorem bg.Jg {K:KL}{E:Nat->Nat}{w:World}(hs:aJ Γ E m nx w)(hw:Mem.wf nx m=true){B:SB}{o:Obj}{sv:Option SV}{r:Value}(hB:bn E B o)(hBw:B.wf nx=true)
  (hr: ∀ v,sv=some v->r=v.val (fun k=>if k=nx then w.heap.size else E k)) (h:(K sv ((nx,B)::m) (nx+1)).holds) :
  bg K Γ E nx r {w with heap:=w.heap.push o}:=by
 have hE: ∀ k,k<nx->(fun k=>if k=nx then w.heap.size else E k) k=E k:=fun k hk=>by simp[Nat.ne_of_lt hk]
 exact⟨_,sv,_,_,hE,Nat.le_succ _,hr,hs.alloc hw (hB.congr hE hBw),h⟩
theorem bg.fc {K:KL}{E:Nat->Nat}{w:World}(hs:aJ Γ E m nx w){key:Nat}{B B':SB}{o:Obj}(hk:m.get key=some B)(hn:B.no=false)(hro:B.ro=false)(hB:bn E B' o)(hro':B'.ro=false)
  {sv:Option SV} {r:Value} (hr: ∀ v,sv=some v->r=v.val E) (h:(K sv (m.put key B') nx).holds):bg K Γ E nx r {w with heap:=w.heap.setIfInBounds (E key) o} :=
 ⟨E,sv,_,_,fun _ _=>rfl,Nat.le_refl _,hr,hs.write hk hn hro hB hro',h⟩
def s6 (P:Program)(t:TypeId)(hint:Option (Option SV))(m:Mem)(nx:Nat)(K:KL):VC :=
 match hint with
 | none=>K (some (.map nx)) ((nx,.map [] 0)::m) (nx+1)
 | some (some (.int ..))=>(match P.underlying t with
   | some (.map ..)=>K (some (.map nx)) ((nx,.map [] 0)::m) (nx+1)
   | _=>.fail "make: no map")
 | _=>.fail "make: how many"
theorem FF {dst:Option Tmp}{t type:TypeId}{pos:String}{after:Array Edge}{guard:Option (Nat×Bool)}{r:Option Operand} :
  nW P Γ σ m nx ⟨dst,.makeMap t r,type,pos,after,guard⟩ (s6 P t (r.map σ) m nx):=by
 intro K E w ρ h hs hw hσ hr
 have fin:(K (some (.map nx)) ((nx,.map [] 0)::m) (nx+1)).holds->Out P (bg K Γ E nx) (.ok (.value (.map (some w.heap.size))) {w with heap:=w.heap.push (.map #[] 0)}):=fun h=>by
  exact bg.Jg hs hw (B:=.map [] 0) (o:=.map #[] 0) rfl rfl (fun v hv=>by injection hv with hv;subst hv;simp[SV.val]) h
 cases r with
 | none =>
   have h:(K (some (.map nx)) ((nx,.map [] 0)::m) (nx+1)).holds:=h
   exact fin h
 | some x =>
   simp only[s6,Option.map_some] at h
   split at h
   ·rename_i e;cases e
   ·rename_i k l n hx
    injection hx with hx
    split at h
    ·rename_i kt et ht
     have hrun:(execOp ρ ⟨dst,.makeMap t (some x),type,pos,after,guard⟩).run P w=.ok (.value (.map (some w.heap.size))) {w with heap:=w.heap.push (.map #[] 0)}:=by
      simp only[execOp,Instr.makeMap,Option.map_some,Sem.run_bind,aC ht,Result.andThen_ok,hr x _ hx,SV.val,asInt,asIntOf,Sem.run_pure,run_newObj]
     rw[hrun];exact fin h
    ·exact h.elim
   ·exact h.elim
def lY:List (Nat×SV×SV)->Nat->SV->SV->List (Nat×SV×SV)
 | [],_,_,_=>[]
 | e::r,0,k,v=>(e.1,k,v)::r
 | e::r,i+1,k,v=>e::lY r i k v
def vu:List (Nat×SV×SV)->Nat->List (Nat×SV×SV)
 | [],_=>[]
 | _::r,0=>r
 | e::r,i+1=>e::vu r i
def tE (es:List (Nat×SV×SV))(e:Nat×SV×SV):List (Nat×SV×SV):=match es with
 | []=>[e]
 | x::r=>x::tE r e
theorem tA (E:Nat->Nat)(k v:SV): ∀(es:List (Nat×SV×SV)) (i:Nat),b5 E (lY es i k v)=(b5 E es).modify i fun e=>{e with key:=k.val E,val:=v.val E}
 | [],i=>by cases i<;>rfl
 | e::r,0=>rfl
 | e::r,i+1=>by
   have:=tA E k v r i
   simp only[b5,List.map_cons,lY,List.modify_succ_cons] at this ⊢
   rw[this]
theorem Ci (E:Nat->Nat): ∀(es:List (Nat×SV×SV)) (i:Nat),b5 E (vu es i)=(b5 E es).eraseIdx i
 | [],i=>by cases i<;>rfl
 | e::r,0=>rfl
 | e::r,i+1=>by
   have:=Ci E r i
   simp only[b5,List.map_cons,vu,List.eraseIdx_cons_succ] at this ⊢
   rw[this]
theorem yW (E:Nat->Nat)(e:Nat×SV×SV): ∀(es:List (Nat×SV×SV)),b5 E (tE es e)=b5 E es++[{key:=e.2.1.val E,val:=e.2.2.val E,born:=e.1}]
 | []=>rfl
 | x::r=>by
   have:=yW E e r
   simp only[b5,List.map_cons,tE,List.cons_append] at this ⊢
   rw[this]
theorem q8 {l:List MapEntry}{i:Nat}{f:MapEntry->MapEntry}:l.toArray.modify i f=(l.modify i f).toArray:=by
 apply Array.ext'
 simp[]
theorem LV {l:List MapEntry}{i:Nat}:l.toArray.eraseIdxIfInBounds i=(l.eraseIdx i).toArray:=by
 unfold Array.eraseIdxIfInBounds
 split
 ·simp
 ·rename_i h
  rw[List.eraseIdx_of_length_le (by simpa using h)]
theorem Az {d:TypeDesc}{k:SV}(h:rm d k=true)(E:Nat->Nat)(n:Nat):Instr.sameBits n (k.val E) (k.val E)=true:=by
 unfold rm at h
 split at h<;>first | cases h;done | skip
 all_goals cases n<;>simp[SV.val,Instr.sameBits,(MapKept.bytes_beq _ _).2 rfl]
def k8 (P:Program)(t:TypeId)(x k:Option SV)(m:Mem)(f:TypeDesc->SV->Nat->List (Nat×SV×SV)->Nat->SV->VC):VC :=
 match P.underlying t,x,k with
 | some (.map kt et),some (.map key),some kv=>(match P.underlying kt,fA P et,m.get key with
   | some d,some z,some (.map es clock)=>(match rm d kv with
     | true=>f d kv key es clock z
     | false=>.fail "map: another kind of key")
   | _,_,_=>.fail "map: no map")
 | _,_,_=>.fail "map: no map"
theorem o9 {t:TypeId}{x k:Option SV}{f:TypeDesc->SV->Nat->List (Nat×SV×SV)->Nat->SV->VC}(h:(k8 P t x k m f).holds) :
  ∃ kt et d z kv key es clock,P.underlying t=some (.map kt et)/\P.underlying kt=some d/\fA P et=some z/\x=some (.map key)/\k=some kv/\m.get key=some (.map es clock)/\rm d kv=true/\(f d kv key es clock z).holds:=by
 unfold k8 at h
 split at h
 ·rename_i kt et key kv ht
  split at h
  ·rename_i d z es clock hd hz hm
   split at h
   ·rename_i hk
    exact⟨kt,et,d,z,kv,key,es,clock,ht,hd,hz,rfl,rfl,hm,hk,h⟩
   ·exact h.elim
  ·exact h.elim
 ·exact h.elim
def vm (x:Option SV)(m:Mem):Option (Nat×(List UInt8->Bool)×aV×Option (List UInt8×Int)):=match x with
 | some (.map key)=>(match m.get key with
   | some (.fmap f c p)=>some (key,f,c,p)
   | _=>none)
 | _=>none
theorem nA {x:Option SV}{r}(h:vm x m=some r):x=some (.map r.1)/\m.get r.1=some (.fmap r.2.1 r.2.2.1 r.2.2.2):=by
 unfold vm at h
 split at h
 ·rename_i key
  split at h
  ·rename_i hm;injection h with h;subst h;exact⟨rfl,hm⟩
  ·cases h
 ·cases h
def gI (P:Program)(t:TypeId)(key:Nat)(f:List UInt8->Bool)(c:aV)(k v:Option SV)(m:Mem)(nx:Nat)(K:KL):VC :=
 match P.underlying t,k,v with
 | some (.map kt _),some (.str _ s),some u=>(match P.underlying kt,c.set s u with
   | some .string,some c'=>K none (m.put key (.fmap (gd f s) c' none)) nx
   | _,_=>.fail "map: a value")
 | _,_,_=>.fail "map: a key"
theorem qO {t:TypeId}{key:Nat}{f c p}{k v:Option SV}{K:KL}{E:Nat->Nat}{w:World}(hm:m.get key=some (.fmap f c p))(h:(gI P t key f c k v m nx K).holds)(hs:aJ Γ E m nx w) :
  ∃ kv u w',k=some kv/\v=some u/\(Instr.mapUpdate t (.map (some (E key))) (kv.val E) (u.val E)).run P w=.ok () w'/\bg K Γ E nx undef w':=by
 unfold gI at h
 split at h
 ·rename_i kt et l s u ht
  split at h
  ·rename_i c' hd hc'
   obtain⟨ob,hob,es,clock,rfl,hfm⟩:=hs.kO key _ hm rfl
   have hsv:=aV.C5 hc' E
   rcases hfm.find s with ⟨h1,h2,h3⟩ | ⟨h1,j,e,h2,h3,h4,h5⟩
   ·have h2':Instr.findNow .string (.string ⟨s.toArray⟩) es.toList 0=_:=h2
    refine⟨_,_,_,rfl,rfl,?_,bg.fc hs hm rfl rfl (B':=.fmap (gd f s) c' none) ⟨_,_,rfl,hfm.add hsv h3 (fun _ _ h=>by cases h)⟩ rfl (sv:=none) (fun v hv=>by cases hv) h⟩
    simp only[SV.val,Instr.mapUpdate,Sem.run_bind,aC ht,Result.andThen_ok,MapKept.run_getObj_map hob,MapKept.run_checkKey (k:=.string ⟨s.toArray⟩) hd trivial false 9999,Instr.findKey,aC hd,h2',Sem.run_pure,MapKept.run_setObj_map _ hob,kN]
   ·have h2':Instr.findNow .string (.string ⟨s.toArray⟩) es.toList 0=_:=h2
    have h4':e.key=.string ⟨s.toArray⟩:=h4
    refine⟨_,_,_,rfl,rfl,?_,bg.fc hs hm rfl rfl (B':=.fmap (gd f s) c' none) ⟨_,_,rfl,hfm.put (f:=fun e=>{e with key:=kN s,val:=u.val E}) hsv h3 h4 ⟨rfl,rfl,rfl⟩ (fun _=>rfl) h1 (fun _ _ h=>by cases h)⟩ rfl (sv:=none) (fun v hv=>by cases hv) h⟩
    simp only[SV.val,Instr.mapUpdate,Sem.run_bind,aC ht,Result.andThen_ok,MapKept.run_getObj_map hob,MapKept.run_checkKey (k:=.string ⟨s.toArray⟩) hd trivial false 9999,Instr.findKey,aC hd,h2',Sem.run_pure,h3,Option.map_some,Option.getD_some,h4',MapKept.run_keyThatStays (k:=.string ⟨s.toArray⟩) (d:=.string) trivial,MapKept.run_setObj_map _ hob,kN]
  ·exact h.elim
 ·exact h.elim
def p5 (P:Program)(t:TypeId)(key:Nat)(f:List UInt8->Bool)(c:aV)(k:Option SV)(m:Mem)(nx:Nat)(K:KL):VC :=
 match P.underlying t,k with
 | some (.map kt et),some (.str _ s)=>(match P.underlying kt,fA P et with
   | some .string,some z=>(match c.look (f s) s z with
     | some v=>(match c.set s v with
       | some c'=>.all Int fun b=>K (some (.aL [v,.int .i64 false b])) (m.put key (.fmap (gd f s) c' (some (s,b)))) nx
       | none=>.fail "map: a value")
     | none=>.fail "map: a value")
   | _,_=>.fail "map: a key")
 | _,_=>.fail "map: a key"
theorem CG {t:TypeId}{key:Nat}{f c p}{k:Option SV}{K:KL}{E:Nat->Nat}{w:World}(hm:m.get key=some (.fmap f c p))(h:(p5 P t key f c k m nx K).holds)(hs:aJ Γ E m nx w) :
  ∃ kv r w',k=some kv/\(Instr.mapEntry t (.map (some (E key))) (kv.val E)).run P w=.ok r w'/\bg K Γ E nx r w':=by
 unfold p5 at h
 split at h
 ·rename_i kt et l s ht
  split at h
  ·rename_i z hd hz
   split at h
   ·rename_i v hv
    split at h
    ·rename_i c' hc'
     obtain⟨ob,hob,es,clock,rfl,hfm⟩:=hs.kO key _ hm rfl
     have hsv:=aV.C5 hc' E
     have hlv:=aV.Fl hv E
     rcases hfm.find s with ⟨h1,h2,h3⟩ | ⟨h1,j,e,h2,h3,h4,h5⟩
     ·have h2':Instr.findNow .string (.string ⟨s.toArray⟩) es.toList 0=_:=h2
      rw[h1,if_neg (by simp)] at hlv
      refine⟨_,_,_,rfl,?_,bg.fc hs hm rfl rfl (B':=.fmap (gd f s) c' (some (s,(clock:Int)))) ⟨_,_,rfl,hfm.add hsv h3 (fun t b h=>by injection h with h;injection h with h1 h2;exact⟨h1.symm,h2⟩)⟩ rfl (sv:=some (.aL [v,.int .i64 false clock])) (fun v hv=>by injection hv with hv;subst hv;rfl) (h clock)⟩
      simp only[SV.val,SV.vals,Instr.mapEntry,Sem.run_bind,aC ht,Result.andThen_ok,MapKept.run_getObj_map hob,MapKept.run_checkKey (k:=.string ⟨s.toArray⟩) hd trivial false 9999,Instr.findKey,aC hd,h2',Sem.run_pure,cX (E:=E) hz,MapKept.run_setObj_map _ hob,kN,goInt,hlv]
     ·have h2':Instr.findNow .string (.string ⟨s.toArray⟩) es.toList 0=_:=h2
      have h4':e.key=.string ⟨s.toArray⟩:=h4
      rw[h1,if_pos rfl] at hlv
      refine⟨_,_,_,rfl,?_,bg.fc hs hm rfl rfl (B':=.fmap (gd f s) c' (some (s,(e.born:Int)))) ⟨_,_,rfl,hfm.put (f:=fun e=>{e with key:=kN s}) hsv h3 h4 ⟨rfl,by show e.val=_;rw[h5,hlv],rfl⟩ (fun _=>rfl) h1 (fun t b h=>by injection h with h;injection h with h1 h2;exact⟨h1.symm,h2⟩)⟩ rfl (sv:=some (.aL [v,.int .i64 false e.born])) (fun v hv=>by injection hv with hv;subst hv;rfl) (h e.born)⟩
      simp only[SV.val,SV.vals,Instr.mapEntry,Sem.run_bind,aC ht,Result.andThen_ok,MapKept.run_getObj_map hob,MapKept.run_checkKey (k:=.string ⟨s.toArray⟩) hd trivial false 9999,Instr.findKey,aC hd,h2',Sem.run_pure,h3,Option.map_some,Option.getD_some,h4',MapKept.run_keyThatStays (k:=.string ⟨s.toArray⟩) (d:=.string) trivial,MapKept.run_setObj_map _ hob,kN,goInt,hlv]
    ·exact h.elim
   ·exact h.elim
  ·exact h.elim
 ·exact h.elim
def qm (key:Nat)(f:List UInt8->Bool)(c:aV)(p:Option (List UInt8×Int))(s v:Option SV)(m:Mem)(nx:Nat)(K:KL):VC :=
 match p,s,v with
 | some (t,b'),some (.int _ _ b),some u=>(match c.set t u with
   | some c'=>.and (j9 b b') (K none (m.put key (.fmap (gd f t) c' none)) nx)
   | none=>.fail "map: a value")
 | _,_,_=>.fail "map: no such entry"
theorem CM {mt:TypeId}{key:Nat}{f c p}{s v:Option SV}{K:KL}{E:Nat->Nat}{w:World}(hm:m.get key=some (.fmap f c p))(h:(qm key f c p s v m nx K).holds)(hs:aJ Γ E m nx w) :
  ∃ sv u w',s=some sv/\v=some u/\(Instr.entryStore mt (.map (some (E key))) (sv.val E) (u.val E)).run P w=.ok () w'/\bg K Γ E nx undef w':=by
 unfold qm at h
 split at h
 ·rename_i t b' ik il b u
  split at h
  ·rename_i c' hc'
   obtain⟨hb,h⟩:=h
   have hb:b=b':=hb
   subst hb
   obtain⟨ob,hob,es,clock,rfl,hfm⟩:=hs.kO key _ hm rfl
   have hsv:=aV.C5 hc' E
   obtain⟨e,he,hborn,hkey⟩:=hfm.pd t b rfl
   have hd:f t=true:=by
    cases hf:f t with
    | true=>rfl
    | false=>exact absurd hkey (hfm.no t hf e he)
   obtain⟨i,hi⟩: ∃ i,es.findIdx? (fun e=>(e.born:Int)==b)=some i:=by
    cases hf:es.findIdx? (fun e=>(e.born:Int)==b)with
    | some i=>exact⟨i,rfl⟩
    | none =>
      rw[Array.findIdx?_eq_none_iff] at hf
      have:=hf e (by simpa using he)
      simp[hborn] at this
   have hie:es[i]?=some e:=by
    have h0:=Array.findIdx?_eq_some_iff_getElem.1 hi
    obtain⟨hlt,hp,_⟩:=h0
    have hmem:es[i]∈ es.toList:=by simp
    have:=Db hfm.st.2.1 hmem he (by
     have:((es[i]).born:Int)=b:=by simpa using hp
     omega)
    rw[Array.getElem?_eq_getElem hlt,this]
   refine⟨_,_,_,rfl,rfl,?_,bg.fc hs hm rfl rfl (B':=.fmap (gd f t) c' none) ⟨_,_,rfl,hfm.put (f:=fun e=>{e with val:=u.val E}) hsv hie hkey ⟨hkey,rfl,rfl⟩ (fun _=>rfl) hd (fun _ _ h=>by cases h)⟩ rfl (sv:=none) (fun v hv=>by cases hv) h⟩
   simp only[SV.val,Instr.entryStore,Sem.run_bind,MapKept.run_getObj_map hob,Result.andThen_ok,asInt,asIntOf,Sem.run_pure,hi,MapKept.run_setObj_map _ hob]
  ·exact h.elim
 ·exact h.elim
def M8:List SV->List au->List Gh
 | .bw kr _ _ _ _ _::r,.cn kB _ _ _ _ _::q=>.name kr 0::.merge kB kr::M8 r q
 | _::r,_::q=>M8 r q
 | _,_=>[]
def Pa:List au->Nat
 | .cn kB _ _ _ _ _::_=>kB
 | _::q=>Pa q
 | []=>0
def WJ (c:aV)(m:Mem)(v:Option SV):List Gh:=match c,v with
 | .ref kF _,some (.ptr kp true 0)=>(match m.get kp,m.get kF with
   | some (.cells cs _ _),some (.iw _ ds _ _ _)=>M8 cs ds++[.name kp (Pa ds),.merge kF kp]
   | _,_=>[])
 | _,_=>[]
def fJ (P:Program)(t:TypeId)(x k v:Option SV)(m:Mem)(nx:Nat)(K:KL):VC:=match vm x m with
 | some (key,f,c,_)=>(match WJ c m v with
   | []=>gI P t key f c k v m nx K
   | l=>MS l [v] m fun vs m'=>match vs,vm x m' with
     | [v'],some (key',f',c',_)=>gI P t key' f' c' k v' m' nx K
     | _,_=>.fail "map: a value")
 | none=>k8 P t x k m fun d kv key es clock _=>match v with
   | some u=>eP d kv (fun r=>match r with
     | some (i,_)=>K none (m.put key (.map (lY es i kv u) clock)) nx
     | none=>K none (m.put key (.map (tE es (clock,kv,u)) (clock+1))) nx) es 0
   | none=>.fail "map: a value that is not known"
theorem GH {d:TypeDesc}{k:SV}(h:rm d k=true){E:Nat->Nat}{old:Value}(he:old=k.val E){w:World}:(Instr.keyThatStays old (k.val E)).run P w=.ok (k.val E) w:=by
 subst he
 simp[Instr.keyThatStays,Az h]
theorem FA {E:Nat->Nat}{es:List (Nat×SV×SV)}{i:Nat}{e:Nat×SV×SV}(h:es[i]?=some e):(b5 E es).toArray[i]?=some {key:=e.2.1.val E,val:=e.2.2.val E,born:=e.1}:=by
 simp[b5,List.getElem?_map,h]
theorem Ak {t kt et:TypeId}{d:TypeDesc}{kv u:SV}{key:Nat}{es:List (Nat×SV×SV)}{clock:Nat}{r:S8}{E:Nat->Nat}{w:World}(ht:P.underlying t=some (.map kt et))(hd:P.underlying kt=some d)(hkd:rm d kv=true)
  (ho:w.heap[E key]?=some (.map (b5 E es).toArray clock)) (hf:Instr.findNow d (kv.val E) (b5 E es) 0=some (r.map fun x=>(x.1,x.2.2.2.val E))) (hg: ∀ j e,r=some (j,e)->es[j]?=some e/\e.2.1.val E=kv.val E) :
  (Instr.mapUpdate t (.map (some (E key))) (kv.val E) (u.val E)).run P w=.ok () {w with heap:=w.heap.setIfInBounds (E key) (match r with
    | some (i,_)=>.map (b5 E (lY es i kv u)).toArray clock
    | none=>.map (b5 E (tE es (clock,kv,u))).toArray (clock+1))}:=by
 have hf':Instr.findNow d (kv.val E) (b5 E es).toArray.toList 0=_:=hf
 simp only[Instr.mapUpdate,Sem.run_bind,aC ht,Result.andThen_ok,MapKept.run_getObj_map ho,MapKept.run_checkKey hd (jN hkd E) false 9999,Instr.findKey,aC hd,hf',Sem.run_pure]
 cases r with
 | none =>
   simp only[Option.map_none,MapKept.run_setObj_map _ ho,yW]
   simp
 | some q =>
   obtain⟨i,e⟩:=q
   obtain⟨g1,g2⟩:=hg i e rfl
   simp only[Option.map_some,FA g1,Option.getD_some,Sem.run_bind,GH hkd g2,Result.andThen_ok,MapKept.run_setObj_map _ ho,tA,q8]
theorem qM {dst:Option Tmp}{t type:TypeId}{pos:String}{after:Array Edge}{guard:Option (Nat×Bool)}{x k v:Operand} :
  nW P Γ σ m nx ⟨dst,.mapUpdate t x k v,type,pos,after,guard⟩ (fJ P t (σ x) (σ k) (σ v) m nx):=by
 intro K E w ρ h hs hw hσ hr
 unfold fJ at h
 split at h
 ·rename_i hf
  obtain⟨hx,hm⟩:=nA hf
  split at h
  rotate_left
  ·obtain⟨tm,m',htold,hsm,h⟩:=l9 h hs
   split at h
   ·rename_i v' key' f' c' p' hf'
    obtain⟨hx',hm'⟩:=nA hf'
    obtain⟨kv,u,w',hk,hv,hrun,haft⟩:=qO hm' h hsm
    subst hv
    obtain⟨v0,q1,q2,_⟩:=htold.get 0 u rfl
    have q1:σ v=some v0:=by simpa using q1
    have hex:(execOp ρ ⟨dst,.mapUpdate t x k v,type,pos,after,guard⟩).run P w=.ok .skip w':=by
     simp only[execOp,hr x _ hx',hr k _ hk,hr v _ q1,SV.val,Sem.run_bind,← q2,hrun,Result.andThen_ok,Sem.run_pure]
    rw[hex];exact haft
   ·exact h.elim
  obtain⟨kv,u,w',hk,hv,hrun,haft⟩:=qO hm h hs
  have hex:(execOp ρ ⟨dst,.mapUpdate t x k v,type,pos,after,guard⟩).run P w=.ok .skip w':=by
   simp only[execOp,hr x _ hx,hr k _ hk,hr v _ hv,SV.val,Sem.run_bind,hrun,Result.andThen_ok,Sem.run_pure]
  rw[hex];exact haft
 obtain⟨kt,et,d,z,kv,key,es,clock,ht,hd,hz,hx,hk,hm,hkd,h⟩:=o9 h
 split at h
 ·rename_i u hv
  obtain⟨obl,r,h1,h2⟩:=jr hkd es 0
  obtain⟨ho,h⟩:=(h1 _).1 h
  obtain⟨f1,f2⟩:=h2 ho
  obtain⟨ob,hob,hb⟩:=hs.kO key _ hm rfl
  have hb:ob=.map (b5 E es).toArray clock:=hb
  subst hb
  have hrun:=Ak (P:=P) (u:=u) ht hd hkd hob (f1 E) (fun j e e'=>by obtain⟨_,g2,g3⟩:=f2 j e e';exact⟨by simpa using g2,g3 E⟩)
  have hex:(execOp ρ ⟨dst,.mapUpdate t x k v,type,pos,after,guard⟩).run P w=(do Instr.mapUpdate t (.map (some (E key))) (kv.val E) (u.val E);pure .skip:Sem Next).run P w:=by
   simp only[execOp,hr x _ hx,hr k _ hk,hr v _ hv,SV.val]
  rw[hex,Sem.run_bind,hrun]
  simp only[Result.andThen_ok,Sem.run_pure,Out]
  cases r with
  | none=>exact bg.fc hs hm rfl rfl (B':=.map (tE es (clock,kv,u)) (clock+1)) rfl rfl (fun v hv=>by cases hv) h
  | some q=>exact bg.fc hs hm rfl rfl (B':=.map (lY es q.1 kv u) clock) rfl rfl (fun v hv=>by cases hv) h
 ·exact h.elim
theorem Ht {dst:Option Tmp}{t type:TypeId}{pos:String}{after:Array Edge}{guard:Option (Nat×Bool)}{x k v:Operand} :
  nW P Γ σ m nx ⟨dst,.insert t x k v,type,pos,after,guard⟩ (fJ P t (σ x) (σ k) (σ v) m nx) :=
 fun K E w ρ h hs hw hσ hr=>qM (dst:=dst) (type:=type) (pos:=pos) (after:=after) (guard:=guard) K E w ρ h hs hw hσ hr
def qA (P:Program)(t:TypeId)(x k:Option SV)(m:Mem)(nx:Nat)(K:KL):VC:=match vm x m with
 | some (key,f,c,_)=>p5 P t key f c k m nx K
 | none=>k8 P t x k m fun d kv key es clock z=>eP d kv (fun r=>match r with
    | some (i,e)=>K (some (.aL [e.2.2,.int .i64 true e.1])) (m.put key (.map (lY es i kv e.2.2) clock)) nx
    | none=>K (some (.aL [z,.int .i64 true clock])) (m.put key (.map (tE es (clock,kv,z)) (clock+1))) nx) es 0
theorem Df {dst:Option Tmp}{t type:TypeId}{pos:String}{after:Array Edge}{guard:Option (Nat×Bool)}{x k:Operand} :
  nW P Γ σ m nx ⟨dst,.mapEntry t x k,type,pos,after,guard⟩ (qA P t (σ x) (σ k) m nx):=by
 intro K E w ρ h hs hw hσ hr
 unfold qA at h
 split at h
 ·rename_i hf
  obtain⟨hx,hm⟩:=nA hf
  obtain⟨kv,r,w',hk,hrun,haft⟩:=CG hm h hs
  have hex:(execOp ρ ⟨dst,.mapEntry t x k,type,pos,after,guard⟩).run P w=.ok (.value r) w':=by
   simp only[execOp,hr x _ hx,hr k _ hk,SV.val,Sem.run_bind,hrun,Result.andThen_ok,Sem.run_pure]
  rw[hex];exact haft
 obtain⟨kt,et,d,z,kv,key,es,clock,ht,hd,hz,hx,hk,hm,hkd,h⟩:=o9 h
 obtain⟨obl,r,h1,h2⟩:=jr hkd es 0
 obtain⟨ho,h⟩:=(h1 _).1 h
 obtain⟨f1,f2⟩:=h2 ho
 obtain⟨ob,hob,hb⟩:=hs.kO key _ hm rfl
 have hb:ob=.map (b5 E es).toArray clock:=hb
 subst hb
 have hf':Instr.findNow d (kv.val E) (b5 E es).toArray.toList 0=_:=f1 E
 simp only[execOp,Instr.mapEntry,hr x _ hx,hr k _ hk,SV.val,Sem.run_bind,aC ht,Result.andThen_ok,MapKept.run_getObj_map hob,MapKept.run_checkKey hd (jN hkd E) false 9999,Instr.findKey,aC hd,hf',Sem.run_pure]
 cases r with
 | none =>
   simp only[Option.map_none,Sem.run_bind,cX (E:=E) hz,Result.andThen_ok,MapKept.run_setObj_map _ hob,Sem.run_pure,Out]
   have hpush:(b5 E es).toArray.push {key:=kv.val E,val:=z.val E,born:=clock}=(b5 E (tE es (clock,kv,z))).toArray:=by rw[yW];simp
   rw[hpush]
   exact bg.fc hs hm rfl rfl (B':=.map (tE es (clock,kv,z)) (clock+1)) rfl rfl (fun v hv=>by injection hv with hv;subst hv;simp[SV.val,SV.vals,goInt]) h
 | some q =>
   obtain⟨i,e⟩:=q
   obtain⟨_,g2,g3⟩:=f2 i e rfl
   have g2:es[i]?=some e:=by simpa using g2
   simp only[Option.map_some,FA g2,Option.getD_some,Sem.run_bind,GH hkd (g3 E),Result.andThen_ok,MapKept.run_setObj_map _ hob,Sem.run_pure,Out]
   have hset:((b5 E es).toArray.modify i fun e=>{e with key:=kv.val E})=(b5 E (lY es i kv e.2.2)).toArray:=by
    rw[tA,q8]
    congr 1
    have hl:(b5 E es)[i]?=some {key:=e.2.1.val E,val:=e.2.2.val E,born:=e.1}:=by simp[b5,List.getElem?_map,g2]
    apply List.ext_getElem?
    intro j
    simp only[List.getElem?_modify]
    by_cases hij:i=j
    ·subst hij;simp[hl]
    ·simp[hij]
   rw[hset]
   exact bg.fc hs hm rfl rfl (B':=.map (lY es i kv e.2.2) clock) rfl rfl (fun v hv=>by injection hv with hv;subst hv;simp[SV.val,SV.vals,goInt]) h
def xj (b:Int):List (Nat×SV×SV)->Nat->Option (Nat×SV)
 | [],_=>none
 | e::r,i=>match decide (((e.1:Nat):Int)=b)with
   | true=>some (i,e.2.1)
   | false=>xj b r (i+1)
def k9 (x s v:Option SV)(m:Mem)(nx:Nat)(K:KL):VC:=match vm x m with
 | some (key,f,c,p)=>qm key f c p s v m nx K
 | none=>match x,s,v with
 | some (.map key),some (.int _ _ b),some u=>(match m.get key with
   | some (.map es clock)=>(match xj b es 0 with
     | some (i,k)=>K none (m.put key (.map (lY es i k u) clock)) nx
     | none=>.fail "map: no such entry")
   | _=>.fail "map: no map")
 | _,_,_=>.fail "map: entry"
theorem wv {b:Int}: ∀ {es:List (Nat×SV×SV)} {i j:Nat} {k:SV},xj b es i=some (j,k)->i<=j/\(∃ e,es[j - i]?=some e/\e.2.1=k)/\∀ E,(b5 E es).findIdx? (fun e=>(e.born:Int)==b)=some (j - i)
 | [],_,_,_,h=>by cases h
 | e::r,i,j,k,h=>by
   simp only[xj] at h
   split at h
   ·rename_i hb
    injection h with h;injection h with h1 h2;subst h1;subst h2
    refine⟨Nat.le_refl _,⟨e,by simp,rfl⟩,fun E=> ?_⟩
    have hb:=of_decide_eq_true hb
    show List.findIdx? _ ({key:=e.2.1.val E,val:=e.2.2.val E,born:=e.1}::b5 E r)=_
    rw[List.findIdx?_cons]
    simp[hb]
   ·rename_i hb
    obtain⟨g1,⟨e',g2,g3⟩,g4⟩:=wv h
    have hb:=of_decide_eq_false hb
    refine⟨by omega,⟨e',?_,g3⟩,fun E=> ?_⟩
    ·rw[show j - i=(j - (i+1))+1 by omega];simpa using g2
    ·show List.findIdx? _ ({key:=e.2.1.val E,val:=e.2.2.val E,born:=e.1}::b5 E r)=_
     rw[List.findIdx?_cons,g4 E]
     have:(((e.1:Nat):Int)==b)=false:=by simpa using hb
     simp only[this]
     simp;omega
theorem ye {dst:Option Tmp}{t type:TypeId}{pos:String}{after:Array Edge}{guard:Option (Nat×Bool)}{x s v:Operand} :
  nW P Γ σ m nx ⟨dst,.entryStore t x s v,type,pos,after,guard⟩ (k9 (σ x) (σ s) (σ v) m nx):=by
 intro K E w ρ h hs hw hσ hr
 unfold k9 at h
 split at h
 ·rename_i hf
  obtain⟨hx,hm⟩:=nA hf
  obtain⟨sv,u,w',hk,hv,hrun,haft⟩:=CM (P:=P) (mt:=t) hm h hs
  have hex:(execOp ρ ⟨dst,.entryStore t x s v,type,pos,after,guard⟩).run P w=.ok .skip w':=by
   simp only[execOp,hr x _ hx,hr s _ hk,hr v _ hv,SV.val,Sem.run_bind,hrun,Result.andThen_ok,Sem.run_pure]
  rw[hex];exact haft
 split at h
 ·rename_i key ik il b u hx hst hv
  split at h
  ·rename_i es clock hm
   split at h
   ·rename_i i k hi
    obtain⟨_,⟨e,g2,g3⟩,g4⟩:=wv hi
    have g2:es[i]?=some e:=by simpa using g2
    obtain⟨ob,hob,hb⟩:=hs.kO key _ hm rfl
    have hb:ob=.map (b5 E es).toArray clock:=hb
    subst hb
    have hfi:(b5 E es).toArray.findIdx? (fun e=>(e.born:Int)==b)=some i:=by
     have:=g4 E
     simpa using this
    have hset:((b5 E es).toArray.modify i fun e=>{e with val:=u.val E})=(b5 E (lY es i k u)).toArray:=by
     rw[tA,q8]
     congr 1
     have hl:(b5 E es)[i]?=some {key:=e.2.1.val E,val:=e.2.2.val E,born:=e.1}:=by simp[b5,List.getElem?_map,g2]
     apply List.ext_getElem?
     intro j
     simp only[List.getElem?_modify]
     by_cases hij:i=j
     ·subst hij;simp[hl,g3]
     ·simp[hij]
    have hrun:(execOp ρ ⟨dst,.entryStore t x s v,type,pos,after,guard⟩).run P w=.ok .skip {w with heap:=w.heap.setIfInBounds (E key) (.map (b5 E (lY es i k u)).toArray clock)}:=by
     simp only[execOp,Instr.entryStore,hr x _ hx,hr s _ hst,hr v _ hv,SV.val,Sem.run_bind,MapKept.run_getObj_map hob,Result.andThen_ok,asInt,asIntOf,Sem.run_pure,hfi,MapKept.run_setObj_map _ hob,hset]
    rw[hrun]
    exact bg.fc hs hm rfl rfl (B':=.map (lY es i k u) clock) rfl rfl (fun v hv=>by cases hv) h
   ·exact h.elim
  ·exact h.elim
 ·exact h.elim
def xk (P:Program)(ats:Array TypeId)(x k:SV)(m:Mem)(nx:Nat)(K:KL):VC :=
 match ats[0]? with
 | some t=>(match x with
   | .eM=>(match P.underlying t with
     | some (.map kt _)=>(match P.underlying kt with
       | some d=>(match rm d k with
         | true=>K (some (.aL [])) m nx
         | false=>.fail "delete: key")
       | none=>.fail "delete")
     | _=>.fail "delete")
   | _=>k8 P t (some x) (some k) m fun d kv key es clock _=>eP d kv (fun r=>match r with
     | some (i,_)=>K (some (.aL [])) (m.put key (.map (vu es i) clock)) nx
     | none=>K (some (.aL [])) m nx) es 0)
 | none=>.fail "delete"
theorem Hp {ats:Array TypeId}{ty:TypeId}{x k:SV}{K:KL}{E:Nat->Nat}{w:World}(h:(xk P ats x k m nx K).holds)(hs:aJ Γ E m nx w) :
  ∃ r w',(Builtin.delete_ ats ty #[x.val E,k.val E]).run P w=.ok r w'/\bg K Γ E nx r w':=by
 unfold xk at h
 split at h
 ·rename_i t h0
  split at h
  ·split at h
   ·rename_i kt et ht
    split at h
    ·rename_i d hd
     split at h
     ·rename_i hkd
      refine⟨.tuple #[],w,by simp only[Builtin.delete_,h0,SV.val,List.getElem?_toArray,List.getElem?_cons_zero,List.getElem?_cons_succ,Sem.run_bind,aC ht,Result.andThen_ok,MapKept.run_checkKey hd (jN hkd E) true 9999,Sem.run_pure],E,some (.aL []),m,nx,fun _ _=>rfl,Nat.le_refl _,fun v hv=>by injection hv with hv;subst hv;rfl,hs,h⟩
     ·exact h.elim
    ·exact h.elim
   ·exact h.elim
  ·obtain⟨kt,et,d,z,kv,key,es,clock,ht,hd,hz,hx,hk,hm,hkd,h⟩:=o9 h
   injection hx with hx;subst hx
   injection hk with hk;subst hk
   obtain⟨obl,r,h1,h2⟩:=jr hkd es 0
   obtain⟨ho,h⟩:=(h1 _).1 h
   obtain⟨f1,f2⟩:=h2 ho
   obtain⟨ob,hob,hb⟩:=hs.kO key _ hm rfl
   have hb:ob=.map (b5 E es).toArray clock:=hb
   subst hb
   have hf':Instr.findNow d (k.val E) (b5 E es).toArray.toList 0=_:=f1 E
   cases r with
   | none =>
     have same:w.heap.setIfInBounds (E key) (.map (b5 E es).toArray clock)=w.heap:=by
      apply Array.ext_getElem?
      intro j
      rw[Array.getElem?_setIfInBounds]
      split
      ·rename_i e
       subst e
       rw[hob]
       split
       ·rfl
       ·rename_i hn;exact absurd (Array.getElem?_eq_some_iff.1 hob).1 hn
      ·rfl
     refine⟨.tuple #[],w,?_,E,some (.aL []),m,nx,fun _ _=>rfl,Nat.le_refl _,fun v hv=>by injection hv with hv;subst hv;rfl,hs,h⟩
     simp only[Builtin.delete_,h0,SV.val,List.getElem?_toArray,List.getElem?_cons_zero,List.getElem?_cons_succ,Sem.run_bind,aC ht,Result.andThen_ok,MapKept.run_getObj_map hob,MapKept.run_checkKey hd (jN hkd E) _ 9999,Instr.findKey,aC hd,hf',Option.map_none,Sem.run_pure,MapKept.run_setObj_map _ hob,same]
   | some q =>
     obtain⟨i,e⟩:=q
     refine⟨.tuple #[],{w with heap:=w.heap.setIfInBounds (E key) (.map (b5 E (vu es i)).toArray clock)},?_,bg.fc hs hm rfl rfl (B':=.map (vu es i) clock) rfl rfl (fun v hv=>by injection hv with hv;subst hv;rfl) h⟩
     simp only[Builtin.delete_,h0,SV.val,List.getElem?_toArray,List.getElem?_cons_zero,List.getElem?_cons_succ,Sem.run_bind,aC ht,Result.andThen_ok,MapKept.run_getObj_map hob,MapKept.run_checkKey hd (jN hkd E) _ 9999,Instr.findKey,aC hd,hf',Option.map_some,Sem.run_pure,MapKept.run_setObj_map _ hob,LV,Ci]
 ·exact h.elim
def Dx (P:Program)(t:TypeId)(x:Option SV)(m:Mem)(nx:Nat)(K:KL):VC :=
 match P.underlying t,x with
 | some (.map _ _),some .eM=>K (some (.ptr nx true 0)) ((nx,.Ec none 0 [] 0)::m) (nx+1)
 | some (.map _ _),some (.map key)=>(match m.get key with
   | some (.map _ clock)=>K (some (.ptr nx true 0)) ((nx,.Ec (some key) clock [] clock)::m) (nx+1)
   | _=>.fail "range: no map")
 | _,_=>.fail "range: over what"
theorem Le {dst:Option Tmp}{t type:TypeId}{pos:String}{after:Array Edge}{guard:Option (Nat×Bool)}{x:Operand} :
  nW P Γ σ m nx ⟨dst,.range t x,type,pos,after,guard⟩ (Dx P t (σ x) m nx):=by
 intro K E w ρ h hs hw hσ hr
 unfold Dx at h
 split at h
 ·rename_i kt et ht hx
  have hrun:(execOp ρ ⟨dst,.range t x,type,pos,after,guard⟩).run P w=.ok (.value (.pointer (some ⟨w.heap.size,0,none⟩))) {w with heap:=w.heap.push (.mapIter none 0 #[] 0)}:=by
   simp only[execOp,Instr.range,hr x _ hx,SV.val,Sem.run_bind,aC ht,Result.andThen_ok,Sem.run_pure,run_newObj]
  rw[hrun]
  exact bg.Jg hs hw (B:=.Ec none 0 [] 0) (o:=.mapIter none 0 #[] 0) rfl rfl (fun v hv=>by injection hv with hv;subst hv;simp[SV.val]) h
 ·rename_i kt et key ht hx
  split at h
  ·rename_i es clock hm
   obtain⟨ob,hob,hb⟩:=hs.kO key _ hm rfl
   have hb:ob=.map (b5 E es).toArray clock:=hb
   subst hb
   have hrun:(execOp ρ ⟨dst,.range t x,type,pos,after,guard⟩).run P w=.ok (.value (.pointer (some ⟨w.heap.size,0,none⟩))) {w with heap:=w.heap.push (.mapIter (some (E key)) clock #[] clock)}:=by
    simp only[execOp,Instr.range,hr x _ hx,SV.val,Sem.run_bind,aC ht,Result.andThen_ok,Sem.run_pure,MapKept.run_getObj_map hob,run_newObj]
   rw[hrun]
   have hkl:=hs.lt key _ hm
   exact bg.Jg hs hw (B:=.Ec (some key) clock [] clock) (o:=.mapIter (some (E key)) clock #[] clock) rfl (by simp only[SB.wf,Nat.blt_eq];exact hkl) (fun v hv=>by injection hv with hv;subst hv;simp[SV.val]) h
  ·exact h.elim
 ·exact h.elim
def C1 (b:Nat):List Nat->Bool
 | []=>false
 | x::r=>match Nat.beq x b with
   | true=>true
   | false=>C1 b r
theorem J3 (b:Nat): ∀ l:List Nat,C1 b l=l.contains b
 | []=>rfl
 | x::r=>by
   simp only[C1,List.contains_cons]
   cases h:Nat.beq x b with
   | true=>have:=Nat.eq_of_beq_eq_true h;subst this;simp
   | false =>
     have hne: ¬ (b=x):=fun e=>by subst e;rw[Nat.beq_refl] at h;cases h
     simp[hne,J3 b r]
def fz (p:Nat->Bool):List (Nat×SV×SV)->List (Nat×SV×SV)
 | []=>[]
 | e::r=>match p e.1 with
   | true=>e::fz p r
   | false=>fz p r
theorem pN (E:Nat->Nat)(p:Nat->Bool): ∀ es:List (Nat×SV×SV),b5 E (fz p es)=(b5 E es).filter fun e=>p e.born
 | []=>rfl
 | e::r=>by
   have:=pN E p r
   simp only[b5,List.map_cons,fz,List.filter_cons] at this ⊢
   cases p e.1<;>simp[this]
def Fm (p:Nat->Bool):List (Nat×SV×SV)->Bool
 | []=>true
 | e::r=>p e.1&&Fm p r
theorem Gm (E:Nat->Nat)(p:Nat->Bool): ∀ es:List (Nat×SV×SV),(b5 E es).all (fun e=>p e.born)=Fm p es
 | []=>rfl
 | e::r=>by
   have:=Gm E p r
   simp only[b5,List.map_cons,List.all_cons,Fm] at this ⊢
   rw[this]
def fK (es:List (Nat×SV×SV))(since:Nat)(seen:List Nat):List (Option (Nat×SV×SV)) :=
 let left:=fz (fun b=>!C1 b seen) es
 let old:=fz (fun b=>Nat.blt b since) left
 (match old with
   | []=>[none]
   | _=>[])++(old++fz (fun b=>Nat.ble since b) left).map some
def sM (f:Option (Nat×SV×SV)->VC):List (Option (Nat×SV×SV))->VC
 | []=>.tt
 | [x]=>f x
 | x::r=>.and (f x) (sM f r)
theorem vY {f:Option (Nat×SV×SV)->VC}: ∀ {l:List (Option (Nat×SV×SV))} {x},(sM f l).holds->x∈ l->(f x).holds
 | [],x,_,h=>by cases h
 | [y],x,h,hm=>by rw[List.mem_singleton] at hm;subst hm;exact h
 | y::z::r,x,h,hm=>by
   obtain⟨h1,h2⟩:=h
   rcases List.mem_cons.1 hm with rfl | hm
   ·exact h1
   ·exact vY h2 hm
def XO:List Nat->Bool
 | []=>false
 | _=>true
def XM:List (Nat×SV×SV)->Bool
 | []=>false
 | _=>true
def JR (x:Option SV)(isString:Bool)(m:Mem)(nx:Nat)(K:KL):VC :=
 match x,isString with
 | some (.ptr key true 0),false=>(match m.get key with
   | some (.Ec none _ _ _)=>K (some (.aL [.bool true false])) m nx
   | some (.Ec (some mk) since seen last)=>(match m.get mk with
     | some (.map es clock)=>(match XO seen&&XM es&&Fm (fun b=>Nat.ble last b) es with
       | true=>.fail "range: all that there was is gone"
       | false=>sM (fun e=>match e with
         | none=>K (some (.aL [.bool true false])) m nx
         | some e=>K (some (.aL [.bool true true,e.2.1,e.2.2])) (m.put key (.Ec (some mk) since (seen++[e.1]) clock)) nx) (fK es since seen))
     | _=>.fail "range: no map")
   | _=>.fail "range: no iterator")
 | _,_=>.fail "range: next"
theorem qZ {P:Program}{w:World}{r:Nat}{mp:Option Nat}{s:Nat}{seen:Array Nat}{c:Nat}(hb:w.heap[r]?=some (.mapIter mp s seen c)):(getObj r).run P w=.ok (.mapIter mp s seen c) w:=by
 simp[getObj,Sem.run,hb]
theorem AG {P:Program}{w:World}{r:Nat}{mp:Option Nat}{s:Nat}{seen:Array Nat}{c:Nat}(o:Obj)(hb:w.heap[r]?=some (.mapIter mp s seen c)):(setObj r o).run P w=.ok () {w with heap:=w.heap.setIfInBounds r o}:=by
 simp[setObj,Sem.run,hb]
theorem L8 (E:Nat->Nat)(es:List (Nat×SV×SV))(since:Nat)(seen:List Nat) :
  (let left:=(b5 E es).toArray.filter fun e=>!seen.toArray.contains e.born
    let old:=left.filter (·.born<since)
    let new:=left.filter (·.born≥since)
    (if old.isEmpty then #[none] else #[])++(old++new).map some)=((fK es since seen).map fun x=>x.map fun e=>({key:=e.2.1.val E,val:=e.2.2.val E,born:=e.1}:MapEntry)).toArray:=by
 have h1:((b5 E es).toArray.filter fun e=>!seen.toArray.contains e.born)=(b5 E (fz (fun b=>!C1 b seen) es)).toArray:=by
  rw[pN]
  simp[J3]
 have h2: ∀ l:List (Nat×SV×SV),((b5 E l).toArray.filter fun e=>decide (e.born<since))=(b5 E (fz (fun b=>Nat.blt b since) l)).toArray:=fun l=>by
  rw[pN]
  have:(fun e:MapEntry=>decide (e.born<since))=fun e=>Nat.blt e.born since:=by
   funext e
   cases h:Nat.blt e.born since with
   | true=>rw[Nat.blt_eq] at h;simp[h]
   | false =>
     have: ¬ (e.born<since):=fun hh=>by rw[← Nat.blt_eq] at hh;rw[hh] at h;cases h
     simp[this]
  rw[this]
  simp
 have h3: ∀ l:List (Nat×SV×SV),((b5 E l).toArray.filter fun e=>decide (e.born≥since))=(b5 E (fz (fun b=>Nat.ble since b) l)).toArray:=fun l=>by
  rw[pN]
  have:(fun e:MapEntry=>decide (e.born≥since))=fun e=>Nat.ble since e.born:=by
   funext e
   cases h:Nat.ble since e.born with
   | true=>have:=Nat.le_of_ble_eq_true h;simp[this]
   | false =>
     have: ¬ (since<=e.born):=fun hh=>by rw[Nat.ble_eq_true_of_le hh] at h;cases h
     simp[this]
  rw[this]
  simp
 simp only[h1,h2,h3]
 unfold fK
 simp only
 generalize fz (fun b=>Nat.blt b since) (fz (fun b=>!C1 b seen) es)=old
 generalize fz (fun b=>Nat.ble since b) (fz (fun b=>!C1 b seen) es)=new
 cases old with
 | nil=>simp[b5,List.map_map,Function.comp_def]
 | cons e r=>simp[b5,List.map_map,Function.comp_def]
def Bt (r mk since:Nat)(seen:Array Nat)(clock:Nat)(cands:Array (Option MapEntry))(c:Nat):Sem Value :=
 match cands[c]? with
 | some (some e)=>do
   setObj r (.mapIter (some mk) since (seen.push e.born) clock)
   pure (.tuple #[.bool true,e.key,e.val])
 | some none=>pure (.tuple #[.bool false])
 | none=>stuck "Next: no such candidate"
theorem MX {dst:Option Tmp}{type:TypeId}{pos:String}{after:Array Edge}{guard:Option (Nat×Bool)}{x:Operand}{b:Bool} :
  nW P Γ σ m nx ⟨dst,.next x b,type,pos,after,guard⟩ (JR (σ x) b m nx):=by
 intro K E w ρ h hs hw hσ hr
 unfold JR at h
 split at h
 ·rename_i key hx
  split at h
  ·rename_i s1 s2 s3 hm
   obtain⟨ob,hob,hb⟩:=hs.kO key _ hm rfl
   have hb:ob=.mapIter none s1 s2.toArray s3:=hb
   subst hb
   have hrun:(execOp ρ ⟨dst,.next x false,type,pos,after,guard⟩).run P w=.ok (.value (.tuple #[.bool false])) w:=by
    simp only[execOp,Instr.next,hr x _ hx,SV.val,Sem.run_bind,qZ hob,Result.andThen_ok,Sem.run_pure]
   rw[hrun]
   exact⟨E,some (.aL [.bool true false]),m,nx,fun _ _=>rfl,Nat.le_refl _,fun v hv=>by injection hv with hv;subst hv;simp[SV.val,SV.vals],hs,h⟩
  ·rename_i mk since seen last hm
   split at h
   ·rename_i es clock hmk
    split at h
    ·exact h.elim
    ·rename_i hcond
     obtain⟨ob,hob,hb⟩:=hs.kO key _ hm rfl
     have hb:ob=.mapIter (some (E mk)) since seen.toArray last:=hb
     subst hb
     obtain⟨om,hom,hb⟩:=hs.kO mk _ hmk rfl
     have hb:om=.map (b5 E es).toArray clock:=hb
     subst hb
     have hc:(!seen.toArray.isEmpty&& !(b5 E es).toArray.isEmpty&&(b5 E es).toArray.all (fun e=>decide (e.born≥last)))=false:=by
      have e1:(!seen.toArray.isEmpty)=XO seen:=by cases seen<;>rfl
      have e2:(!(b5 E es).toArray.isEmpty)=XM es:=by cases es<;>rfl
      have e3:(b5 E es).toArray.all (fun e=>decide (e.born≥last))=Fm (fun b=>Nat.ble last b) es:=by
       rw[← Gm E]
       have:(fun e:MapEntry=>decide (e.born≥last))=fun e=>Nat.ble last e.born:=by
        funext e
        cases h:Nat.ble last e.born with
        | true=>have:=Nat.le_of_ble_eq_true h;simp[this]
        | false =>
          have: ¬ (last<=e.born):=fun hh=>by rw[Nat.ble_eq_true_of_le hh] at h;cases h
          simp[this]
       rw[this]
       simp
      rw[e1,e2,e3];exact hcond
     have hcand:=L8 E es since seen
     simp only at hcand
     have hne:0<(fK es since seen).length:=by
      unfold fK
      simp only
      split
      ·simp
      ·rename_i hh
       have:fz (fun b=>Nat.blt b since) (fz (fun b=>!C1 b seen) es)≠[]:=fun e=>hh e
       cases hp:fz (fun b=>Nat.blt b since) (fz (fun b=>!C1 b seen) es)with
       | nil=>exact absurd hp this
       | cons=>simp
     have hex:(execOp ρ ⟨dst,.next x false,type,pos,after,guard⟩).run P w=(do
       let c ← choose (.mapNext ((fK es since seen).map fun x=>x.map fun e=>({key:=e.2.1.val E,val:=e.2.2.val E,born:=e.1}:MapEntry)).toArray.size)
       let v ← Bt (E key) (E mk) since seen.toArray clock ((fK es since seen).map fun x=>x.map fun e=>({key:=e.2.1.val E,val:=e.2.2.val E,born:=e.1}:MapEntry)).toArray c
       pure (.value v):Sem Next).run P w:=by
      rw[← hcand]
      simp only[execOp,Instr.next,hr x _ hx,SV.val,Sem.run_bind,qZ hob,Result.andThen_ok,MapKept.run_getObj_map hom,hc,Bool.false_eq_true,if_false,Sem.run_pure]
      generalize Sem.run P (choose _) w=r
      cases r<;>rfl
     rw[hex]
     have main: ∀(c:Nat) (w':World),aJ Γ E m nx w'->w'.heap=w.heap->c<(fK es since seen).length ->
       Out P (bg K Γ E nx) ((do
        let v ← Bt (E key) (E mk) since seen.toArray clock ((fK es since seen).map fun x=>x.map fun e=>({key:=e.2.1.val E,val:=e.2.2.val E,born:=e.1}:MapEntry)).toArray c
        pure (.value v):Sem Next).run P w'):=by
      intro c w' hs' hw' hlt
      have hget:(fK es since seen)[c]?=some (fK es since seen)[c]:=List.getElem?_eq_getElem hlt
      have hk:=vY h (List.getElem_mem hlt)
      cases hx:(fK es since seen)[c] with
      | none =>
        rw[hx] at hk hget
        have ht:Bt (E key) (E mk) since seen.toArray clock ((fK es since seen).map fun x=>x.map fun e=>({key:=e.2.1.val E,val:=e.2.2.val E,born:=e.1}:MapEntry)).toArray c=pure (.tuple #[.bool false]):=by
         unfold Bt
         simp only[List.getElem?_toArray,List.getElem?_map,hget,Option.map_some,Option.map_none]
        rw[ht]
        simp only[Sem.run_bind,Sem.run_pure,Result.andThen_ok,Out]
        exact⟨E,some (.aL [.bool true false]),m,nx,fun _ _=>rfl,Nat.le_refl _,fun v hv=>by injection hv with hv;subst hv;simp[SV.val,SV.vals],hs',hk⟩
      | some e =>
        rw[hx] at hk hget
        have hob':w'.heap[E key]?=some (.mapIter (some (E mk)) since seen.toArray last):=by rw[hw'];exact hob
        have ht:Bt (E key) (E mk) since seen.toArray clock ((fK es since seen).map fun x=>x.map fun e=>({key:=e.2.1.val E,val:=e.2.2.val E,born:=e.1}:MapEntry)).toArray c =
          (do setObj (E key) (.mapIter (some (E mk)) since (seen.toArray.push e.1) clock);pure (.tuple #[.bool true,e.2.1.val E,e.2.2.val E])):=by
         unfold Bt
         simp only[List.getElem?_toArray,List.getElem?_map,hget,Option.map_some]
        rw[ht]
        simp only[Sem.run_bind,AG _ hob',Result.andThen_ok,Sem.run_pure,Out]
        exact bg.fc hs' hm rfl rfl (B':=.Ec (some mk) since (seen++[e.1]) clock) (by show _=_;simp) rfl (fun v hv=>by injection hv with hv;subst hv;simp[SV.val,SV.vals]) hk
     rw[Sem.run_bind,run_choose]
     have hsz:((fK es since seen).map fun x=>x.map fun e=>({key:=e.2.1.val E,val:=e.2.2.val E,born:=e.1}:MapEntry)).toArray.size=(fK es since seen).length:=by simp
     rw[hsz]
     by_cases hf:(Question.mapNext (fK es since seen).length).forced=true
     ·rw[if_pos hf]
      exact main 0 w hs rfl hne
     ·rw[if_neg hf]
      exact main _ _ (hs.drew _) rfl (Nat.mod_lt _ hne)
   ·exact h.elim
  ·exact h.elim
 ·exact h.elim
end
section
variable {P : Program} {Γ : aY} {σ : Operand -> Option SV} {m : Mem} {nx : Nat}
def iu:List SV->List Int
 | .int .u8 _ n::r=>n::iu r
 | _=>[]
def Eh:Nat->List SV->Option (Nat×List Int)
 | _,[]=>none
 | a,v::r=>match v with
   | .int .u8 _ n=>some (a,n::iu r)
   | _=>Eh (a+1) r
theorem v8: ∀(cs:List SV) (j:Nat),j<(iu cs).length->∃ b,cs[j]?=some (.int .u8 b (An (iu cs) j))
 | [],j,h=>by simp[iu] at h
 | v::r,j,h=>by
   unfold iu at h ⊢
   split at h
   ·rename_i b n r' e
    injection e with e1 e2;subst e1;subst e2
    cases j with
    | zero=>exact⟨b,rfl⟩
    | succ j =>
      obtain⟨b',hb⟩:=v8 r j (by simpa using h)
      exact⟨b',by simpa [An] using hb⟩
   ·simp at h
theorem B6: ∀(cs:List SV) (a a0:Nat) (zs:List Int),Eh a cs=some (a0,zs)->a<=a0/\a0 - a+zs.length<=cs.length/\∀ j,j<zs.length->∃ b,cs[a0 - a+j]?=some (.int .u8 b (An zs j))
 | [],a,a0,zs,h=>by cases h
 | v::r,a,a0,zs,h=>by
   have rec':Eh (a+1) r=some (a0,zs)->a<=a0/\a0 - a+zs.length<=(v::r).length/\∀ j,j<zs.length->∃ b,(v::r)[a0 - a+j]?=some (.int .u8 b (An zs j)):=fun h=>by
    obtain⟨g1,g2,g3⟩:=B6 r (a+1) a0 zs h
    refine⟨by omega,by simp only[List.length_cons];omega,fun j hj=> ?_⟩
    obtain⟨b,hb⟩:=g3 j hj
    exact⟨b,by rw[show a0 - a+j=(a0 - (a+1)+j)+1 by omega];simpa using hb⟩
   unfold Eh at h
   split at h
   ·rename_i b n
    injection h with h;injection h with h1 h2;subst h1;subst h2
    have hf:=v8 (.int .u8 b n::r)
    have e:iu (.int .u8 b n::r)=n::iu r:=rfl
    rw[e] at hf
    have hl: ∀ l:List SV,(iu l).length<=l.length:=by
     intro l
     induction l with
     | nil=>simp[iu]
     | cons v r ih =>
       unfold iu
       split
       ·rename_i e;injection e with _ e;subst e;simpa using ih
       ·simp
    refine⟨Nat.le_refl _,by have:=hl r;simp only[List.length_cons,Nat.sub_self];omega,fun j hj=> ?_⟩
    rw[Nat.sub_self,Nat.zero_add]
    exact hf j hj
   ·exact rec' h
def Dl (off cnt:Nat)(s:List UInt8):Nat->List Int->List SV
 | _,[]=>[]
 | j,z::r=>.int .u8 false (if off<=j/\j<off+cnt then((s.getD (j - off) 0).toNat:Int)else z)::Dl off cnt s (j+1) r
theorem tc {off cnt:Nat}{s:List UInt8}: ∀ {l:List Int} {j:Nat},(Dl off cnt s j l).length=l.length
 | [],_=>rfl
 | _::r,j=>by simp[Dl,tc (l:=r)]
theorem GI {off cnt:Nat}{s:List UInt8}: ∀ {l:List Int} {j q:Nat} {x:SV},(Dl off cnt s j l)[q]?=some x->x=.int .u8 false (if off<=j+q/\j+q<off+cnt then((s.getD (j+q - off) 0).toNat:Int)else An l q)
 | [],_,_,_,h=>by simp[Dl] at h
 | z::r,j,0,x,h=>by simp[Dl] at h;subst h;simp[An]
 | z::r,j,q+1,x,h=>by
   simp only[Dl,List.getElem?_cons_succ] at h
   rw[GI h,show j+1+q=j+(q+1)by omega]
   simp[An]
def sw (key i n:Nat)(y:SV)(m:Mem)(nx:Nat)(K:KL):VC :=
 match y,m.get key with
 | .str _ s,some (.cells cs tot ty)=>(match Eh 0 cs with
   | some (a,zs)=>.and (.atom (a<=i/\i+n<=a+zs.length)) (K (some (.int .i64 false (min s.length n:Nat))) (m.put key (.cells (aZ cs a (Dl (i - a) (min s.length n) s 0 zs)) tot ty)) nx)
   | none=>.fail "copy: no bytes")
 | _,_=>.fail "copy: blocks"
theorem y6 (P:Program)(w:World)(s:List UInt8)(n:Nat):(Builtin.firstCells 1 n (.string ⟨s.toArray⟩)).run P w=.ok ((s.take n).map fun b=>Value.int .u8 b.toNat).toArray w:=by
 have e:((ByteArray.mk s.toArray).extract 0 n)=⟨(s.take n).toArray⟩:=by
  have:=qH s 0 n
  simpa using this
 show Result.ok _ w=_
 rw[e];simp
theorem EU {Γ:aY}{E:Nat->Nat}{w:World}{m:Mem}{nx:Nat}{K:KL}{key i n:Nat}{y:SV}(P:Program)(h:(sw key i n y m nx K).holds)(hs:aJ Γ E m nx w) :
  ∃ s,y.val E=.string ⟨List.toArray s⟩/\∃ w',(storeCells ⟨E key,i,none⟩ ((s.take (min s.length n)).map fun b=>Value.int .u8 b.toNat)).run P w=.ok () w'/\bg K Γ E nx (.int .i64 ((min s.length n:Nat):Int)) w':=by
 unfold sw at h
 split at h
 ·rename_i lt s cs tot ty hk
  split at h
  ·rename_i a zs hrun8
   obtain⟨⟨ha,hin⟩,h⟩:=h
   obtain⟨_,u2,u3⟩:=B6 cs 0 a zs hrun8
   rw[Nat.sub_zero] at u2
   refine⟨s,rfl,?_⟩
   obtain⟨ob,ho,c,fr,rfl,h1,h2,h3⟩:=hs.kO key _ hk rfl
   generalize hc:min s.length n=cnt at *
   have hcs:cnt<=s.length:=by omega
   have hcn:cnt<=n:=by omega
   have hlen:((s.take cnt).map fun b=>Value.int .u8 b.toNat).length=cnt:=by rw[List.length_map,List.length_take];omega
   have hcl:cs.length<=c.size:=by
    cases hcs:cs.length with
    | zero=>omega
    | succ q =>
      have:=h2 q _ (List.getElem?_eq_getElem (by omega))
      have:=(Array.getElem?_eq_some_iff.1 this).1
      omega
   have hrun:=cJ (P:=P) (o:=i) ((s.take cnt).map fun b=>Value.int .u8 b.toNat) 0 w c ho h1 (by rw[hlen];omega) (fun u hu=>by
    rw[List.mem_map] at hu
    obtain⟨b,_,rfl⟩:=hu
    rfl)
   refine⟨_,hrun,E,some (.int .i64 false (cnt:Int)),_,_,fun _ _=>rfl,Nat.le_refl _,fun v hv=>by injection hv with hv;subst hv;rfl,hs.write hk rfl rfl (B':=.cells (aZ cs a (Dl (i - a) cnt s 0 zs)) tot ty) ?_ rfl,h⟩
   refine⟨_,fr,rfl,by rw[bA];exact h1,fun q u hq=> ?_,by rw[bA];exact h3⟩
   have hsa: ∀ v,(if i<=q/\q<i+cnt then((s.take cnt).map fun b=>Value.int .u8 b.toNat)[q - i]? else c[q]?)=some v->(dB c (i+0) ((s.take cnt).map fun b=>Value.int .u8 b.toNat))[q]?=some v:=by
    intro v hv
    rw[← Array.getElem?_toList,fq,Nat.add_zero]
    have hqs:q<c.size:=by
     split at hv
     ·omega
     ·exact(Array.getElem?_eq_some_iff.1 hv).1
    have hsl:(aZ c.toList i ((s.take cnt).map fun b=>Value.int .u8 b.toNat)).length=c.size:=by
     rw[← fq];simp[bA]
    obtain⟨x,hx⟩: ∃ x,(aZ c.toList i ((s.take cnt).map fun b=>Value.int .u8 b.toNat))[q]?=some x:=⟨_,List.getElem?_eq_getElem (by rw[hsl];exact hqs)⟩
    rcases ni _ _ _ _ _ hx (by rw[hlen,Array.length_toList];omega)with ⟨g1,g2,g3⟩ | ⟨g1,g2⟩
    ·rw[hlen] at g2
     rw[if_pos ⟨g1,g2⟩] at hv
     rw[hx,← g3];exact hv
    ·rw[hlen] at g1
     rw[if_neg (by omega)] at hv
     rw[hx,← g2,Array.getElem?_toList];exact hv
   apply hsa
   rcases ni _ _ _ _ _ hq (by rw[tc];omega)with ⟨g1,g2,g3⟩ | ⟨g1,g2⟩
   ·have hu:=GI g3
    subst hu
    rw[tc] at g2
    by_cases e:i<=q/\q<i+cnt
    ·rw[if_pos e,if_pos (by omega),List.getElem?_map,List.getElem?_take_of_lt (by omega),List.getElem?_eq_getElem (by omega)]
     simp only[Option.map_some,SV.val,Nat.zero_add]
     rw[show q - a - (i - a)=q - i by omega,List.getD_eq_getElem?_getD,List.getElem?_eq_getElem (by omega)]
     rfl
    ·rw[if_neg e,if_neg (by omega)]
     obtain⟨b,hb⟩:=u3 (q - a) (by omega)
     rw[show a - 0+(q - a)=q by omega] at hb
     have:=h2 _ _ hb
     exact this
   ·rw[tc] at g1
    rw[if_neg (by omega)];exact h2 q u g2
  ·exact h.elim
 ·exact h.elim
def Kg (P:Program)(ats:Array TypeId)(x y:SV)(m:Mem)(nx:Nat)(K:KL):VC :=
 match ats[0]? with
 | some t0=>(match P.underlying t0 with
   | some (.slice elem)=>(match sz P elem,x with
     | some s,.slc key o n _ _=>(match fM m s y,m.get key with
       | some (l,n'),some (.cells cs tot ty)=>if(l8 (l.take (min n' n*s))&&decide (o+(l.take (min n' n*s)).length<=cs.length))=true then
          K (some (.int .i64 true (min n' n:Nat))) (m.put key (.cells (aZ cs o (l.take (min n' n*s))) tot ty)) nx else .fail "copy: cells"
       | _,_=>.fail "copy: blocks")
     | some 1,.bw key 1 false i n _=>sw key i n y m nx K
     | _,_=>.fail "copy: to what")
   | _=>.fail "copy")
 | none=>.fail "copy"
theorem QE {ats:Array TypeId}{ty:TypeId}{x y:SV}{K:KL}{Γ:aY}{E:Nat->Nat}{w:World}
  (h:(Kg P ats x y m nx K).holds) (hs:aJ Γ E m nx w) :
  ∃ r w',(Builtin.copy_ ats ty #[x.val E,y.val E]).run P w=.ok r w'/\bg K Γ E nx r w':=by
 unfold Kg at h
 split at h
 ·rename_i t0 h0
  split at h
  ·rename_i elem hd
   split at h
   ·rename_i s key o n cl c hsz
    split at h
    ·rename_i l n' cs tot ty' hy hk
     split at h
     ·rename_i hc
      simp only[Bool.and_eq_true,decide_eq_true_eq] at hc
      obtain⟨ylen,ycells,ynum⟩:=iy (P:=P) hs hy
      have hyc:=ycells (min n' n) (Nat.min_le_left _ _)
      obtain⟨w',hrun,haft⟩:=bg.write (P:=P) (r:=.int .i64 ((min n' n:Nat):Int)) hs hk (iD hc.1) hc.2 (fun v hv=>by injection hv with hv;subst hv;rfl) h
      refine⟨_,w',?_,haft⟩
      simp only[SV.val,Builtin.copy_,h0,List.getElem?_toArray,List.getElem?_cons_zero,List.getElem?_cons_succ,Sem.run_bind,aC hd,Result.andThen_ok,ylen,bK hsz]
      rw[show n'.min n=min n' n from rfl,hyc]
      simp only[Result.andThen_ok,hrun,Sem.run_pure,goInt]
     ·exact h.elim
    ·exact h.elim
   ·rename_i key i n c hsz
    obtain⟨s,hy,w',hrun,haft⟩:=EU P h hs
    refine⟨_,w',?_,haft⟩
    have hl:(ByteArray.mk s.toArray).size=s.length:=by simp[ByteArray.size]
    rw[hy]
    simp only[SV.val,Bool.false_and,cond_false,Nat.mul_one,Builtin.copy_,h0,List.getElem?_toArray,List.getElem?_cons_zero,List.getElem?_cons_succ,Sem.run_bind,aC hd,Result.andThen_ok,Builtin.lenOf,Sem.run_pure,bK hsz,hl]
    rw[show s.length.min n=min s.length n from rfl,y6]
    simp only[Result.andThen_ok,hrun,goInt]
   ·exact h.elim
  ·exact h.elim
 ·exact h.elim
def Ez:SV->Option au
 | .int k _ n=>some (.int k fun _=>n)
 | .bool _ b=>some (.bool fun _=>b)
 | .str _ s=>some (.str fun _=>s)
 | _=>none
def lU:List SV->Option (List au)
 | []=>some []
 | v::r=>(match Ez v,lU r with
   | some c,some l=>some (c::l)
   | _,_=>none)
theorem qS: ∀ {cs:List SV} {av:List au},lU cs=some av->av.length=cs.length/\∀(k:Nat) (col:au),av[k]?=some col->∃ v,cs[k]?=some v/\∀ i E,(col.at i).val E=v.val E
 | [],av,h=>by simp[lU] at h;subst h;exact⟨rfl,fun k c hc=>by simp at hc⟩
 | v::r,av,h=>by
   simp only[lU] at h
   split at h
   ·rename_i c l hc hl
    injection h with h;subst h
    obtain⟨g1,g2⟩:=qS hl
    refine⟨by simp[g1],fun k col hk=> ?_⟩
    cases k with
    | zero =>
      simp at hk;subst hk
      refine⟨v,rfl,fun i E=> ?_⟩
      unfold Ez at hc
      split at hc<;>first | (injection hc with hc;subst hc;rfl) | cases hc
    | succ k=>exact g2 k col (by simpa using hk)
   ·cases h
theorem E8 {zs:List SV}: ∀ {n i k:Nat} {v:SV},i<n->zs[k]?=some v->(times n zs)[i*zs.length+k]?=some v
 | 0,_,_,_,h,_=>absurd h (Nat.not_lt_zero _)
 | n+1,i,k,v,h,hk=>by
   have hkl:=(List.getElem?_eq_some_iff.1 hk).1
   simp only[times]
   cases i with
   | zero=>rw[Nat.zero_mul,Nat.zero_add,List.getElem?_append_left hkl];exact hk
   | succ i =>
     rw[Nat.add_mul,Nat.one_mul,List.getElem?_append_right (by omega),show i*zs.length+zs.length+k - zs.length=i*zs.length+k by omega]
     exact E8 (by omega) hk
def wI (P:Program)(t:TypeId)(x y:SV)(m:Mem)(nx:Nat)(K:KL):VC :=
 match P.underlying t,x,y with
 | some (.slice e),.int .i64 true n,.int .i64 l c=>(match sz P e,fA P e,bytes P e with
   | some s,some z,some by_=>if(z.plain&&decide (z.cells.length=s)&&decide (s≠0)&&decide (0<=n))=true then
      Bm l (n<=c/\by_*c<=140737488355328/\c<=9223372036854775807) (K (some (.slc nx 0 n.toNat l c.toNat)) ((nx,.cells (times (bif l then c.toNat else n.toNat) z.cells) (c.toNat*s) e)::m) (nx+1))else .fail "make: size"
   | _,_,_=>.fail "make")
 | some (.slice e),.int .i64 false n,.int .i64 _ c=>(match sz P e,fA P e,bytes P e with
   | some s,some z,some by_=>(match lU z.cells with
     | some av=>if(z.plain&&decide (z.cells.length=s)&&decide (s≠0))=true then
       .and (.atom (c=n/\0<=n/\by_*n<=140737488355328/\n<=9223372036854775807)) (K (some (.bw nx s false 0 n.toNat n.toNat)) ((nx,.rows false n.toNat av false (n.toNat*s) e)::m) (nx+1))else .fail "make: size"
     | none=>.fail "make: columns")
   | _,_,_=>.fail "make")
 | _,_,_=>.fail "make: a length that is not known"
theorem Bn {dst:Option Tmp}{t type:TypeId}{pos:String}{after:Array Edge}{guard:Option (Nat×Bool)}{x y:Operand} :
  ∀ {a b:SV},(∀ n,a=.int .i64 false n->False)->∀(K:KL) (E:Nat->Nat) (w:World) (ρ:Operand->Value),(wI P t a b m nx K).holds->aJ Γ E m nx w->Mem.wf nx m=true->ρ x=a.val E->ρ y=b.val E ->
    Out P (bg K Γ E nx) ((execOp ρ ⟨dst,.makeSlice t x y,type,pos,after,guard⟩).run P w):=by
 intro a b hnl K E w ρ h hs hw ha hb
 unfold wI at h
 split at h
 ·rename_i e n l c hd
  split at h
  ·rename_i s z by_ hsz hz hby
   split at h
   ·rename_i hc
    simp only[Bool.and_eq_true,decide_eq_true_eq] at hc
    obtain⟨⟨⟨h1,h2⟩,h3⟩,h4⟩:=hc
    have hk:(n<=c/\by_*c<=140737488355328/\c<=9223372036854775807)/\(K (some (.slc nx 0 n.toNat l c.toNat)) ((nx,.cells (times (bif l then c.toNat else n.toNat) z.cells) (c.toNat*s) e)::m) (nx+1)).holds:=by
     unfold Sx.Bm at h
     split at h
     ·split at h
      ·rename_i hh;exact⟨hh,h⟩
      ·exact h.elim
     ·exact h
    obtain⟨⟨k1,k2,k3⟩,hk⟩:=hk
    have hwc:IntKind.i64.wrap c=c:=qu (k:=.i64) ⟨by simp only[lo];omega,by simp only[hi];omega⟩
    have hwn:IntKind.i64.wrap n=n:=qu (k:=.i64) ⟨by simp only[lo];omega,by simp only[hi];omega⟩
    have hby': ∃ i,P.info? e=some i/\i.bytes=by_:=by
     unfold bytes at hby
     split at hby
     ·rename_i i hi;injection hby with hby;exact⟨i,hi,hby⟩
     ·cases hby
    obtain⟨i,hi,hib⟩:=hby'
    have hzc:=SV.dV (E:=E) h1
    have hzs:(z.val E).cells.size=s:=by rw[hzc];simp[h2]
    have hnl: ¬ (c<0):=by omega
    have hbig: ¬ (((by_:Nat):Int)*c>2^ 48):=by
     have:(2:Int)^ 48=281474976710656:=by decide
     omega
    have hcond:((decide (c<0)||decide (((by_:Nat):Int)*c>2^ 48))||decide (n<0)||decide (n>c))=false:=by
     simp only[Bool.or_eq_false_iff,decide_eq_false_iff_not]
     exact⟨⟨⟨hnl,hbig⟩,by omega⟩,by omega⟩
    have fin: ∀ z':Array Value,((Array.range (c.toNat*s)).map fun i=>z'[i% z'.size]!)=(SV.vals E (times c.toNat z.cells)).toArray ->
      Out P (bg K Γ E nx) (((newRow e ((Array.range (c.toNat*s)).map fun i=>z'[i% z'.size]!) >>= fun a=>pure (Value.slice (some a) n.toNat c.toNat):Sem Value).run P w).andThen fun a w'=>(pure (Next.value a):Sem Next).run P w'):=by
     intro z' hz'
     rw[hz']
     simp only[newRow,Sem.run_bind,run_newObj,Result.andThen_ok,Sem.run_pure,Out]
     have g: ∀ k:Nat,(times k z.cells).length=k*s:=by
      intro k
      induction k with
      | zero=>simp[times]
      | succ k ih=>rw[times,List.length_append,ih,h2,Nat.add_mul];omega
     refine bg.alloc hs hw (zI (mC (vA hz)) _) (fun i v hv=> ?_) (by simp[SV.bp,g]) hk (by simp[SV.val])
     ·generalize hq:(bif l then c.toNat else n.toNat)=q at hv
      have hqc:q<=c.toNat:=by cases l<;>simp at hq<;>omega
      have hsplit:times c.toNat z.cells=times q z.cells++times (c.toNat - q) z.cells:=by
       have g: ∀ a b:Nat,times (a+b) z.cells=times a z.cells++times b z.cells:=by
        intro a b
        induction a with
        | zero=>simp[times]
        | succ a ih=>rw[show a+1+b=(a+b)+1 by omega,times,ih,times,List.append_assoc]
       rw[← g];congr 1;omega
      have:=(List.getElem?_eq_some_iff.1 hv).1
      rw[SV.bp,List.getElem?_toArray,List.getElem?_map,hsplit,List.getElem?_append_left this,hv];rfl
    simp only[execOp,Instr.makeSlice,ha,hb,SV.val,asInt,asIntOf,Sem.run_bind,aC hd,Result.andThen_ok,Sem.run_pure,iE hi,hib,hwc,hwn]
    rw[hcond]
    simp only[Bool.false_eq_true,if_false,Sem.run_bind,run_askRoom,Result.andThen_ok,bK hsz,Sem.run_ite]
    by_cases h0:c.toNat*s=0
    ·rw[if_pos h0]
     simp only[Sem.run_pure,Result.andThen_ok]
     refine fin #[] ?_
     have:c.toNat=0:=by rcases Nat.mul_eq_zero.1 h0 with h | h;exact h;exact absurd h h3
     rw[this];simp[times,SV.vals]
    ·rw[if_neg h0]
     simp only[cX (E:=E) hz,Sem.run_pure,Result.andThen_ok]
     refine fin _ ?_
     apply Array.ext'
     have:=oM (E:=E) (zs:=z.cells) (z:=(z.val E).cells) (by rw[hzc]) (by rw[hzs];exact h3) c.toNat
     rw[hzs] at this
     rw[SV.bp]
     simpa [hzs] using this
   ·exact h.elim
  ·exact h.elim
 ·exact(hnl _ rfl).elim
 ·exact h.elim
theorem Rt {dst:Option Tmp}{t type:TypeId}{pos:String}{after:Array Edge}{guard:Option (Nat×Bool)}{x y:Operand} :
  nW P Γ σ m nx ⟨dst,.makeSlice t x y,type,pos,after,guard⟩ (fun K=>need (σ x) (fun a=>need (σ y) (fun b=>wI P t a b m nx K))):=by
 refine nW.need fun a ha=>nW.need fun b hb=> ?_
 intro K E w ρ h hs hw hσ hr
 by_cases hl: ∃ n,a=.int .i64 false n
 ·obtain⟨n,rfl⟩:=hl
  unfold wI at h
  split at h
  ·rename_i e;cases e
  ·rename_i e n' l' c hd heq
   injection heq with _ _ heq
   subst heq
   split at h
   ·rename_i s z by_ hsz hz hby
    split at h
    ·rename_i av hcols
     split at h
     ·rename_i hc
      obtain⟨⟨rfl,k1,k2,k3⟩,h⟩:=h
      have hc':=hc
      simp only[Bool.and_eq_true,decide_eq_true_eq] at hc'
      obtain⟨⟨h1,h2⟩,h3⟩:=hc'
      let K0:KL:=fun sv m' nx'=>.atom (sv=some (.slc nx 0 c.toNat true c.toNat)/\m'=(nx,.cells (times c.toNat z.cells) (c.toNat*s) e)::m/\nx'=nx+1)
      have hk0:(wI P t (.int .i64 true c) (.int .i64 true c) m nx K0).holds:=by
       simp only[wI,hd,hsz,hz,hby]
       rw[if_pos (by simp[h1,h2,h3,k1])]
       simp only[Sx.Bm,cond_true]
       rw[if_pos ⟨Int.le_refl _,k2,k3⟩]
       exact⟨rfl,rfl,rfl⟩
      have ho:=Bn (P:=P) (Γ:=Γ) (m:=m) (nx:=nx) (dst:=dst) (type:=type) (pos:=pos) (after:=after) (guard:=guard) (t:=t) (x:=x) (y:=y) (a:=.int .i64 true c) (b:=.int .i64 true c) (fun _ h=>by cases h) K0 E w ρ hk0 hs hw (by have:=hr x _ ha;exact this) (by have:=hr y _ hb;exact this)
      refine ho.mono ?_ (fun _ _ h=>h)
      rintro r w' ⟨E',sv,m',nx',g1,g2,g3,g4,rfl,rfl,rfl⟩
      obtain⟨q1,q2⟩:=qS hcols
      refine⟨E',some (.bw nx s false 0 c.toNat c.toNat),_,_,g1,g2,fun v hv=> ?_,?_,h⟩
      ·injection hv with hv;subst hv
       rw[g3 _ rfl];simp[SV.val]
      ·
       have hblk: ∀ E' o,bn E' (.cells (times c.toNat z.cells) (c.toNat*s) e) o->bn E' (.rows false c.toNat av false (c.toNat*s) e) o:=by
        rintro E' o ⟨c0,fr,rfl,f1,f2,f3⟩
        refine⟨c0,fr,rfl,fun _=>f1,by rw[q1,h2,f3];exact Nat.le_refl _,f3,fun i k col hi hk=> ?_⟩
        obtain⟨v,hv1,hv2⟩:=q2 k col hk
        rw[hv2,q1]
        exact f2 _ _ (E8 hi hv1)
       exact g4.FP (ah.of rfl rfl fun _=>⟨rfl,fun E o ho=>hblk E o ho,id⟩)
     ·exact h.elim
    ·exact h.elim
   ·exact h.elim
  ·exact h.elim
 ·exact Bn (fun n e=>hl ⟨n,e⟩) K E w ρ h hs hw (hr x _ ha) (hr y _ hb)
abbrev PT:=List SV->Mem->Nat->(SV->Mem->Nat->VC)->VC
def lift (K:SV->Mem->Nat->VC):KL:=fun v m nx=>match v with
 | some v=>K v m nx
 | none=>.fail "a call's result that is not known"
def aB (P:Program)(f:FuncId)(pt:PT):Prop :=
 ∀ args m nx K,(pt args m nx K).holds->Mem.wf nx m=true->SV.ep nx args=true->∀ Γ E w,aJ Γ E m nx w ->
   Out P (bg (lift K) Γ E nx) ((callFunc f (SV.vals E args).toArray).run P w)
inductive mg where
 | fn (f:FuncId)
 | yield (key:Nat)
 | panic
def mg.sem (E:Nat->Nat):mg->Array Value->Sem Next
 | .fn f,args=>callFunc f args
 | .yield key,args=>Instr.yield (E key) args
 | .panic,args=>do pure (.value (← Instr.panic (args.getD 0 undef)))
def nQ (P:Program)(Γ:aY)(KP:PK)(c:mg)(pt:PT):Prop :=
 ∀ Δ,Γ.le Δ->∀ args m nx K,(pt args m nx K).holds->Mem.wf nx m=true->SV.ep nx args=true->∀ E w,aJ Δ E m nx w ->
   Out P (bg (lift K) Δ E nx) ((c.sem E (SV.vals E args).toArray).run P w) (iT KP Δ E nx)
theorem aB.XS {P:Program}{f:FuncId}{pt:PT}(h:aB P f pt)(Γ:aY)(KP:PK):nQ P Γ KP (.fn f) pt:=fun Δ _ args m nx K h1 h2 h3 E w hs=>(h args m nx K h1 h2 h3 Δ E w hs).qD
theorem nQ.mono {P:Program}{Γ Δ:aY}{KP:PK}{c:mg}{pt:PT}(h:nQ P Γ KP c pt)(hle:Γ.le Δ):nQ P Δ KP c pt:=fun Θ h'=>h Θ (aY.le_trans hle h')
def SK (P:Program)(Γ:aY)(KP:PK)(σ:Operand->Option SV)(m:Mem)(nx:Nat)(o:Oper)(t:KL->VC):Prop :=
 ∀ K E w ρ,(t K).holds->aJ Γ E m nx w->Mem.wf nx m=true->WA nx σ->Reads E σ ρ->Out P (bg K Γ E nx) ((execOp ρ o).run P w) (iT KP Γ E nx)
theorem nW.qD {P:Program}{Γ:aY}{KP:PK}{σ:Operand->Option SV}{m:Mem}{nx:Nat}{o:Oper}{t:KL->VC}(h:nW P Γ σ m nx o t):SK P Γ KP σ m nx o t:=fun K E w ρ h1 h2 h3 h4 h5=>(h K E w ρ h1 h2 h3 h4 h5).qD
def DO:TypeDesc->Bool
 | .pointer _=>true
 | _=>false
def DL (P:Program)(t:TypeId)(v:SV)(name:String):Option (FuncId×SV) :=
 match P.info? t with
 | some i=>(match i.methods.find? (·.name==name)with
   | some mt=>(match mt.func,mt.path.toList with
     | some (g,p),[]=>(match P.underlying t with
       | some d=>if DO d=p then some (g,v)else none
       | none=>none)
     | some (g,p),[s]=>(match s.deref,P.underlying s.struct,v with
       | false,some (.struct fs),.agg cs=>(match fs[s.index]? with
         | some f=>(match partOf P f.type cs f.offset,P.underlying f.type with
           | some u,some d=>if DO d=p then some (g,u)else none
           | _,_=>none)
         | none=>none)
       | _,_,_=>none)
     | _,_=>none)
   | none=>none)
 | none=>none
def wA (P:Program)(call:mg->PT)(σ:Operand->Option SV)(c:Call)(m:Mem)(nx:Nat)(K:KL):VC :=
 match c.callee,D0 σ c.args.toList with
 | .value f,some args=>(match σ f with
   | some (.func (.func g) first captured)=>call (.fn g) (first++args++captured) m nx (fun v m nx=>K (some v) m nx)
   | some (.yield key)=>call (.yield key) args m nx (fun v m nx=>K (some v) m nx)
   | _=>.fail "call: of what")
 | .invoke r name,some args=>(match σ r with
   | some (.iface t v)=>(match DL P t v name with
     | some (g,u)=>(match u.wf nx with
       | true=>call (.fn g) (u::args) m nx (fun v m nx=>K (some v) m nx)
       | false=>.fail "call: receiver")
     | none=>.fail "call: no such method")
   | _=>.fail "call: of what")
 | .builtin .append,some [x,y]=>tV P c.argTypes x y m nx K
 | .builtin .copy,some [x,y]=>Kg P c.argTypes x y m nx K
 | .builtin .delete,some [x,y]=>xk P c.argTypes x y m nx K
 | _,_=>.fail "call"
theorem bg.CU {K:KL}{Γ:aY}{E:Nat->Nat}{r:Value}{w:World}(h:bg (lift fun v m nx=>K (some v) m nx) Γ E nx r w):bg K Γ E nx r w:=by
 obtain⟨E',sv,m',nx',h1,h2,h3,h4,h5⟩:=h
 cases sv with
 | none=>exact h5.elim
 | some v=>exact⟨E',some v,m',nx',h1,h2,h3,h4,h5⟩
def uz (call:mg->PT)(x:Option SV)(m:Mem)(nx:Nat):VC :=
 match x with
 | some (.iface t v)=>call .panic [.iface t v] m nx (fun _ _ _=>.fail "a panic")
 | _=>.fail "a panic of what"
theorem Lf {KP:PK}{call:mg->PT}(hcall: ∀ c,nQ P Γ KP c (call c)){dst:Option Tmp}{type:TypeId}{pos:String}{after:Array Edge}{guard:Option (Nat×Bool)}{x:Operand} :
  SK P Γ KP σ m nx ⟨dst,.panic x,type,pos,after,guard⟩ (fun _=>uz call (σ x) m nx):=by
 intro K E w ρ h hs hw hσ hr
 unfold uz at h
 split at h
 ·rename_i t v hx
  have hv:=hσ _ _ hx
  have:=hcall .panic Γ Γ.le_refl [.iface t v] m nx _ h hw (by simp only[SV.ep,hv,Bool.and_self]) E w hs
  have hrun:(execOp ρ ⟨dst,.panic x,type,pos,after,guard⟩).run P w=((mg.panic).sem E (SV.vals E [.iface t v]).toArray).run P w:=by
   simp only[execOp,hr x _ hx,mg.sem,SV.vals]
   rfl
  rw[hrun]
  refine this.mono (fun r w' hh=> ?_) (fun _ _ h=>h)
  obtain⟨E',sv,m',nx',h1,h2,h3,h4,h5⟩:=hh
  cases sv<;>exact h5.elim
 ·exact h.elim
theorem Cv {nx:Nat}{σ:Operand->Option SV}(hσ:WA nx σ): ∀ {xs:List Operand} {l:List SV},D0 σ xs=some l->SV.ep nx l=true
 | [],l,h=>by simp[D0] at h;subst h;rfl
 | x::r,l,h=>by
   simp only[D0] at h
   split at h
   ·rename_i v l' hv hl
    injection h with h;subst h
    simp only[SV.ep,Bool.and_eq_true];exact⟨hσ x v hv,Cv hσ hl⟩
   ·cases h
theorem E9 {E:Nat->Nat}{w:World}{t:TypeId}{v u:SV}{name:String}{g:FuncId}(h:DL P t v name=some (g,u))(fuel:Nat) :
  (method (fuel+1) t (v.val E) name).run P w=.ok (g,u.val E) w:=by
 unfold DL at h
 split at h
 ·rename_i i hi
  split at h
  ·rename_i mt hm
   split at h
   ·rename_i g' p hfn hpl
    split at h
    ·rename_i d hd
     split at h
     ·rename_i hp
      injection h with h;injection h with e1 e2;subst e1;subst e2
      simp only[method,Sem.run_bind,iE hi,Result.andThen_ok,hm,hpl,follow,Sem.run_pure,hfn]
      cases d<;>simp only[DO] at hp<;>subst hp<;>simp only[receiverAt,Sem.run_bind,aC hd,Result.andThen_ok,Place.get,Sem.run_pure]
     ·cases h
    ·cases h
   ·rename_i g' p s hfn hpl
    split at h
    ·rename_i fs cs hder hst
     split at h
     ·rename_i f hf
      split at h
      ·rename_i u' d hu hd
       split at h
       ·rename_i hp
        injection h with h;injection h with e1 e2;subst e1;subst e2
        simp only[method,Sem.run_bind,iE hi,Result.andThen_ok,hm,hpl,follow,aC hst,hf,hder,Bool.false_eq_true,if_false,SV.val,fH hu,Sem.run_pure,hfn]
        cases d<;>simp only[DO] at hp<;>subst hp<;>simp only[receiverAt,Sem.run_bind,aC hd,Result.andThen_ok,Place.get,Sem.run_pure]
       ·cases h
      ·cases h
     ·cases h
    ·cases h
   ·cases h
  ·cases h
 ·cases h
theorem lD (E:Nat->Nat)(a b:List SV):SV.vals E (a++b)=SV.vals E a++SV.vals E b:=by simp[SV.bp]
theorem OB {KP:PK}{call:mg->PT}(hcall: ∀ c,nQ P Γ KP c (call c)){dst:Option Tmp}{type:TypeId}{pos:String}{after:Array Edge}{guard:Option (Nat×Bool)}{c:Call} :
  SK P Γ KP σ m nx ⟨dst,.call c,type,pos,after,guard⟩ (wA P call σ c m nx):=by
 intro K E w ρ h hs hw hσ hr
 obtain⟨callee,args,ats⟩:=c
 unfold wA at h
 split at h
 ·rename_i f avs hca hargs
  simp only at hca;subst hca
  split at h
  ·rename_i g first captured hf
   have hfw:=hσ _ _ hf
   simp only[SV.wf,Bool.and_eq_true] at hfw
   have:=hcall (.fn g) Γ Γ.le_refl (first++avs++captured) m nx _ h hw (dK (dK hfw.1 (Cv hσ hargs)) hfw.2) E w hs
   have hrun:(execOp ρ ⟨dst,.call ⟨.value f,args,ats⟩,type,pos,after,guard⟩).run P w=(callFunc g (SV.vals E (first++avs++captured)).toArray).run P w:=by
    simp only[execOp,resolve,hr _ _ hf,SV.val,Deferred.ofValue,Sem.run_bind,Sem.run_pure,Result.andThen_ok,invoke]
    rw[kU hr hargs,lD,lD]
    simp
   rw[hrun]
   exact this.mono (fun r w' h=>h.CU) (fun _ _ h=>h)
  ·rename_i key hf
   have:=hcall (.yield key) Γ Γ.le_refl avs m nx _ h hw (Cv hσ hargs) E w hs
   have hrun:(execOp ρ ⟨dst,.call ⟨.value f,args,ats⟩,type,pos,after,guard⟩).run P w=(Instr.yield (E key) (SV.vals E avs).toArray).run P w:=by
    simp only[execOp,resolve,hr _ _ hf,SV.val,Deferred.ofValue,Sem.run_bind,Sem.run_pure,Result.andThen_ok,invoke]
    rw[kU hr hargs]
    simp
   rw[hrun]
   exact this.mono (fun r w' h=>h.CU) (fun _ _ h=>h)
  ·exact h.elim
 ·rename_i r name avs hca hargs
  simp only at hca;subst hca
  split at h
  ·rename_i t v hrv
   split at h
   ·rename_i g u hm
    split at h
    ·rename_i huw
     have:=hcall (.fn g) Γ Γ.le_refl (u::avs) m nx _ h hw (by simp only[SV.ep,Bool.and_eq_true];exact⟨huw,Cv hσ hargs⟩) E w hs
     have hrun:(execOp ρ ⟨dst,.call ⟨.invoke r name,args,ats⟩,type,pos,after,guard⟩).run P w=(callFunc g (SV.vals E (u::avs)).toArray).run P w:=by
      simp only[execOp,resolve,hr _ _ hrv,SV.val,Sem.run_bind,Sem.run_pure,Result.andThen_ok,invoke]
      rw[kU hr hargs]
      simp only[Array.getElem?_append_left,List.size_toArray,List.length_singleton,Nat.lt_one_iff,List.getElem?_toArray,List.getElem?_cons_zero,callMethod,Sem.run_bind,run_program,Result.andThen_ok]
      have hfm:=E9 (E:=E) (w:=w) hm (P.types.size+Made.depth - 1)
      have hpos:0<Made.depth:=by decide
      rw[show P.types.size+Made.depth - 1+1=P.types.size+Made.depth by omega] at hfm
      rw[hfm]
      simp only[Result.andThen_ok]
      congr 2
      simp[SV.vals]
     rw[hrun]
     exact this.mono (fun r w' h=>h.CU) (fun _ _ h=>h)
    ·exact h.elim
   ·exact h.elim
  ·exact h.elim
 ·rename_i x y hca hargs
  simp only at hca;subst hca
  obtain⟨r,w',hrun,haft⟩:=Fy (P:=P) (ty:=type) h hs hw
  rw[BigFrame.execOp_builtin,BigFrame.builtin_append,kU hr hargs]
  simp only[SV.vals,Sem.run_bind]
  rw[hrun]
  exact haft
 ·rename_i x y hca hargs
  simp only at hca;subst hca
  obtain⟨r,w',hrun,haft⟩:=QE (P:=P) (ty:=type) h hs
  rw[BigFrame.execOp_builtin,BigFrame.builtin_copy,kU hr hargs]
  simp only[SV.vals,Sem.run_bind]
  rw[hrun]
  exact haft
 ·rename_i x y hca hargs
  simp only at hca;subst hca
  obtain⟨r,w',hrun,haft⟩:=Hp (P:=P) (ty:=type) h hs
  rw[BigFrame.execOp_builtin,BigFrame.builtin_delete,kU hr hargs]
  simp only[SV.vals,Sem.run_bind]
  rw[hrun]
  exact haft
 ·exact h.elim
end
end
end Go.Proofs.YtoibaecagklkaaaGreatDoor.Sx
