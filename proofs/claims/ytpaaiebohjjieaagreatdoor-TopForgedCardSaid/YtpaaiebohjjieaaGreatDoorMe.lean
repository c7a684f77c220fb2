/-
  The framework's part 11a: maps: making, writing, deleting, ranging.
-/
import Derived.Test.YtpaaiebohjjieaaGreatDoorMc
import Derived.Test.YtpaaiebohjjieaaGreatDoorMd
namespace Go.Proofs.YtpaaiebohjjieaaGreatDoor.Sx
open Go
noncomputable section
section
variable {P : Program} {Γ : aQ} {σ : Operand -> Option SV} {m : Mem} {nx : Nat}
theorem aV.Vz {K:KL}{E:Nat->Nat}{w:World}(hs:aG Γ E m nx w)(hw:Mem.wf nx m=true){B:SB}{o:Obj}{sv:Option SV}{r:Value}(hB:bw E B o)(hBw:B.wf nx=true)
  (hr: ∀ v,sv=some v->r=v.val (fun k=>if k=nx then w.heap.size else E k)) (h:(K sv ((nx,B)::m) (nx+1)).holds) :
  aV K Γ E nx r {w with heap:=w.heap.push o}:=by
 have hE: ∀ k,k<nx->(fun k=>if k=nx then w.heap.size else E k) k=E k:=(by grind)
 exact⟨_,sv,_,_,hE,Nat.le_succ _,hr,hs.alloc hw (hB.congr hE hBw),h⟩
theorem aV.jA {K:KL}{E:Nat->Nat}{w:World}(hs:aG Γ E m nx w){key:Nat}{B B':SB}{o:Obj}(hk:m.get key=some B)(hn:B.no=false)(hro:B.ro=false)(hB:bw E B' o)(hro':B'.ro=false)
  {sv:Option SV} {r:Value} (hr: ∀ v,sv=some v->r=v.val E) (h:(K sv (m.put key B') nx).holds):aV K Γ E nx r {w with heap:=w.heap.setIfInBounds (E key) o} :=
 ⟨E,sv,_,_,fun _ _=>rfl,Nat.le_refl _,hr,hs.write hk hn hro hB hro',h⟩
def CA (P:Program)(t:TypeId)(hint:Option (Option SV))(m:Mem)(nx:Nat)(K:KL):VC :=
 match hint with
 | none=>K (some (.map nx)) ((nx,.map [] 0)::m) (nx+1)
 | some (some (.int ..))=>(match P.underlying t with
   | some (.map ..)=>K (some (.map nx)) ((nx,.map [] 0)::m) (nx+1)
   | _=>.fail "make: no map")
 | _=>.fail "make: how many"
theorem SR {dst:Option Tmp}{t type:TypeId}{pos:String}{after:Array Edge}{guard:Option (Nat×Bool)}{r:Option Operand} :
  ve P Γ σ m nx ⟨dst,.makeMap t r,type,pos,after,guard⟩ (CA P t (r.map σ) m nx):=by
 intro K E w ρ h hs hw hσ hr;have fin:(K (some (.map nx)) ((nx,.map [] 0)::m) (nx+1)).holds->Out P (aV K Γ E nx) (.ok (.value (.map (some w.heap.size))) {w with heap:=w.heap.push (.map #[] 0)}):=fun h=>by exact aV.Vz hs hw (B:=.map [] 0) (o:=.map #[] 0) rfl rfl (by grind [SV.val]) h
 cases r with
 | none =>have h:(K (some (.map nx)) ((nx,.map [] 0)::m) (nx+1)).holds:=h;exact fin h
 | some x =>
   simp only[CA,Option.map_some] at h;split at h
   ·grind
   ·rename_i k l n hx;injection hx with hx;split at h
    ·rename_i kt et ht;have hrun:(execOp ρ ⟨dst,.makeMap t (some x),type,pos,after,guard⟩).run P w=.ok (.value (.map (some w.heap.size))) {w with heap:=w.heap.push (.map #[] 0)}:=by simp only[execOp,Instr.makeMap,Option.map_some,Sem.run_bind,az ht,Result.andThen_ok,hr x _ hx,SV.val,asInt,asIntOf,Sem.run_pure,run_newObj]
     grind
    ·exact h.elim
   ·exact h.elim
def uU:List (Nat×SV×SV)->Nat->SV->SV->List (Nat×SV×SV)
 | [],_,_,_=>[]
 | e::r,0,k,v=>(e.1,k,v)::r
 | e::r,i+1,k,v=>e::uU r i k v
def D8:List (Nat×SV×SV)->Nat->List (Nat×SV×SV)
 | [],_=>[]
 | _::r,0=>r
 | e::r,i+1=>e::D8 r i
def BX (es:List (Nat×SV×SV))(e:Nat×SV×SV):List (Nat×SV×SV):=match es with
 | []=>[e]
 | x::r=>x::BX r e
theorem Ce (E:Nat->Nat)(k v:SV): ∀(es:List (Nat×SV×SV)) (i:Nat),cu E (uU es i k v)=(cu E es).modify i fun e=>{e with key:=k.val E,val:=v.val E}
 | [],i=>by cases i<;>rfl
 | e::r,0=>rfl
 | e::r,i+1=>by have:=Ce E k v r i;simp only[cu,List.map_cons,uU,List.modify_succ_cons] at this ⊢;rw[this]
theorem Mh (E:Nat->Nat): ∀(es:List (Nat×SV×SV)) (i:Nat),cu E (D8 es i)=(cu E es).eraseIdx i
 | [],i=>by cases i<;>rfl
 | e::r,0=>rfl
 | e::r,i+1=>by have:=Mh E r i;simp only[cu,List.map_cons,D8,List.eraseIdx_cons_succ] at this ⊢;rw[this]
theorem Io (E:Nat->Nat)(e:Nat×SV×SV): ∀(es:List (Nat×SV×SV)),cu E (BX es e)=cu E es++[{key:=e.2.1.val E,val:=e.2.2.val E,born:=e.1}]
 | []=>rfl
 | x::r=>by have:=Io E e r;simp only[cu,List.map_cons,BX,List.cons_append] at this ⊢;rw[this]
theorem A3 {l:List MapEntry}{i:Nat}{f:MapEntry->MapEntry}:l.toArray.modify i f=(l.modify i f).toArray:=by grind
theorem aaT {l:List MapEntry}{i:Nat}:l.toArray.eraseIdxIfInBounds i=(l.eraseIdx i).toArray:=by grind
theorem LQ {d:TypeDesc}{k:SV}(h:zX d k=true)(E:Nat->Nat)(n:Nat):Instr.sameBits n (k.val E) (k.val E)=true:=by
 unfold zX at h;split at h<;>first | cases h;done | skip
 all_goals cases n<;>simp[SV.val,Instr.sameBits,(MapKept.bytes_beq _ _).2 rfl]
def tg (P:Program)(t:TypeId)(x k:Option SV)(m:Mem)(f:TypeDesc->SV->Nat->List (Nat×SV×SV)->Nat->SV->VC):VC :=
 match P.underlying t,x,k with
 | some (.map kt et),some (.map key),some kv=>(match P.underlying kt,i6 P et,m.get key with
   | some d,some z,some (.map es clock)=>(match zX d kv with
     | true=>f d kv key es clock z
     | false=>.fail "map: another kind of key")
   | _,_,_=>.fail "map: no map")
 | _,_,_=>.fail "map: no map"
theorem yV {t:TypeId}{x k:Option SV}{f:TypeDesc->SV->Nat->List (Nat×SV×SV)->Nat->SV->VC}(h:(tg P t x k m f).holds) :
  ∃ kt et d z kv key es clock,P.underlying t=some (.map kt et)/\P.underlying kt=some d/\i6 P et=some z/\x=some (.map key)/\k=some kv/\m.get key=some (.map es clock)/\zX d kv=true/\(f d kv key es clock z).holds:=by
 unfold tg at h;split at h
 ·rename_i kt et key kv ht;split at h
  ·rename_i d z es clock hd hz hm;split at h
   ·grind
   ·exact h.elim
  ·exact h.elim
 ·exact h.elim
def Ed (x:Option SV)(m:Mem):Option (Nat×(List UInt8->Bool)×fD×Option (List UInt8×Int)):=match x with
 | some (.map key)=>(match m.get key with
   | some (.fmap f c p)=>some (key,f,c,p)
   | _=>none)
 | _=>none
theorem vu {x:Option SV}{r}(h:Ed x m=some r):x=some (.map r.1)/\m.get r.1=some (.fmap r.2.1 r.2.2.1 r.2.2.2):=by
 unfold Ed at h
 grind
def mj (P:Program)(t:TypeId)(key:Nat)(f:List UInt8->Bool)(c:fD)(k v:Option SV)(m:Mem)(nx:Nat)(K:KL):VC :=
 match P.underlying t,k,v with
 | some (.map kt _),some (.str _ s),some u=>(match P.underlying kt,c.set s u with
   | some .string,some c'=>K none (m.put key (.fmap (n6 f s) c' none)) nx
   | _,_=>.fail "map: a value")
 | _,_,_=>.fail "map: a key"
theorem Ag {t:TypeId}{key:Nat}{f c p}{k v:Option SV}{K:KL}{E:Nat->Nat}{w:World}(hm:m.get key=some (.fmap f c p))(h:(mj P t key f c k v m nx K).holds)(hs:aG Γ E m nx w) :
  ∃ kv u w',k=some kv/\v=some u/\(Instr.mapUpdate t (.map (some (E key))) (kv.val E) (u.val E)).run P w=.ok () w'/\aV K Γ E nx undef w':=by
 unfold mj at h;split at h
 ·rename_i kt et l s u ht;split at h
  ·rename_i c' hd hc';obtain⟨ob,hob,es,clock,rfl,hfm⟩:=hs.qD key _ hm rfl;have hsv:=fD.Q5 hc' E;rcases hfm.find s with ⟨h1,h2,h3⟩ | ⟨h1,j,e,h2,h3,h4,h5⟩
   ·have h2':Instr.findNow .string (.string ⟨s.toArray⟩) es.toList 0=_:=h2;refine⟨_,_,_,rfl,rfl,?_,aV.jA hs hm rfl rfl (B':=.fmap (n6 f s) c' none) ⟨_,_,rfl,hfm.add hsv h3 (by grind)⟩ rfl (sv:=none) (by grind) h⟩;simp only[SV.val,Instr.mapUpdate,Sem.run_bind,az ht,Result.andThen_ok,MapKept.run_getObj_map hob,MapKept.run_checkKey (k:=.string ⟨s.toArray⟩) hd trivial false 9999,Instr.findKey,az hd,h2',Sem.run_pure,MapKept.run_setObj_map _ hob,sk]
   ·have h2':Instr.findNow .string (.string ⟨s.toArray⟩) es.toList 0=_:=h2;have h4':e.key=.string ⟨s.toArray⟩:=h4;refine⟨_,_,_,rfl,rfl,?_,aV.jA hs hm rfl rfl (B':=.fmap (n6 f s) c' none) ⟨_,_,rfl,hfm.put (f:=fun e=>{e with key:=sk s,val:=u.val E}) hsv h3 h4 ⟨rfl,rfl,rfl⟩ (fun _=>rfl) h1 (by grind)⟩ rfl (sv:=none) (by grind) h⟩;simp only[SV.val,Instr.mapUpdate,Sem.run_bind,az ht,Result.andThen_ok,MapKept.run_getObj_map hob,MapKept.run_checkKey (k:=.string ⟨s.toArray⟩) hd trivial false 9999,Instr.findKey,az hd,h2',Sem.run_pure,h3,Option.map_some,Option.getD_some,h4',MapKept.run_keyThatStays (k:=.string ⟨s.toArray⟩) (d:=.string) trivial,MapKept.run_setObj_map _ hob,sk]
  ·exact h.elim
 ·exact h.elim
def zc (P:Program)(t:TypeId)(key:Nat)(f:List UInt8->Bool)(c:fD)(k:Option SV)(m:Mem)(nx:Nat)(K:KL):VC :=
 match P.underlying t,k with
 | some (.map kt et),some (.str _ s)=>(match P.underlying kt,i6 P et with
   | some .string,some z=>(match c.look (f s) s z with
     | some v=>(match c.set s v with
       | some c'=>.all Int fun b=>K (some (.bL [v,.int .i64 false b])) (m.put key (.fmap (n6 f s) c' (some (s,b)))) nx
       | none=>.fail "map: a value")
     | none=>.fail "map: a value")
   | _,_=>.fail "map: a key")
 | _,_=>.fail "map: a key"
theorem PC {t:TypeId}{key:Nat}{f c p}{k:Option SV}{K:KL}{E:Nat->Nat}{w:World}(hm:m.get key=some (.fmap f c p))(h:(zc P t key f c k m nx K).holds)(hs:aG Γ E m nx w) :
  ∃ kv r w',k=some kv/\(Instr.mapEntry t (.map (some (E key))) (kv.val E)).run P w=.ok r w'/\aV K Γ E nx r w':=by
 unfold zc at h;split at h
 ·rename_i kt et l s ht;split at h
  ·rename_i z hd hz;split at h
   ·rename_i v hv;split at h
    ·rename_i c' hc';obtain⟨ob,hob,es,clock,rfl,hfm⟩:=hs.qD key _ hm rfl;have hsv:=fD.Q5 hc' E;have hlv:=fD.SU hv E;rcases hfm.find s with ⟨h1,h2,h3⟩ | ⟨h1,j,e,h2,h3,h4,h5⟩
     ·have h2':Instr.findNow .string (.string ⟨s.toArray⟩) es.toList 0=_:=h2;rw[h1,if_neg (by simp)] at hlv;refine⟨_,_,_,rfl,?_,aV.jA hs hm rfl rfl (B':=.fmap (n6 f s) c' (some (s,(clock:Int)))) ⟨_,_,rfl,hfm.add hsv h3 (fun t b h=>by injection h with h;injection h with h1 h2;exact⟨h1.symm,h2⟩)⟩ rfl (sv:=some (.bL [v,.int .i64 false clock])) (fun v hv=>by injection hv with hv;subst hv;rfl) (h clock)⟩;simp only[SV.val,SV.vals,Instr.mapEntry,Sem.run_bind,az ht,Result.andThen_ok,MapKept.run_getObj_map hob,MapKept.run_checkKey (k:=.string ⟨s.toArray⟩) hd trivial false 9999,Instr.findKey,az hd,h2',Sem.run_pure,eN (E:=E) hz,MapKept.run_setObj_map _ hob,sk,goInt,hlv]
     ·have h2':Instr.findNow .string (.string ⟨s.toArray⟩) es.toList 0=_:=h2;have h4':e.key=.string ⟨s.toArray⟩:=h4;rw[h1,if_pos rfl] at hlv;refine⟨_,_,_,rfl,?_,aV.jA hs hm rfl rfl (B':=.fmap (n6 f s) c' (some (s,(e.born:Int)))) ⟨_,_,rfl,hfm.put (f:=fun e=>{e with key:=sk s}) hsv h3 h4 ⟨rfl,by show e.val=_;rw[h5,hlv],rfl⟩ (fun _=>rfl) h1 (fun t b h=>by injection h with h;injection h with h1 h2;exact⟨h1.symm,h2⟩)⟩ rfl (sv:=some (.bL [v,.int .i64 false e.born])) (fun v hv=>by injection hv with hv;subst hv;rfl) (h e.born)⟩;simp only[SV.val,SV.vals,Instr.mapEntry,Sem.run_bind,az ht,Result.andThen_ok,MapKept.run_getObj_map hob,MapKept.run_checkKey (k:=.string ⟨s.toArray⟩) hd trivial false 9999,Instr.findKey,az hd,h2',Sem.run_pure,h3,Option.map_some,Option.getD_some,h4',MapKept.run_keyThatStays (k:=.string ⟨s.toArray⟩) (d:=.string) trivial,MapKept.run_setObj_map _ hob,sk,goInt,hlv]
    ·exact h.elim
   ·exact h.elim
  ·exact h.elim
 ·exact h.elim
def ze (key:Nat)(f:List UInt8->Bool)(c:fD)(p:Option (List UInt8×Int))(s v:Option SV)(m:Mem)(nx:Nat)(K:KL):VC :=
 match p,s,v with
 | some (t,b'),some (.int _ _ b),some u=>(match c.set t u with
   | some c'=>.and (ng b b') (K none (m.put key (.fmap (n6 f t) c' none)) nx)
   | none=>.fail "map: a value")
 | _,_,_=>.fail "map: no such entry"
theorem PD {mt:TypeId}{key:Nat}{f c p}{s v:Option SV}{K:KL}{E:Nat->Nat}{w:World}(hm:m.get key=some (.fmap f c p))(h:(ze key f c p s v m nx K).holds)(hs:aG Γ E m nx w) :
  ∃ sv u w',s=some sv/\v=some u/\(Instr.entryStore mt (.map (some (E key))) (sv.val E) (u.val E)).run P w=.ok () w'/\aV K Γ E nx undef w':=by
 unfold ze at h;split at h
 ·rename_i t b' ik il b u;split at h
  ·rename_i c' hc';obtain⟨hb,h⟩:=h;have hb:b=b':=hb;subst hb;obtain⟨ob,hob,es,clock,rfl,hfm⟩:=hs.qD key _ hm rfl;have hsv:=fD.Q5 hc' E;obtain⟨e,he,hborn,hkey⟩:=hfm.pd t b rfl;have hd:f t=true:=by
    cases hf:f t with
    | true=>rfl
    | false=>exact absurd hkey (hfm.no t hf e he)
   obtain⟨i,hi⟩: ∃ i,es.findIdx? (fun e=>(e.born:Int)==b)=some i:=by
    cases hf:es.findIdx? (fun e=>(e.born:Int)==b)with
    | some i=>exact⟨i,rfl⟩
    | none =>grind
   have hie:es[i]?=some e:=by
    have h0:=Array.findIdx?_eq_some_iff_getElem.1 hi;obtain⟨hlt,hp,_⟩:=h0;have hmem:es[i]∈ es.toList:=by simp
    have:=Rd hfm.st.2.1 hmem he (by grind)
    grind
   refine⟨_,_,_,rfl,rfl,?_,aV.jA hs hm rfl rfl (B':=.fmap (n6 f t) c' none) ⟨_,_,rfl,hfm.put (f:=fun e=>{e with val:=u.val E}) hsv hie hkey ⟨hkey,rfl,rfl⟩ (fun _=>rfl) hd (by grind)⟩ rfl (sv:=none) (by grind) h⟩;simp only[SV.val,Instr.entryStore,Sem.run_bind,MapKept.run_getObj_map hob,Result.andThen_ok,asInt,asIntOf,Sem.run_pure,hi,MapKept.run_setObj_map _ hob]
  ·exact h.elim
 ·exact h.elim
def aic:List SV->List aK->List Gh
 | .bI kr _ _ _ _ _::r,.fq kB _ _ _ _ _::q=>.name kr 0::.merge kB kr::aic r q
 | _::r,_::q=>aic r q
 | _,_=>[]
def afd:List aK->Nat
 | .fq kB _ _ _ _ _::_=>kB
 | _::q=>afd q
 | []=>0
def aqa (c:fD)(m:Mem)(v:Option SV):List Gh:=match c,v with
 | .ref kF _,some (.ptr kp true 0)=>(match m.get kp,m.get kF with
   | some (.cells cs _ _),some (.vq _ ds _ _ _)=>aic cs ds++[.name kp (afd ds),.merge kF kp]
   | _,_=>[])
 | _,_=>[]
def oz (P:Program)(t:TypeId)(x k v:Option SV)(m:Mem)(nx:Nat)(K:KL):VC :=
 tg P t x k m fun d kv key es clock _=>match v with
  | some u=>jq d kv (fun r=>match r with
    | some (i,_)=>K none (m.put key (.map (uU es i kv u) clock)) nx
    | none=>K none (m.put key (.map (BX es (clock,kv,u)) (clock+1))) nx) es 0
  | none=>.fail "map: a value that is not known"
def ki (P:Program)(t:TypeId)(x k v:Option SV)(m:Mem)(nx:Nat)(K:KL):VC:=match Ed x m with
 | some (key,f,c,_)=>(match aqa c m v with
   | []=>mj P t key f c k v m nx K
   | l=>ghs l [v] m fun vs m'=>match vs,Ed x m' with
     | [v'],some (key',f',c',_)=>mj P t key' f' c' k v' m' nx K
     | _,_=>.fail "map: a value")
 | none=>oz P t x k v m nx K
theorem Sv {d:TypeDesc}{k:SV}(h:zX d k=true){E:Nat->Nat}{old:Value}(he:old=k.val E){w:World}:(Instr.keyThatStays old (k.val E)).run P w=.ok (k.val E) w:=by subst he;simp[Instr.keyThatStays,LQ h]
theorem RT {E:Nat->Nat}{es:List (Nat×SV×SV)}{i:Nat}{e:Nat×SV×SV}(h:es[i]?=some e):(cu E es).toArray[i]?=some {key:=e.2.1.val E,val:=e.2.2.val E,born:=e.1}:=by grind [Sx.cu]
theorem LB {t kt et:TypeId}{d:TypeDesc}{kv u:SV}{key:Nat}{es:List (Nat×SV×SV)}{clock:Nat}{r:Hit}{E:Nat->Nat}{w:World}(ht:P.underlying t=some (.map kt et))(hd:P.underlying kt=some d)(hkd:zX d kv=true)
  (ho:w.heap[E key]?=some (.map (cu E es).toArray clock)) (hf:Instr.findNow d (kv.val E) (cu E es) 0=some (r.map fun x=>(x.1,x.2.2.2.val E))) (hg: ∀ j e,r=some (j,e)->es[j]?=some e/\e.2.1.val E=kv.val E) :
  (Instr.mapUpdate t (.map (some (E key))) (kv.val E) (u.val E)).run P w=.ok () {w with heap:=w.heap.setIfInBounds (E key) (match r with
    | some (i,_)=>.map (cu E (uU es i kv u)).toArray clock
    | none=>.map (cu E (BX es (clock,kv,u))).toArray (clock+1))}:=by
 have hf':Instr.findNow d (kv.val E) (cu E es).toArray.toList 0=_:=hf;simp only[Instr.mapUpdate,Sem.run_bind,az ht,Result.andThen_ok,MapKept.run_getObj_map ho,MapKept.run_checkKey hd (qG hkd E) false 9999,Instr.findKey,az hd,hf',Sem.run_pure];cases r with
 | none =>grind [MapKept.run_setObj_map,Io]
 | some q =>obtain⟨i,e⟩:=q;obtain⟨g1,g2⟩:=hg i e rfl;simp only[Option.map_some,RT g1,Option.getD_some,Sem.run_bind,Sv hkd g2,Result.andThen_ok,MapKept.run_setObj_map _ ho,Ce,A3]
theorem Lz {dst:Option Tmp}{t type:TypeId}{pos:String}{after:Array Edge}{guard:Option (Nat×Bool)}{x k v:Operand}{K:KL}{E:Nat->Nat}{w:World}{ρ:Operand->Value}(h:(oz P t (σ x) (σ k) (σ v) m nx K).holds)(hs:aG Γ E m nx w)(hr:Reads E σ ρ):Out P (aV K Γ E nx) ((execOp ρ ⟨dst,.mapUpdate t x k v,type,pos,after,guard⟩).run P w):=by
 unfold oz at h;obtain⟨kt,et,d,z,kv,key,es,clock,ht,hd,hz,hx,hk,hm,hkd,h⟩:=yV h;split at h
 ·rename_i u hv;obtain⟨obl,r,h1,h2⟩:=pE hkd es 0;obtain⟨ho,h⟩:=(h1 _).1 h;obtain⟨f1,f2⟩:=h2 ho;obtain⟨ob,hob,hb⟩:=hs.qD key _ hm rfl;have hb:ob=.map (cu E es).toArray clock:=hb;subst hb;have hrun:=LB (P:=P) (u:=u) ht hd hkd hob (f1 E) (by grind);have hex:(execOp ρ ⟨dst,.mapUpdate t x k v,type,pos,after,guard⟩).run P w=(do Instr.mapUpdate t (.map (some (E key))) (kv.val E) (u.val E);pure .skip:Sem Next).run P w:=by simp only[execOp,hr x _ hx,hr k _ hk,hr v _ hv,SV.val]
  rw[hex,Sem.run_bind,hrun];simp only[Result.andThen_ok,Sem.run_pure,Out];cases r with
  | none=>exact aV.jA hs hm rfl rfl (B':=.map (BX es (clock,kv,u)) (clock+1)) rfl rfl (by grind) h
  | some q=>exact aV.jA hs hm rfl rfl (B':=.map (uU es q.1 kv u) clock) rfl rfl (by grind) h
 ·exact h.elim
theorem Aj {dst:Option Tmp}{t type:TypeId}{pos:String}{after:Array Edge}{guard:Option (Nat×Bool)}{x k v:Operand} :
  ve P Γ σ m nx ⟨dst,.mapUpdate t x k v,type,pos,after,guard⟩ (ki P t (σ x) (σ k) (σ v) m nx):=by
 intro K E w ρ h hs hw hσ hr;unfold ki at h;split at h
 ·rename_i hf;obtain⟨hx,hm⟩:=vu hf;split at h
  rotate_left
  ·obtain⟨tm,m',htold,hsm,h⟩:=tX h hs;split at h
   ·rename_i v' key' f' c' p' hf';obtain⟨hx',hm'⟩:=vu hf';obtain⟨kv,u,w',hk,hv,hrun,haft⟩:=Ag hm' h hsm;subst hv;obtain⟨v0,q1,q2,_⟩:=htold.get 0 u rfl;have q1:σ v=some v0:=by simpa using q1
    have hex:(execOp ρ ⟨dst,.mapUpdate t x k v,type,pos,after,guard⟩).run P w=.ok .skip w':=by simp only[execOp,hr x _ hx',hr k _ hk,hr v _ q1,SV.val,Sem.run_bind,← q2,hrun,Result.andThen_ok,Sem.run_pure]
    rw[hex];exact haft
   ·exact h.elim
  obtain⟨kv,u,w',hk,hv,hrun,haft⟩:=Ag hm h hs;have hex:(execOp ρ ⟨dst,.mapUpdate t x k v,type,pos,after,guard⟩).run P w=.ok .skip w':=by simp only[execOp,hr x _ hx,hr k _ hk,hr v _ hv,SV.val,Sem.run_bind,hrun,Result.andThen_ok,Sem.run_pure]
  rw[hex];exact haft
 grind [Lz]
theorem Wx {dst:Option Tmp}{t type:TypeId}{pos:String}{after:Array Edge}{guard:Option (Nat×Bool)}{x k v:Operand} :
  ve P Γ σ m nx ⟨dst,.insert t x k v,type,pos,after,guard⟩ (ki P t (σ x) (σ k) (σ v) m nx) :=
 fun K E w ρ h hs hw hσ hr=>Aj (dst:=dst) (type:=type) (pos:=pos) (after:=after) (guard:=guard) K E w ρ h hs hw hσ hr
def qU (P:Program)(t:TypeId)(x k:Option SV)(m:Mem)(nx:Nat)(K:KL):VC :=
 tg P t x k m fun d kv key es clock z=>jq d kv (fun r=>match r with
   | some (i,e)=>K (some (.bL [e.2.2,.int .i64 true e.1])) (m.put key (.map (uU es i kv e.2.2) clock)) nx
   | none=>K (some (.bL [z,.int .i64 true clock])) (m.put key (.map (BX es (clock,kv,z)) (clock+1))) nx) es 0
def zq (P:Program)(t:TypeId)(x k:Option SV)(m:Mem)(nx:Nat)(K:KL):VC:=match Ed x m with
 | some (key,f,c,_)=>zc P t key f c k m nx K
 | none=>qU P t x k m nx K
theorem P3 {dst:Option Tmp}{t type:TypeId}{pos:String}{after:Array Edge}{guard:Option (Nat×Bool)}{x k:Operand}{K:KL}{E:Nat->Nat}{w:World}{ρ:Operand->Value}(h:(qU P t (σ x) (σ k) m nx K).holds)(hs:aG Γ E m nx w)(hr:Reads E σ ρ):Out P (aV K Γ E nx) ((execOp ρ ⟨dst,.mapEntry t x k,type,pos,after,guard⟩).run P w):=by
 unfold qU at h;obtain⟨kt,et,d,z,kv,key,es,clock,ht,hd,hz,hx,hk,hm,hkd,h⟩:=yV h;obtain⟨obl,r,h1,h2⟩:=pE hkd es 0;obtain⟨ho,h⟩:=(h1 _).1 h;obtain⟨f1,f2⟩:=h2 ho;obtain⟨ob,hob,hb⟩:=hs.qD key _ hm rfl;have hb:ob=.map (cu E es).toArray clock:=hb;subst hb;have hf':Instr.findNow d (kv.val E) (cu E es).toArray.toList 0=_:=f1 E;simp only[execOp,Instr.mapEntry,hr x _ hx,hr k _ hk,SV.val,Sem.run_bind,az ht,Result.andThen_ok,MapKept.run_getObj_map hob,MapKept.run_checkKey hd (qG hkd E) false 9999,Instr.findKey,az hd,hf',Sem.run_pure];cases r with
 | none =>
   simp only[Option.map_none,Sem.run_bind,eN (E:=E) hz,Result.andThen_ok,MapKept.run_setObj_map _ hob,Sem.run_pure,Out];have hpush:(cu E es).toArray.push {key:=kv.val E,val:=z.val E,born:=clock}=(cu E (BX es (clock,kv,z))).toArray:=by rw[Io];simp
   rw[hpush];exact aV.jA hs hm rfl rfl (B':=.map (BX es (clock,kv,z)) (clock+1)) rfl rfl (by grind [SV.val,SV.vals,goInt]) h
 | some q =>
   obtain⟨i,e⟩:=q;obtain⟨_,g2,g3⟩:=f2 i e rfl;have g2:es[i]?=some e:=by simpa using g2
   simp only[Option.map_some,RT g2,Option.getD_some,Sem.run_bind,Sv hkd (g3 E),Result.andThen_ok,MapKept.run_setObj_map _ hob,Sem.run_pure,Out];have hset:((cu E es).toArray.modify i fun e=>{e with key:=kv.val E})=(cu E (uU es i kv e.2.2)).toArray:=by
    rw[Ce,A3]
    grind [Sx.cu]
   rw[hset];exact aV.jA hs hm rfl rfl (B':=.map (uU es i kv e.2.2) clock) rfl rfl (by grind [SV.val,SV.vals,goInt]) h
theorem Qh {dst:Option Tmp}{t type:TypeId}{pos:String}{after:Array Edge}{guard:Option (Nat×Bool)}{x k:Operand} :
  ve P Γ σ m nx ⟨dst,.mapEntry t x k,type,pos,after,guard⟩ (zq P t (σ x) (σ k) m nx):=by
 intro K E w ρ h hs hw hσ hr;unfold zq at h;split at h
 ·rename_i hf;obtain⟨hx,hm⟩:=vu hf;obtain⟨kv,r,w',hk,hrun,haft⟩:=PC hm h hs;have hex:(execOp ρ ⟨dst,.mapEntry t x k,type,pos,after,guard⟩).run P w=.ok (.value r) w':=by simp only[execOp,hr x _ hx,hr k _ hk,SV.val,Sem.run_bind,hrun,Result.andThen_ok,Sem.run_pure]
  rw[hex];exact haft
 grind [P3]
def HH (b:Int):List (Nat×SV×SV)->Nat->Option (Nat×SV)
 | [],_=>none
 | e::r,i=>match decide (((e.1:Nat):Int)=b)with
   | true=>some (i,e.2.1)
   | false=>HH b r (i+1)
def mI (x s v:Option SV)(m:Mem)(nx:Nat)(K:KL):VC:=match x,s,v with
 | some (.map key),some (.int _ _ b),some u=>(match m.get key with
   | some (.map es clock)=>(match HH b es 0 with
     | some (i,k)=>K none (m.put key (.map (uU es i k u) clock)) nx
     | none=>.fail "map: no such entry")
   | _=>.fail "map: no map")
 | _,_,_=>.fail "map: entry"
def sL (x s v:Option SV)(m:Mem)(nx:Nat)(K:KL):VC:=match Ed x m with
 | some (key,f,c,p)=>ze key f c p s v m nx K
 | none=>mI x s v m nx K
theorem GP {b:Int}: ∀ {es:List (Nat×SV×SV)} {i j:Nat} {k:SV},HH b es i=some (j,k)->i<=j/\(∃ e,es[j - i]?=some e/\e.2.1=k)/\∀ E,(cu E es).findIdx? (fun e=>(e.born:Int)==b)=some (j - i)
 | [],_,_,_,h=>by cases h
 | e::r,i,j,k,h=>by
   simp only[HH] at h;split at h
   ·grind [Sx.cu]
   ·rename_i hb;obtain⟨g1,⟨e',g2,g3⟩,g4⟩:=GP h;have hb:=of_decide_eq_false hb;refine⟨by omega,⟨e',?_,g3⟩,fun E=> ?_⟩
    ·grind
    ·show List.findIdx? _ ({key:=e.2.1.val E,val:=e.2.2.val E,born:=e.1}::cu E r)=_
     grind
theorem IW {dst:Option Tmp}{t type:TypeId}{pos:String}{after:Array Edge}{guard:Option (Nat×Bool)}{x s v:Operand}{K:KL}{E:Nat->Nat}{w:World}{ρ:Operand->Value}(h:(mI (σ x) (σ s) (σ v) m nx K).holds)(hs:aG Γ E m nx w)(hr:Reads E σ ρ):Out P (aV K Γ E nx) ((execOp ρ ⟨dst,.entryStore t x s v,type,pos,after,guard⟩).run P w):=by
 unfold mI at h;split at h
 ·rename_i key ik il b u hx hst hv;split at h
  ·rename_i es clock hm;split at h
   ·rename_i i k hi;obtain⟨_,⟨e,g2,g3⟩,g4⟩:=GP hi;have g2:es[i]?=some e:=by simpa using g2
    obtain⟨ob,hob,hb⟩:=hs.qD key _ hm rfl;have hb:ob=.map (cu E es).toArray clock:=hb;subst hb;have hfi:(cu E es).toArray.findIdx? (fun e=>(e.born:Int)==b)=some i:=by grind
    have hset:((cu E es).toArray.modify i fun e=>{e with val:=u.val E})=(cu E (uU es i k u)).toArray:=by
     rw[Ce,A3]
     grind [Sx.cu]
    have hrun:(execOp ρ ⟨dst,.entryStore t x s v,type,pos,after,guard⟩).run P w=.ok .skip {w with heap:=w.heap.setIfInBounds (E key) (.map (cu E (uU es i k u)).toArray clock)}:=by simp only[execOp,Instr.entryStore,hr x _ hx,hr s _ hst,hr v _ hv,SV.val,Sem.run_bind,MapKept.run_getObj_map hob,Result.andThen_ok,asInt,asIntOf,Sem.run_pure,hfi,MapKept.run_setObj_map _ hob,hset]
    rw[hrun];exact aV.jA hs hm rfl rfl (B':=.map (uU es i k u) clock) rfl rfl (by grind) h
   ·exact h.elim
  ·exact h.elim
 ·exact h.elim
theorem Ja {dst:Option Tmp}{t type:TypeId}{pos:String}{after:Array Edge}{guard:Option (Nat×Bool)}{x s v:Operand} :
  ve P Γ σ m nx ⟨dst,.entryStore t x s v,type,pos,after,guard⟩ (sL (σ x) (σ s) (σ v) m nx):=by
 intro K E w ρ h hs hw hσ hr;unfold sL at h;split at h
 ·rename_i hf;obtain⟨hx,hm⟩:=vu hf;obtain⟨sv,u,w',hk,hv,hrun,haft⟩:=PD (P:=P) (mt:=t) hm h hs;have hex:(execOp ρ ⟨dst,.entryStore t x s v,type,pos,after,guard⟩).run P w=.ok .skip w':=by simp only[execOp,hr x _ hx,hr s _ hk,hr v _ hv,SV.val,Sem.run_bind,hrun,Result.andThen_ok,Sem.run_pure]
  rw[hex];exact haft
 grind [IW]
def zl (P:Program)(ats:Array TypeId)(x k:SV)(m:Mem)(nx:Nat)(K:KL):VC :=
 match ats[0]? with
 | some t=>(match x with
   | .iy=>(match P.underlying t with
     | some (.map kt _)=>(match P.underlying kt with
       | some d=>(match zX d k with
         | true=>K (some (.bL [])) m nx
         | false=>.fail "delete: key")
       | none=>.fail "delete")
     | _=>.fail "delete")
   | _=>tg P t (some x) (some k) m fun d kv key es clock _=>jq d kv (fun r=>match r with
     | some (i,_)=>K (some (.bL [])) (m.put key (.map (D8 es i) clock)) nx
     | none=>K (some (.bL [])) m nx) es 0)
 | none=>.fail "delete"
theorem Wu {ats:Array TypeId}{ty:TypeId}{x k:SV}{K:KL}{E:Nat->Nat}{w:World}(h:(zl P ats x k m nx K).holds)(hs:aG Γ E m nx w) :
  ∃ r w',(Builtin.delete_ ats ty #[x.val E,k.val E]).run P w=.ok r w'/\aV K Γ E nx r w':=by
 unfold zl at h;split at h
 ·rename_i t h0;split at h
  ·split at h
   ·rename_i kt et ht;split at h
    ·rename_i d hd;split at h
     ·rename_i hkd;refine⟨.tuple #[],w,by simp only[Builtin.delete_,h0,SV.val,List.getElem?_toArray,List.getElem?_cons_zero,List.getElem?_cons_succ,Sem.run_bind,az ht,Result.andThen_ok,MapKept.run_checkKey hd (qG hkd E) true 9999,Sem.run_pure],E,some (.bL []),m,nx,fun _ _=>rfl,Nat.le_refl _,fun v hv=>by injection hv with hv;subst hv;rfl,hs,h⟩
     ·exact h.elim
    ·exact h.elim
   ·exact h.elim
  ·obtain⟨kt,et,d,z,kv,key,es,clock,ht,hd,hz,hx,hk,hm,hkd,h⟩:=yV h;injection hx with hx;subst hx;injection hk with hk;subst hk;obtain⟨obl,r,h1,h2⟩:=pE hkd es 0;obtain⟨ho,h⟩:=(h1 _).1 h;obtain⟨f1,f2⟩:=h2 ho;obtain⟨ob,hob,hb⟩:=hs.qD key _ hm rfl;have hb:ob=.map (cu E es).toArray clock:=hb;subst hb;have hf':Instr.findNow d (k.val E) (cu E es).toArray.toList 0=_:=f1 E;cases r with
   | none =>
     have same:w.heap.setIfInBounds (E key) (.map (cu E es).toArray clock)=w.heap:=by grind
     refine⟨.tuple #[],w,?_,E,some (.bL []),m,nx,fun _ _=>rfl,Nat.le_refl _,fun v hv=>by injection hv with hv;subst hv;rfl,hs,h⟩;simp only[Builtin.delete_,h0,SV.val,List.getElem?_toArray,List.getElem?_cons_zero,List.getElem?_cons_succ,Sem.run_bind,az ht,Result.andThen_ok,MapKept.run_getObj_map hob,MapKept.run_checkKey hd (qG hkd E) _ 9999,Instr.findKey,az hd,hf',Option.map_none,Sem.run_pure,MapKept.run_setObj_map _ hob,same]
   | some q =>obtain⟨i,e⟩:=q;refine⟨.tuple #[],{w with heap:=w.heap.setIfInBounds (E key) (.map (cu E (D8 es i)).toArray clock)},?_,aV.jA hs hm rfl rfl (B':=.map (D8 es i) clock) rfl rfl (fun v hv=>by injection hv with hv;subst hv;rfl) h⟩;simp only[Builtin.delete_,h0,SV.val,List.getElem?_toArray,List.getElem?_cons_zero,List.getElem?_cons_succ,Sem.run_bind,az ht,Result.andThen_ok,MapKept.run_getObj_map hob,MapKept.run_checkKey hd (qG hkd E) _ 9999,Instr.findKey,az hd,hf',Option.map_some,Sem.run_pure,MapKept.run_setObj_map _ hob,aaT,Mh]
 ·exact h.elim
def EC (P:Program)(t:TypeId)(x:Option SV)(m:Mem)(nx:Nat)(K:KL):VC :=
 match P.underlying t,x with
 | some (.map _ _),some .iy=>K (some (.ptr nx true 0)) ((nx,.Qn none 0 [] 0)::m) (nx+1)
 | some (.map _ _),some (.map key)=>(match m.get key with
   | some (.map _ clock)=>K (some (.ptr nx true 0)) ((nx,.Qn (some key) clock [] clock)::m) (nx+1)
   | _=>.fail "range: no map")
 | _,_=>.fail "range: over what"
theorem abU {dst:Option Tmp}{t type:TypeId}{pos:String}{after:Array Edge}{guard:Option (Nat×Bool)}{x:Operand} :
  ve P Γ σ m nx ⟨dst,.range t x,type,pos,after,guard⟩ (EC P t (σ x) m nx):=by
 intro K E w ρ h hs hw hσ hr;unfold EC at h;split at h
 ·rename_i kt et ht hx;have hrun:(execOp ρ ⟨dst,.range t x,type,pos,after,guard⟩).run P w=.ok (.value (.pointer (some ⟨w.heap.size,0,none⟩))) {w with heap:=w.heap.push (.mapIter none 0 #[] 0)}:=by simp only[execOp,Instr.range,hr x _ hx,SV.val,Sem.run_bind,az ht,Result.andThen_ok,Sem.run_pure,run_newObj]
  rw[hrun];exact aV.Vz hs hw (B:=.Qn none 0 [] 0) (o:=.mapIter none 0 #[] 0) rfl rfl (by grind [SV.val]) h
 ·rename_i kt et key ht hx;split at h
  ·rename_i es clock hm;obtain⟨ob,hob,hb⟩:=hs.qD key _ hm rfl;have hb:ob=.map (cu E es).toArray clock:=hb;subst hb;have hrun:(execOp ρ ⟨dst,.range t x,type,pos,after,guard⟩).run P w=.ok (.value (.pointer (some ⟨w.heap.size,0,none⟩))) {w with heap:=w.heap.push (.mapIter (some (E key)) clock #[] clock)}:=by simp only[execOp,Instr.range,hr x _ hx,SV.val,Sem.run_bind,az ht,Result.andThen_ok,Sem.run_pure,MapKept.run_getObj_map hob,run_newObj]
   rw[hrun];have hkl:=hs.lt key _ hm;exact aV.Vz hs hw (B:=.Qn (some key) clock [] clock) (o:=.mapIter (some (E key)) clock #[] clock) rfl (by grind [Nat.blt_eq,SB.wf]) (by grind [SV.val]) h
  ·exact h.elim
 ·exact h.elim
def Ql (b:Nat):List Nat->Bool
 | []=>false
 | x::r=>match Nat.beq x b with
   | true=>true
   | false=>Ql b r
theorem Y6 (b:Nat): ∀ l:List Nat,Ql b l=l.contains b
 | []=>rfl
 | x::r=>by
   simp only[Ql,List.contains_cons];cases h:Nat.beq x b with
   | true=>have:=Nat.eq_of_beq_eq_true h;subst this;simp
   | false =>
     have hne: ¬ (b=x):=fun e=>by subst e;rw[Nat.beq_refl] at h;cases h
     simp[hne,Y6 b r]
def jO (p:Nat->Bool):List (Nat×SV×SV)->List (Nat×SV×SV)
 | []=>[]
 | e::r=>match p e.1 with
   | true=>e::jO p r
   | false=>jO p r
theorem y7 (E:Nat->Nat)(p:Nat->Bool): ∀ es:List (Nat×SV×SV),cu E (jO p es)=(cu E es).filter fun e=>p e.born
 | []=>rfl
 | e::r=>by have:=y7 E p r;simp only[cu,List.map_cons,jO,List.filter_cons] at this ⊢;cases p e.1<;>simp[this]
def Rs (p:Nat->Bool):List (Nat×SV×SV)->Bool
 | []=>true
 | e::r=>p e.1&&Rs p r
theorem RS (E:Nat->Nat)(p:Nat->Bool): ∀ es:List (Nat×SV×SV),(cu E es).all (fun e=>p e.born)=Rs p es
 | []=>rfl
 | e::r=>by have:=RS E p r;simp only[cu,List.map_cons,List.all_cons,Rs] at this ⊢;rw[this]
def ko (es:List (Nat×SV×SV))(since:Nat)(seen:List Nat):List (Option (Nat×SV×SV)) :=
 let left:=jO (fun b=>!Ql b seen) es;let old:=jO (fun b=>Nat.blt b since) left
 (match old with
   | []=>[none]
   | _=>[])++(old++jO (fun b=>Nat.ble since b) left).map some
def BY (f:Option (Nat×SV×SV)->VC):List (Option (Nat×SV×SV))->VC
 | []=>.tt
 | [x]=>f x
 | x::r=>.and (f x) (BY f r)
theorem Fx {f:Option (Nat×SV×SV)->VC}: ∀ {l:List (Option (Nat×SV×SV))} {x},(BY f l).holds->x∈ l->(f x).holds
 | [],x,_,h=>by cases h
 | [y],x,h,hm=>by rw[List.mem_singleton] at hm;subst hm;exact h
 | y::z::r,x,h,hm=>by
   obtain⟨h1,h2⟩:=h;rcases List.mem_cons.1 hm with rfl | hm
   ·exact h1
   ·exact Fx h2 hm
def neL:List Nat->Bool
 | []=>false
 | _=>true
def neE:List (Nat×SV×SV)->Bool
 | []=>false
 | _=>true
def M7 (x:Option SV)(isString:Bool)(m:Mem)(nx:Nat)(K:KL):VC :=
 match x,isString with
 | some (.ptr key true 0),false=>(match m.get key with
   | some (.Qn none _ _ _)=>K (some (.bL [.bool true false])) m nx
   | some (.Qn (some mk) since seen last)=>(match m.get mk with
     | some (.map es clock)=>(match neL seen&&neE es&&Rs (fun b=>Nat.ble last b) es with
       | true=>.fail "range: all that there was is gone"
       | false=>BY (fun e=>match e with
         | none=>K (some (.bL [.bool true false])) m nx
         | some e=>K (some (.bL [.bool true true,e.2.1,e.2.2])) (m.put key (.Qn (some mk) since (seen++[e.1]) clock)) nx) (ko es since seen))
     | _=>.fail "range: no map")
   | _=>.fail "range: no iterator")
 | _,_=>.fail "range: next"
theorem tF {P:Program}{w:World}{r:Nat}{mp:Option Nat}{s:Nat}{seen:Array Nat}{c:Nat}(hb:w.heap[r]?=some (.mapIter mp s seen c)):(getObj r).run P w=.ok (.mapIter mp s seen c) w:=by grind [getObj,Sem.run]
theorem LO {P:Program}{w:World}{r:Nat}{mp:Option Nat}{s:Nat}{seen:Array Nat}{c:Nat}(o:Obj)(hb:w.heap[r]?=some (.mapIter mp s seen c)):(setObj r o).run P w=.ok () {w with heap:=w.heap.setIfInBounds r o}:=by grind [setObj,Sem.run]
theorem ab6 (E:Nat->Nat)(es:List (Nat×SV×SV))(since:Nat)(seen:List Nat) :
  (let left:=(cu E es).toArray.filter fun e=>!seen.toArray.contains e.born
    let old:=left.filter (·.born<since);let new:=left.filter (·.born≥since)
    (if old.isEmpty then #[none] else #[])++(old++new).map some)=((ko es since seen).map fun x=>x.map fun e=>({key:=e.2.1.val E,val:=e.2.2.val E,born:=e.1}:MapEntry)).toArray:=by
 have h1:((cu E es).toArray.filter fun e=>!seen.toArray.contains e.born)=(cu E (jO (fun b=>!Ql b seen) es)).toArray:=by rw[y7];simp[Y6]
 have h2: ∀ l:List (Nat×SV×SV),((cu E l).toArray.filter fun e=>decide (e.born<since))=(cu E (jO (fun b=>Nat.blt b since) l)).toArray:=fun l=>by
  rw[y7];have:(fun e:MapEntry=>decide (e.born<since))=fun e=>Nat.blt e.born since:=by grind [Nat.blt_eq]
  rw[this];simp
 have h3: ∀ l:List (Nat×SV×SV),((cu E l).toArray.filter fun e=>decide (e.born≥since))=(cu E (jO (fun b=>Nat.ble since b) l)).toArray:=fun l=>by
  rw[y7];have:(fun e:MapEntry=>decide (e.born≥since))=fun e=>Nat.ble since e.born:=by grind [Nat.le_of_ble_eq_true,Nat.ble_eq_true_of_le]
  rw[this];simp
 simp only[h1,h2,h3];unfold ko;simp only;generalize jO (fun b=>Nat.blt b since) (jO (fun b=>!Ql b seen) es)=old;generalize jO (fun b=>Nat.ble since b) (jO (fun b=>!Ql b seen) es)=new;cases old with
 | nil=>simp_all [Sx.cu]
 | cons e r=>simp[cu,List.map_map,Function.comp_def]
def Oy (r mk since:Nat)(seen:Array Nat)(clock:Nat)(cands:Array (Option MapEntry))(c:Nat):Sem Value :=
 match cands[c]? with
 | some (some e)=>do
   setObj r (.mapIter (some mk) since (seen.push e.born) clock)
   pure (.tuple #[.bool true,e.key,e.val])
 | some none=>pure (.tuple #[.bool false])
 | none=>stuck "Next: no such candidate"
theorem afX {dst:Option Tmp}{type:TypeId}{pos:String}{after:Array Edge}{guard:Option (Nat×Bool)}{x:Operand}{b:Bool} :
  ve P Γ σ m nx ⟨dst,.next x b,type,pos,after,guard⟩ (M7 (σ x) b m nx):=by
 intro K E w ρ h hs hw hσ hr;unfold M7 at h;split at h
 ·rename_i key hx;split at h
  ·rename_i s1 s2 s3 hm;obtain⟨ob,hob,hb⟩:=hs.qD key _ hm rfl;have hb:ob=.mapIter none s1 s2.toArray s3:=hb;subst hb;have hrun:(execOp ρ ⟨dst,.next x false,type,pos,after,guard⟩).run P w=.ok (.value (.tuple #[.bool false])) w:=by simp only[execOp,Instr.next,hr x _ hx,SV.val,Sem.run_bind,tF hob,Result.andThen_ok,Sem.run_pure]
   rw[hrun];exact⟨E,some (.bL [.bool true false]),m,nx,fun _ _=>rfl,Nat.le_refl _,(by grind [SV.val,SV.vals]),hs,h⟩
  ·rename_i mk since seen last hm;split at h
   ·rename_i es clock hmk;split at h
    ·exact h.elim
    ·rename_i hcond;obtain⟨ob,hob,hb⟩:=hs.qD key _ hm rfl;have hb:ob=.mapIter (some (E mk)) since seen.toArray last:=hb;subst hb;obtain⟨om,hom,hb⟩:=hs.qD mk _ hmk rfl;have hb:om=.map (cu E es).toArray clock:=hb;subst hb;have hc:(!seen.toArray.isEmpty&& !(cu E es).toArray.isEmpty&&(cu E es).toArray.all (fun e=>decide (e.born≥last)))=false:=by
      have e1:(!seen.toArray.isEmpty)=neL seen:=by grind [Sx.neL]
      grind [RS,Nat.le_of_ble_eq_true,Nat.ble_eq_true_of_le,cu,neE,decide,Rs,Nat.ble]
     have hcand:=ab6 E es since seen;simp only at hcand;have hne:0<(ko es since seen).length:=by
      unfold ko;simp only;split
      ·simp
      ·rename_i hh;have:jO (fun b=>Nat.blt b since) (jO (fun b=>!Ql b seen) es)≠[]:=fun e=>hh e;cases hp:jO (fun b=>Nat.blt b since) (jO (fun b=>!Ql b seen) es)with
       | nil=>grind
       | cons=>simp
     have hex:(execOp ρ ⟨dst,.next x false,type,pos,after,guard⟩).run P w=(do
       let c ← choose (.mapNext ((ko es since seen).map fun x=>x.map fun e=>({key:=e.2.1.val E,val:=e.2.2.val E,born:=e.1}:MapEntry)).toArray.size);let v ← Oy (E key) (E mk) since seen.toArray clock ((ko es since seen).map fun x=>x.map fun e=>({key:=e.2.1.val E,val:=e.2.2.val E,born:=e.1}:MapEntry)).toArray c
       pure (.value v):Sem Next).run P w:=by
      rw[← hcand];simp only[execOp,Instr.next,hr x _ hx,SV.val,Sem.run_bind,tF hob,Result.andThen_ok,MapKept.run_getObj_map hom,hc,Bool.false_eq_true,if_false,Sem.run_pure]
      generalize Sem.run P (choose _) w=r;cases r<;>rfl
     rw[hex]
     have main: ∀(c:Nat) (w':World),aG Γ E m nx w'->w'.heap=w.heap->c<(ko es since seen).length ->
       Out P (aV K Γ E nx) ((do
        let v ← Oy (E key) (E mk) since seen.toArray clock ((ko es since seen).map fun x=>x.map fun e=>({key:=e.2.1.val E,val:=e.2.2.val E,born:=e.1}:MapEntry)).toArray c
        pure (.value v):Sem Next).run P w'):=by
      intro c w' hs' hw' hlt;have hget:(ko es since seen)[c]?=some (ko es since seen)[c]:=List.getElem?_eq_getElem hlt;have hk:=Fx h (List.getElem_mem hlt);cases hx:(ko es since seen)[c] with
      | none =>
        rw[hx] at hk hget;have ht:Oy (E key) (E mk) since seen.toArray clock ((ko es since seen).map fun x=>x.map fun e=>({key:=e.2.1.val E,val:=e.2.2.val E,born:=e.1}:MapEntry)).toArray c=pure (.tuple #[.bool false]):=by grind [Oy]
        rw[ht];simp only[Sem.run_bind,Sem.run_pure,Result.andThen_ok,Out];exact⟨E,some (.bL [.bool true false]),m,nx,fun _ _=>rfl,Nat.le_refl _,(by grind [SV.val,SV.vals]),hs',hk⟩
      | some e =>
        rw[hx] at hk hget;have hob':w'.heap[E key]?=some (.mapIter (some (E mk)) since seen.toArray last):=by grind
        have ht:Oy (E key) (E mk) since seen.toArray clock ((ko es since seen).map fun x=>x.map fun e=>({key:=e.2.1.val E,val:=e.2.2.val E,born:=e.1}:MapEntry)).toArray c =
          (do setObj (E key) (.mapIter (some (E mk)) since (seen.toArray.push e.1) clock);pure (.tuple #[.bool true,e.2.1.val E,e.2.2.val E])):=by
         grind [Oy]
        rw[ht];simp only[Sem.run_bind,LO _ hob',Result.andThen_ok,Sem.run_pure,Out];exact aV.jA hs' hm rfl rfl (B':=.Qn (some mk) since (seen++[e.1]) clock) (by show _=_;simp) rfl (by grind [SV.val,SV.vals]) hk
     rw[Sem.run_bind,run_choose];have hsz:((ko es since seen).map fun x=>x.map fun e=>({key:=e.2.1.val E,val:=e.2.2.val E,born:=e.1}:MapEntry)).toArray.size=(ko es since seen).length:=by simp
     rw[hsz];by_cases hf:(Question.mapNext (ko es since seen).length).forced=true
     ·simp_all
     ·rw[if_neg hf];exact main _ _ (hs.drew _) rfl (Nat.mod_lt _ hne)
   ·exact h.elim
  ·exact h.elim
 ·exact h.elim
def Py (b:Nat):List (Nat×SV×SV)->Option (Nat×SV×SV)
 | []=>none
 | e::r=>match Nat.beq e.1 b with
   | true=>some e
   | false=>Py b r
theorem Mi (E:Nat->Nat)(b:Nat): ∀ es:List (Nat×SV×SV),(cu E es).find? (fun e=>e.born==b)=(Py b es).map fun e=>({key:=e.2.1.val E,val:=e.2.2.val E,born:=e.1}:MapEntry)
 | []=>rfl
 | e::r=>by
   have:=Mi E b r;simp only[cu,List.map_cons,List.find?_cons,Py] at this ⊢;cases h:Nat.beq e.1 b with
   | true =>obtain rfl:=Nat.eq_of_beq_eq_true h;rw[beq_self_eq_true];rfl
   | false=>rw[beq_false_of_ne (Nat.ne_of_beq_eq_false h)];exact this
def Et (x:Option SV)(m:Mem)(nx:Nat)(K:KL):VC :=
 match x with
 | some (.ptr key true 0)=>(match m.get key with
   | some (.Qn (some mk) _ seen last)=>(match m.get mk,seen.getLast? with
     | some (.map es clock),some b=>(match Nat.beq clock last,Py b es with
       | true,some e=>K (some (.bL [e.2.1,e.2.2])) m nx
       | _,_=>.fail "range: the entry")
     | _,_=>.fail "range: no map")
   | _=>.fail "range: no iterator")
 | _=>.fail "range: entry"
theorem abD {dst:Option Tmp}{type:TypeId}{pos:String}{after:Array Edge}{guard:Option (Nat×Bool)}{x:Operand} :
  ve P Γ σ m nx ⟨dst,.entry x,type,pos,after,guard⟩ (Et (σ x) m nx):=by
 intro K E w ρ h hs hw hσ hr;unfold Et at h;split at h
 ·rename_i key hx;split at h
  ·rename_i mk since seen last hm;split at h
   ·rename_i es clock b hmk hl;split at h
    ·rename_i e hc he;obtain⟨ob,hob,hb⟩:=hs.qD key _ hm rfl;have hb:ob=.mapIter (some (E mk)) since seen.toArray last:=hb;subst hb;obtain⟨om,hom,hb⟩:=hs.qD mk _ hmk rfl;have hb:om=.map (cu E es).toArray clock:=hb;subst hb;obtain rfl:=Nat.eq_of_beq_eq_true hc;have hbk:seen.toArray.back?=some b:=by simpa using hl
     have hf:(cu E es).toArray.find? (fun e=>e.born==b)=some {key:=e.2.1.val E,val:=e.2.2.val E,born:=e.1}:=by rw[List.find?_toArray,Mi,he];rfl
     have hrun:(execOp ρ ⟨dst,.entry x,type,pos,after,guard⟩).run P w=.ok (.value (.tuple #[e.2.1.val E,e.2.2.val E])) w:=by simp only[execOp,Instr.entry,hr x _ hx,SV.val,Sem.run_bind,tF hob,Result.andThen_ok,hbk,MapKept.run_getObj_map hom,bne_self_eq_false,Bool.false_eq_true,if_false,hf,Sem.run_pure]
     rw[hrun];exact⟨E,some (.bL [e.2.1,e.2.2]),m,nx,fun _ _=>rfl,Nat.le_refl _,(by grind [SV.val,SV.vals]),hs,h⟩
    ·exact h.elim
   ·exact h.elim
  ·exact h.elim
 ·exact h.elim
end
section
variable {P : Program} {Γ : aQ} {σ : Operand -> Option SV} {m : Mem} {nx : Nat}
def nY:List SV->List Int
 | .int .u8 _ n::r=>n::nY r
 | _=>[]
def Vh:Nat->List SV->Option (Nat×List Int)
 | _,[]=>none
 | a,v::r=>match v with
   | .int .u8 _ n=>some (a,n::nY r)
   | _=>Vh (a+1) r
theorem GS: ∀(cs:List SV) (j:Nat),j<(nY cs).length->∃ b,cs[j]?=some (.int .u8 b (LR (nY cs) j))
 | [],j,h=>by simp[nY] at h
 | v::r,j,h=>by
   unfold nY at h ⊢;split at h
   ·rename_i b n r' e;injection e with e1 e2;subst e1;subst e2;cases j with
    | zero=>exact⟨b,rfl⟩
    | succ j =>obtain⟨b',hb⟩:=GS r j (by simpa using h);exact⟨b',by simpa [LR] using hb⟩
   ·simp at h
theorem OC: ∀(cs:List SV) (a a0:Nat) (zs:List Int),Vh a cs=some (a0,zs)->a<=a0/\a0 - a+zs.length<=cs.length/\∀ j,j<zs.length->∃ b,cs[a0 - a+j]?=some (.int .u8 b (LR zs j))
 | [],a,a0,zs,h=>by cases h
 | v::r,a,a0,zs,h=>by
   have rec':Vh (a+1) r=some (a0,zs)->a<=a0/\a0 - a+zs.length<=(v::r).length/\∀ j,j<zs.length->∃ b,(v::r)[a0 - a+j]?=some (.int .u8 b (LR zs j)):=fun h=>by obtain⟨g1,g2,g3⟩:=OC r (a+1) a0 zs h;refine⟨by omega,by simp only[List.length_cons];omega,fun j hj=> ?_⟩;obtain⟨b,hb⟩:=g3 j hj;exact⟨b,by rw[show a0 - a+j=(a0 - (a+1)+j)+1 by omega];simpa using hb⟩
   unfold Vh at h;split at h
   ·rename_i b n;injection h with h;injection h with h1 h2;subst h1;subst h2;have hf:=GS (.int .u8 b n::r);have e:nY (.int .u8 b n::r)=n::nY r:=rfl;rw[e] at hf;have hl: ∀ l:List SV,(nY l).length<=l.length:=by
     intro l;induction l with
     | nil=>simp[nY]
     | cons v r ih =>
       unfold nY;split
       ·rename_i e;injection e with _ e;subst e;simpa using ih
       ·simp
    refine⟨Nat.le_refl _,by have:=hl r;simp only[List.length_cons,Nat.sub_self];omega,fun j hj=> ?_⟩;rw[Nat.sub_self,Nat.zero_add];exact hf j hj
   ·exact rec' h
def Qo (off cnt:Nat)(s:List UInt8):Nat->List Int->List SV
 | _,[]=>[]
 | j,z::r=>.int .u8 false (if off<=j/\j<off+cnt then((s.getD (j - off) 0).toNat:Int)else z)::Qo off cnt s (j+1) r
theorem CE {off cnt:Nat}{s:List UInt8}: ∀ {l:List Int} {j:Nat},(Qo off cnt s j l).length=l.length
 | [],_=>rfl
 | _::r,j=>by simp[Qo,CE (l:=r)]
theorem S6 {off cnt:Nat}{s:List UInt8}: ∀ {l:List Int} {j q:Nat} {x:SV},(Qo off cnt s j l)[q]?=some x->x=.int .u8 false (if off<=j+q/\j+q<off+cnt then((s.getD (j+q - off) 0).toNat:Int)else LR l q)
 | [],_,_,_,h=>by simp[Qo] at h
 | z::r,j,0,x,h=>by simp[Qo] at h;subst h;simp[LR]
 | z::r,j,q+1,x,h=>by simp only[Qo,List.getElem?_cons_succ] at h;rw[S6 h,show j+1+q=j+(q+1)by omega];simp[LR]
def Cv (key i n:Nat)(y:SV)(m:Mem)(nx:Nat)(K:KL):VC :=
 match y,m.get key with
 | .str _ s,some (.cells cs tot ty)=>(match Vh 0 cs with
   | some (a,zs)=>.and (.atom (a<=i/\i+n<=a+zs.length)) (K (some (.int .i64 false (min s.length n:Nat))) (m.put key (.cells (bz cs a (Qo (i - a) (min s.length n) s 0 zs)) tot ty)) nx)
   | none=>.fail "copy: no bytes")
 | _,_=>.fail "copy: blocks"
theorem It (P:Program)(w:World)(s:List UInt8)(n:Nat):(Builtin.firstCells 1 n (.string ⟨s.toArray⟩)).run P w=.ok ((s.take n).map fun b=>Value.int .u8 b.toNat).toArray w:=by
 have e:((ByteArray.mk s.toArray).extract 0 n)=⟨(s.take n).toArray⟩:=by have:=Ac s 0 n;simpa using this
 show Result.ok _ w=_;rw[e];simp
theorem SD {Γ:aQ}{E:Nat->Nat}{w:World}{m:Mem}{nx:Nat}{K:KL}{key i n:Nat}{y:SV}(P:Program)(h:(Cv key i n y m nx K).holds)(hs:aG Γ E m nx w) :
  ∃ s,y.val E=.string ⟨List.toArray s⟩/\∃ w',(storeCells ⟨E key,i,none⟩ ((s.take (min s.length n)).map fun b=>Value.int .u8 b.toNat)).run P w=.ok () w'/\aV K Γ E nx (.int .i64 ((min s.length n:Nat):Int)) w':=by
 unfold Cv at h;split at h
 ·rename_i lt s cs tot ty hk;split at h
  ·rename_i a zs hrun8;obtain⟨⟨ha,hin⟩,h⟩:=h;obtain⟨_,u2,u3⟩:=OC cs 0 a zs hrun8;rw[Nat.sub_zero] at u2;refine⟨s,rfl,?_⟩;obtain⟨ob,ho,c,fr,rfl,h1,h2,h3⟩:=hs.qD key _ hk rfl;generalize hc:min s.length n=cnt at *;have hcs:cnt<=s.length:=by omega
   have hcn:cnt<=n:=by omega
   have hlen:((s.take cnt).map fun b=>Value.int .u8 b.toNat).length=cnt:=by rw[List.length_map,List.length_take];omega
   have hcl:cs.length<=c.size:=by
    cases hcs:cs.length with
    | zero=>omega
    | succ q =>have:=h2 q _ (List.getElem?_eq_getElem (by omega));have:=(Array.getElem?_eq_some_iff.1 this).1;omega
   have hrun:=dN (P:=P) (o:=i) ((s.take cnt).map fun b=>Value.int .u8 b.toNat) 0 w c ho h1 (by rw[hlen];omega) (fun u hu=>by rw[List.mem_map] at hu;obtain⟨b,_,rfl⟩:=hu;rfl)
   refine⟨_,hrun,E,some (.int .i64 false (cnt:Int)),_,_,fun _ _=>rfl,Nat.le_refl _,fun v hv=>by injection hv with hv;subst hv;rfl,hs.write hk rfl rfl (B':=.cells (bz cs a (Qo (i - a) cnt s 0 zs)) tot ty) ?_ rfl,h⟩;refine⟨_,fr,rfl,by rw[bG];exact h1,fun q u hq=> ?_,by rw[bG];exact h3⟩;have hsa: ∀ v,(if i<=q/\q<i+cnt then((s.take cnt).map fun b=>Value.int .u8 b.toNat)[q - i]? else c[q]?)=some v->(gx c (i+0) ((s.take cnt).map fun b=>Value.int .u8 b.toNat))[q]?=some v:=by
    intro v hv;rw[← Array.getElem?_toList,jH,Nat.add_zero];have hqs:q<c.size:=by
     split at hv
     ·omega
     ·exact(Array.getElem?_eq_some_iff.1 hv).1
    have hsl:(bz c.toList i ((s.take cnt).map fun b=>Value.int .u8 b.toNat)).length=c.size:=by rw[← jH];simp[bG]
    obtain⟨x,hx⟩: ∃ x,(bz c.toList i ((s.take cnt).map fun b=>Value.int .u8 b.toNat))[q]?=some x:=⟨_,List.getElem?_eq_getElem (by rw[hsl];exact hqs)⟩
    rcases vX _ _ _ _ _ hx (by rw[hlen,Array.length_toList];omega)with ⟨g1,g2,g3⟩ | ⟨g1,g2⟩
    ·rw[hlen] at g2;rw[if_pos ⟨g1,g2⟩] at hv;rw[hx,← g3];exact hv
    ·rw[hlen] at g1;rw[if_neg (by omega)] at hv;rw[hx,← g2,Array.getElem?_toList];exact hv
   apply hsa;rcases vX _ _ _ _ _ hq (by rw[CE];omega)with ⟨g1,g2,g3⟩ | ⟨g1,g2⟩
   ·have hu:=S6 g3;subst hu;rw[CE] at g2;by_cases e:i<=q/\q<i+cnt
    ·rw[if_pos e,if_pos (by omega),List.getElem?_map,List.getElem?_take_of_lt (by omega),List.getElem?_eq_getElem (by omega)];simp only[Option.map_some,SV.val,Nat.zero_add];rw[show q - a - (i - a)=q - i by omega,List.getD_eq_getElem?_getD,List.getElem?_eq_getElem (by omega)];rfl
    ·rw[if_neg e,if_neg (by omega)];obtain⟨b,hb⟩:=u3 (q - a) (by omega);rw[show a - 0+(q - a)=q by omega] at hb;have:=h2 _ _ hb;exact this
   ·rw[CE] at g1;rw[if_neg (by omega)];exact h2 q u g2
  ·exact h.elim
 ·exact h.elim
def YY (P:Program)(ats:Array TypeId)(x y:SV)(m:Mem)(nx:Nat)(K:KL):VC :=
 match ats[0]? with
 | some t0=>(match P.underlying t0 with
   | some (.slice elem)=>(match sz P elem,x with
     | some s,.slc key o n _ _=>(match kO m s y,m.get key with
       | some (l,n'),some (.cells cs tot ty)=>if(tL (l.take (min n' n*s))&&decide (o+(l.take (min n' n*s)).length<=cs.length))=true then
          K (some (.int .i64 true (min n' n:Nat))) (m.put key (.cells (bz cs o (l.take (min n' n*s))) tot ty)) nx else .fail "copy: cells"
       | _,_=>.fail "copy: blocks")
     | some 1,.bI key 1 false i n _=>Cv key i n y m nx K
     | _,_=>.fail "copy: to what")
   | _=>.fail "copy")
 | none=>.fail "copy"
theorem afx {ats:Array TypeId}{ty:TypeId}{x y:SV}{K:KL}{Γ:aQ}{E:Nat->Nat}{w:World}
  (h:(YY P ats x y m nx K).holds) (hs:aG Γ E m nx w) :
  ∃ r w',(Builtin.copy_ ats ty #[x.val E,y.val E]).run P w=.ok r w'/\aV K Γ E nx r w':=by
 unfold YY at h;split at h
 ·rename_i t0 h0;split at h
  ·rename_i elem hd;split at h
   ·rename_i s key o n cl c hsz;split at h
    ·rename_i l n' cs tot ty' hy hk;split at h
     ·rename_i hc;simp only[Bool.and_eq_true,decide_eq_true_eq] at hc;obtain⟨ylen,ycells,ynum⟩:=nW (P:=P) hs hy;have hyc:=ycells (min n' n) (Nat.min_le_left _ _);obtain⟨w',hrun,haft⟩:=aV.write (P:=P) (r:=.int .i64 ((min n' n:Nat):Int)) hs hk (m6 hc.1) hc.2 (fun v hv=>by injection hv with hv;subst hv;rfl) h;refine⟨_,w',?_,haft⟩;simp only[SV.val,Builtin.copy_,h0,List.getElem?_toArray,List.getElem?_cons_zero,List.getElem?_cons_succ,Sem.run_bind,az hd,Result.andThen_ok,ylen,bU hsz];rw[show n'.min n=min n' n from rfl,hyc]
      simp only[Result.andThen_ok,hrun,Sem.run_pure,goInt]
     ·exact h.elim
    ·exact h.elim
   ·rename_i key i n c hsz;obtain⟨s,hy,w',hrun,haft⟩:=SD P h hs;refine⟨_,w',?_,haft⟩;have hl:(ByteArray.mk s.toArray).size=s.length:=by simp[ByteArray.size]
    rw[hy];simp only[SV.val,Bool.false_and,cond_false,Nat.mul_one,Builtin.copy_,h0,List.getElem?_toArray,List.getElem?_cons_zero,List.getElem?_cons_succ,Sem.run_bind,az hd,Result.andThen_ok,Builtin.lenOf,Sem.run_pure,bU hsz,hl];rw[show s.length.min n=min s.length n from rfl,It]
    simp only[Result.andThen_ok,hrun,goInt]
   ·exact h.elim
  ·exact h.elim
 ·exact h.elim
def RG:SV->Option aK
 | .int k _ n=>some (.int k fun _=>n)
 | .bool _ b=>some (.bool fun _=>b)
 | .str _ s=>some (.str fun _=>s)
 | _=>none
def tQ:List SV->Option (List aK)
 | []=>some []
 | v::r=>(match RG v,tQ r with
   | some c,some l=>some (c::l)
   | _,_=>none)
theorem Ae: ∀ {cs:List SV} {av:List aK},tQ cs=some av->av.length=cs.length/\∀(k:Nat) (col:aK),av[k]?=some col->∃ v,cs[k]?=some v/\∀ i E,(col.at i).val E=v.val E
 | [],av,h=>by simp[tQ] at h;subst h;exact⟨rfl,fun k c hc=>by simp at hc⟩
 | v::r,av,h=>by
   simp only[tQ] at h;split at h
   ·rename_i c l hc hl;injection h with h;subst h;obtain⟨g1,g2⟩:=Ae hl;refine⟨by simp[g1],fun k col hk=> ?_⟩;cases k with
    | zero =>simp at hk;subst hk;refine⟨v,rfl,fun i E=> ?_⟩;unfold RG at hc;split at hc<;>first | (injection hc with hc;subst hc;rfl) | cases hc
    | succ k=>exact g2 k col (by simpa using hk)
   ·cases h
theorem Vd {zs:List SV}: ∀ {n i k:Nat} {v:SV},i<n->zs[k]?=some v->(times n zs)[i*zs.length+k]?=some v
 | 0,_,_,_,h,_=>absurd h (Nat.not_lt_zero _)
 | n+1,i,k,v,h,hk=>by
   have hkl:=(List.getElem?_eq_some_iff.1 hk).1;simp only[times];cases i with
   | zero=>rw[Nat.zero_mul,Nat.zero_add,List.getElem?_append_left hkl];exact hk
   | succ i =>rw[Nat.add_mul,Nat.one_mul,List.getElem?_append_right (by omega),show i*zs.length+zs.length+k - zs.length=i*zs.length+k by omega];exact Vd (by omega) hk
def FQ (P:Program)(t:TypeId)(x y:SV)(m:Mem)(nx:Nat)(K:KL):VC :=
 match P.underlying t,x,y with
 | some (.slice e),.int .i64 true n,.int .i64 l c=>(match sz P e,i6 P e,bytes P e with
   | some s,some z,some by_=>if(z.plain&&decide (z.cells.length=s)&&decide (s≠0)&&decide (0<=n))=true then
      Hj l (n<=c/\by_*c<=140737488355328/\c<=9223372036854775807) (K (some (.slc nx 0 n.toNat l c.toNat)) ((nx,.cells (times (bif l then c.toNat else n.toNat) z.cells) (c.toNat*s) e)::m) (nx+1))else .fail "make: size"
   | _,_,_=>.fail "make")
 | some (.slice e),.int .i64 false n,.int .i64 _ c=>(match sz P e,i6 P e,bytes P e with
   | some s,some z,some by_=>(match tQ z.cells with
     | some av=>if(z.plain&&decide (z.cells.length=s)&&decide (s≠0))=true then
       .and (.atom (c=n/\0<=n/\by_*n<=140737488355328/\n<=9223372036854775807)) (K (some (.bI nx s false 0 n.toNat n.toNat)) ((nx,.rows false n.toNat av false (n.toNat*s) e)::m) (nx+1))else .fail "make: size"
     | none=>.fail "make: columns")
   | _,_,_=>.fail "make")
 | _,_,_=>.fail "make: a length that is not known"
theorem M4 {dst:Option Tmp}{t type:TypeId}{pos:String}{after:Array Edge}{guard:Option (Nat×Bool)}{x y:Operand} :
  ∀ {a b:SV},(∀ n,a=.int .i64 false n->False)->∀(K:KL) (E:Nat->Nat) (w:World) (ρ:Operand->Value),(FQ P t a b m nx K).holds->aG Γ E m nx w->Mem.wf nx m=true->ρ x=a.val E->ρ y=b.val E ->
    Out P (aV K Γ E nx) ((execOp ρ ⟨dst,.makeSlice t x y,type,pos,after,guard⟩).run P w):=by
 intro a b hnl K E w ρ h hs hw ha hb;unfold FQ at h;split at h
 ·rename_i e n l c hd;split at h
  ·rename_i s z by_ hsz hz hby;split at h
   ·rename_i hc;simp only[Bool.and_eq_true,decide_eq_true_eq] at hc;obtain⟨⟨⟨h1,h2⟩,h3⟩,h4⟩:=hc;have hk:(n<=c/\by_*c<=140737488355328/\c<=9223372036854775807)/\(K (some (.slc nx 0 n.toNat l c.toNat)) ((nx,.cells (times (bif l then c.toNat else n.toNat) z.cells) (c.toNat*s) e)::m) (nx+1)).holds:=by
     unfold Sx.Hj at h;split at h
     ·split at h
      ·rename_i hh;exact⟨hh,h⟩
      ·exact h.elim
     ·exact h
    obtain⟨⟨k1,k2,k3⟩,hk⟩:=hk;have hwc:IntKind.i64.wrap c=c:=zV (k:=.i64) ⟨by simp only[lo];omega,by simp only[hi];omega⟩;have hwn:IntKind.i64.wrap n=n:=zV (k:=.i64) ⟨by simp only[lo];omega,by simp only[hi];omega⟩;have hby': ∃ i,P.info? e=some i/\i.bytes=by_:=by
     unfold bytes at hby;split at hby
     ·rename_i i hi;injection hby with hby;exact⟨i,hi,hby⟩
     ·cases hby
    obtain⟨i,hi,hib⟩:=hby';have hzc:=SV.gX (E:=E) h1;have hzs:(z.val E).cells.size=s:=by rw[hzc];simp[h2]
    have hnl: ¬ (c<0):=by omega
    have hbig: ¬ (((by_:Nat):Int)*c>2^ 48):=by
     have:(2:Int)^ 48=281474976710656:=by decide
     omega
    have hcond:((decide (c<0)||decide (((by_:Nat):Int)*c>2^ 48))||decide (n<0)||decide (n>c))=false:=by simp only[Bool.or_eq_false_iff,decide_eq_false_iff_not];exact⟨⟨⟨hnl,hbig⟩,by omega⟩,by omega⟩
    have fin: ∀ z':Array Value,((Array.range (c.toNat*s)).map fun i=>z'[i% z'.size]!)=(SV.vals E (times c.toNat z.cells)).toArray ->
      Out P (aV K Γ E nx) (((newRow e ((Array.range (c.toNat*s)).map fun i=>z'[i% z'.size]!) >>= fun a=>pure (Value.slice (some a) n.toNat c.toNat):Sem Value).run P w).andThen fun a w'=>(pure (Next.value a):Sem Next).run P w'):=by
     intro z' hz';rw[hz'];simp only[newRow,Sem.run_bind,run_newObj,Result.andThen_ok,Sem.run_pure,Out];have g: ∀ k:Nat,(times k z.cells).length=k*s:=by
      intro k;induction k with
      | zero=>simp[times]
      | succ k ih=>rw[times,List.length_append,ih,h2,Nat.add_mul];omega
     refine aV.alloc hs hw (Lc (tP (Fs hz)) _) (fun i v hv=> ?_) (by simp[SV.bA,g]) hk (by simp[SV.val])
     ·generalize hq:(bif l then c.toNat else n.toNat)=q at hv
      have hqc:q<=c.toNat:=by cases l<;>simp at hq<;>omega
      have hsplit:times c.toNat z.cells=times q z.cells++times (c.toNat - q) z.cells:=by
       have g: ∀ a b:Nat,times (a+b) z.cells=times a z.cells++times b z.cells:=by
        intro a b;induction a with
        | zero=>simp[times]
        | succ a ih=>rw[show a+1+b=(a+b)+1 by omega,times,ih,times,List.append_assoc]
       rw[← g];congr 1;omega
      have:=(List.getElem?_eq_some_iff.1 hv).1;rw[SV.bA,List.getElem?_toArray,List.getElem?_map,hsplit,List.getElem?_append_left this,hv];rfl
    simp only[execOp,Instr.makeSlice,ha,hb,SV.val,asInt,asIntOf,Sem.run_bind,az hd,Result.andThen_ok,Sem.run_pure,nQ hi,hib,hwc,hwn];rw[hcond];simp only[Bool.false_eq_true,if_false,Sem.run_bind,run_askRoom,Result.andThen_ok,bU hsz,Sem.run_ite];by_cases h0:c.toNat*s=0
    ·rw[if_pos h0];simp only[Sem.run_pure,Result.andThen_ok];refine fin #[] ?_;have:c.toNat=0:=by rcases Nat.mul_eq_zero.1 h0 with h | h;exact h;exact absurd h h3
     rw[this];simp[times,SV.vals]
    ·rw[if_neg h0];simp only[eN (E:=E) hz,Sem.run_pure,Result.andThen_ok];refine fin _ ?_;apply Array.ext';have:=yP (E:=E) (zs:=z.cells) (z:=(z.val E).cells) (by rw[hzc]) (by rw[hzs];exact h3) c.toNat;rw[hzs] at this;rw[SV.bA];simpa [hzs] using this
   ·exact h.elim
  ·exact h.elim
 ·exact(hnl _ rfl).elim
 ·exact h.elim
theorem afW {dst:Option Tmp}{t type:TypeId}{pos:String}{after:Array Edge}{guard:Option (Nat×Bool)}{x y:Operand} :
  ve P Γ σ m nx ⟨dst,.makeSlice t x y,type,pos,after,guard⟩ (fun K=>need (σ x) (fun a=>need (σ y) (fun b=>FQ P t a b m nx K))):=by
 refine ve.need fun a ha=>ve.need fun b hb=> ?_;intro K E w ρ h hs hw hσ hr;by_cases hl: ∃ n,a=.int .i64 false n
 ·obtain⟨n,rfl⟩:=hl;unfold FQ at h;split at h
  ·rename_i e;cases e
  ·rename_i e n' l' c hd heq;injection heq with _ _ heq;subst heq;split at h
   ·rename_i s z by_ hsz hz hby;split at h
    ·rename_i av hcols;split at h
     ·rename_i hc;obtain⟨⟨rfl,k1,k2,k3⟩,h⟩:=h;have hc':=hc;simp only[Bool.and_eq_true,decide_eq_true_eq] at hc';obtain⟨⟨h1,h2⟩,h3⟩:=hc';let K0:KL:=fun sv m' nx'=>.atom (sv=some (.slc nx 0 c.toNat true c.toNat)/\m'=(nx,.cells (times c.toNat z.cells) (c.toNat*s) e)::m/\nx'=nx+1);have hk0:(FQ P t (.int .i64 true c) (.int .i64 true c) m nx K0).holds:=by simp only[FQ,hd,hsz,hz,hby];rw[if_pos (by simp[h1,h2,h3,k1])];simp only[Sx.Hj,cond_true];rw[if_pos ⟨Int.le_refl _,k2,k3⟩];exact⟨rfl,rfl,rfl⟩
      have ho:=M4 (P:=P) (Γ:=Γ) (m:=m) (nx:=nx) (dst:=dst) (type:=type) (pos:=pos) (after:=after) (guard:=guard) (t:=t) (x:=x) (y:=y) (a:=.int .i64 true c) (b:=.int .i64 true c) (fun _ h=>by cases h) K0 E w ρ hk0 hs hw (by have:=hr x _ ha;exact this) (by have:=hr y _ hb;exact this);refine ho.mono ?_ (fun _ _ h=>h);rintro r w' ⟨E',sv,m',nx',g1,g2,g3,g4,rfl,rfl,rfl⟩;obtain⟨q1,q2⟩:=Ae hcols;refine⟨E',some (.bI nx s false 0 c.toNat c.toNat),_,_,g1,g2,fun v hv=> ?_,?_,h⟩
      ·injection hv with hv;subst hv;rw[g3 _ rfl];simp[SV.val]
      ·
       have hblk: ∀ E' o,bw E' (.cells (times c.toNat z.cells) (c.toNat*s) e) o->bw E' (.rows false c.toNat av false (c.toNat*s) e) o:=by rintro E' o ⟨c0,fr,rfl,f1,f2,f3⟩;refine⟨c0,fr,rfl,fun _=>f1,by rw[q1,h2,f3];exact Nat.le_refl _,f3,fun i k col hi hk=> ?_⟩;obtain⟨v,hv1,hv2⟩:=q2 k col hk;rw[hv2,q1];exact f2 _ _ (Vd hi hv1)
       exact g4.Va (af.of rfl rfl fun _=>⟨rfl,fun E o ho=>hblk E o ho,id⟩)
     ·exact h.elim
    ·exact h.elim
   ·exact h.elim
  ·exact h.elim
 ·exact M4 (fun n e=>hl ⟨n,e⟩) K E w ρ h hs hw (hr x _ ha) (hr y _ hb)
abbrev PT:=List SV->Mem->Nat->(SV->Mem->Nat->VC)->VC
def lift (K:SV->Mem->Nat->VC):KL:=fun v m nx=>match v with
 | some v=>K v m nx
 | none=>.fail "a call's result that is not known"
def au (P:Program)(f:FuncId)(pt:PT):Prop :=
 ∀ args m nx K,(pt args m nx K).holds->Mem.wf nx m=true->SV.gM nx args=true->∀ Γ E w,aG Γ E m nx w ->
   Out P (aV (lift K) Γ E nx) ((callFunc f (SV.vals E args).toArray).run P w)
inductive sr where
 | fn (f:FuncId)
 | yield (key:Nat)
 | panic
def sr.sem (E:Nat->Nat):sr->Array Value->Sem Next
 | .fn f,args=>callFunc f args
 | .yield key,args=>Instr.yield (E key) args
 | .panic,args=>do pure (.value (← Instr.panic (args.getD 0 undef)))
def qO (P:Program)(Γ:aQ)(KP:PK)(c:sr)(pt:PT):Prop :=
 ∀ Δ,Γ.le Δ->∀ args m nx K,(pt args m nx K).holds->Mem.wf nx m=true->SV.gM nx args=true->∀ E w,aG Δ E m nx w ->
   Out P (aV (lift K) Δ E nx) ((c.sem E (SV.vals E args).toArray).run P w) (lB KP Δ E nx)
theorem au.cok {P:Program}{f:FuncId}{pt:PT}(h:au P f pt)(Γ:aQ)(KP:PK):qO P Γ KP (.fn f) pt:=fun Δ _ args m nx K h1 h2 h3 E w hs=>(h args m nx K h1 h2 h3 Δ E w hs).xp
theorem qO.mono {P:Program}{Γ Δ:aQ}{KP:PK}{c:sr}{pt:PT}(h:qO P Γ KP c pt)(hle:Γ.le Δ):qO P Δ KP c pt:=fun Θ h'=>h Θ (aQ.le_trans hle h')
def ajI (P:Program)(Γ:aQ)(KP:PK)(σ:Operand->Option SV)(m:Mem)(nx:Nat)(o:Oper)(t:KL->VC):Prop :=∀ K E w ρ,(t K).holds->aG Γ E m nx w->Mem.wf nx m=true->WfS nx σ->Reads E σ ρ->Out P (aV K Γ E nx) ((execOp ρ o).run P w) (lB KP Γ E nx)
theorem ve.xp {P:Program}{Γ:aQ}{KP:PK}{σ:Operand->Option SV}{m:Mem}{nx:Nat}{o:Oper}{t:KL->VC}(h:ve P Γ σ m nx o t):ajI P Γ KP σ m nx o t:=fun K E w ρ h1 h2 h3 h4 h5=>(h K E w ρ h1 h2 h3 h4 h5).xp
def PX:TypeDesc->Bool
 | .pointer _=>true
 | _=>false
def Pz (P:Program)(t:TypeId)(v:SV)(name:String):Option (FuncId×SV) :=
 match P.info? t with
 | some i=>(match i.methods.find? (·.name==name)with
   | some mt=>(match mt.func,mt.path.toList with
     | some (g,p),[]=>(match P.underlying t with
       | some d=>if PX d=p then some (g,v)else none
       | none=>none)
     | some (g,p),[s]=>(match s.deref,P.underlying s.struct,v with
       | false,some (.struct fs),.agg cs=>(match fs[s.index]? with
         | some f=>(match partOf P f.type cs f.offset,P.underlying f.type with
           | some u,some d=>if PX d=p then some (g,u)else none
           | _,_=>none)
         | none=>none)
       | _,_,_=>none)
     | _,_=>none)
   | none=>none)
 | none=>none
def FP (P:Program)(call:sr->PT)(σ:Operand->Option SV)(c:Call)(m:Mem)(nx:Nat)(K:KL):VC :=
 match c.callee,RW σ c.args.toList with
 | .value f,some args=>(match σ f with
   | some (.func (.func g) first captured)=>call (.fn g) (first++args++captured) m nx (fun v m nx=>K (some v) m nx)
   | some (.yield key)=>call (.yield key) args m nx (fun v m nx=>K (some v) m nx)
   | _=>.fail "call: of what")
 | .invoke r name,some args=>(match σ r with
   | some (.iface t v)=>(match Pz P t v name with
     | some (g,u)=>(match u.wf nx with
       | true=>call (.fn g) (u::args) m nx (fun v m nx=>K (some v) m nx)
       | false=>.fail "call: receiver")
     | none=>.fail "call: no such method")
   | _=>.fail "call: of what")
 | .builtin .append,some [x,y]=>Ct P c.argTypes x y m nx K
 | .builtin .copy,some [x,y]=>YY P c.argTypes x y m nx K
 | .builtin .delete,some [x,y]=>zl P c.argTypes x y m nx K
 | _,_=>.fail "call"
theorem aV.Qx {K:KL}{Γ:aQ}{E:Nat->Nat}{r:Value}{w:World}(h:aV (lift fun v m nx=>K (some v) m nx) Γ E nx r w):aV K Γ E nx r w:=by
 obtain⟨E',sv,m',nx',h1,h2,h3,h4,h5⟩:=h;cases sv with
 | none=>exact h5.elim
 | some v=>exact⟨E',some v,m',nx',h1,h2,h3,h4,h5⟩
def EB (call:sr->PT)(x:Option SV)(m:Mem)(nx:Nat):VC :=
 match x with
 | some (.iface t v)=>call .panic [.iface t v] m nx (fun _ _ _=>.fail "a panic")
 | _=>.fail "a panic of what"
theorem abT {KP:PK}{call:sr->PT}(hcall: ∀ c,qO P Γ KP c (call c)){dst:Option Tmp}{type:TypeId}{pos:String}{after:Array Edge}{guard:Option (Nat×Bool)}{x:Operand} :
  ajI P Γ KP σ m nx ⟨dst,.panic x,type,pos,after,guard⟩ (fun _=>EB call (σ x) m nx):=by
 intro K E w ρ h hs hw hσ hr;unfold EB at h;split at h
 ·rename_i t v hx;have hv:=hσ _ _ hx;have:=hcall .panic Γ Γ.le_refl [.iface t v] m nx _ h hw (by simp only[SV.gM,hv,Bool.and_self]) E w hs;have hrun:(execOp ρ ⟨dst,.panic x,type,pos,after,guard⟩).run P w=((sr.panic).sem E (SV.vals E [.iface t v]).toArray).run P w:=by simp only[execOp,hr x _ hx,sr.sem,SV.vals];rfl
  rw[hrun];refine this.mono (fun r w' hh=> ?_) (fun _ _ h=>h);obtain⟨E',sv,m',nx',h1,h2,h3,h4,h5⟩:=hh;cases sv<;>exact h5.elim
 ·exact h.elim
theorem Pv {nx:Nat}{σ:Operand->Option SV}(hσ:WfS nx σ): ∀ {xs:List Operand} {l:List SV},RW σ xs=some l->SV.gM nx l=true
 | [],l,h=>by simp[RW] at h;subst h;rfl
 | x::r,l,h=>by
   simp only[RW] at h;split at h
   ·rename_i v l' hv hl;injection h with h;subst h;simp only[SV.gM,Bool.and_eq_true];exact⟨hσ x v hv,Pv hσ hl⟩
   ·cases h
theorem R6 {E:Nat->Nat}{w:World}{t:TypeId}{v u:SV}{name:String}{g:FuncId}(h:Pz P t v name=some (g,u))(fuel:Nat) :
  (method (fuel+1) t (v.val E) name).run P w=.ok (g,u.val E) w:=by
 unfold Pz at h;split at h
 ·rename_i i hi;split at h
  ·rename_i mt hm;split at h
   ·rename_i g' p hfn hpl;split at h
    ·rename_i d hd;split at h
     ·rename_i hp;injection h with h;injection h with e1 e2;subst e1;subst e2;simp only[method,Sem.run_bind,nQ hi,Result.andThen_ok,hm,hpl,follow,Sem.run_pure,hfn];cases d<;>simp only[PX] at hp<;>subst hp<;>simp only[receiverAt,Sem.run_bind,az hd,Result.andThen_ok,Place.get,Sem.run_pure]
     ·cases h
    ·cases h
   ·rename_i g' p s hfn hpl;split at h
    ·rename_i fs cs hder hst;split at h
     ·rename_i f hf;split at h
      ·rename_i u' d hu hd;split at h
       ·rename_i hp;injection h with h;injection h with e1 e2;subst e1;subst e2;simp only[method,Sem.run_bind,nQ hi,Result.andThen_ok,hm,hpl,follow,az hst,hf,hder,Bool.false_eq_true,if_false,SV.val,kq hu,Sem.run_pure,hfn];cases d<;>simp only[PX] at hp<;>subst hp<;>simp only[receiverAt,Sem.run_bind,az hd,Result.andThen_ok,Place.get,Sem.run_pure]
       ·cases h
      ·cases h
     ·cases h
    ·cases h
   ·cases h
  ·cases h
 ·cases h
theorem p8 (E:Nat->Nat)(a b:List SV):SV.vals E (a++b)=SV.vals E a++SV.vals E b:=by simp[SV.bA]
theorem afw {KP:PK}{call:sr->PT}(hcall: ∀ c,qO P Γ KP c (call c)){dst:Option Tmp}{type:TypeId}{pos:String}{after:Array Edge}{guard:Option (Nat×Bool)}{c:Call} :
  ajI P Γ KP σ m nx ⟨dst,.call c,type,pos,after,guard⟩ (FP P call σ c m nx):=by
 intro K E w ρ h hs hw hσ hr;obtain⟨callee,args,ats⟩:=c;unfold FP at h;split at h
 ·rename_i f avs hca hargs;simp only at hca;subst hca;split at h
  ·rename_i g first captured hf
   have hfw:=hσ _ _ hf;simp only[SV.wf,Bool.and_eq_true] at hfw;have:=hcall (.fn g) Γ Γ.le_refl (first++avs++captured) m nx _ h hw (ga (ga hfw.1 (Pv hσ hargs)) hfw.2) E w hs
   have hrun:(execOp ρ ⟨dst,.call ⟨.value f,args,ats⟩,type,pos,after,guard⟩).run P w=(callFunc g (SV.vals E (first++avs++captured)).toArray).run P w:=by simp only[execOp,resolve,hr _ _ hf,SV.val,Deferred.ofValue,Sem.run_bind,Sem.run_pure,Result.andThen_ok,invoke];rw[sG hr hargs,p8,p8];simp
   rw[hrun];exact this.mono (fun r w' h=>h.Qx) (fun _ _ h=>h)
  ·rename_i key hf;have:=hcall (.yield key) Γ Γ.le_refl avs m nx _ h hw (Pv hσ hargs) E w hs;have hrun:(execOp ρ ⟨dst,.call ⟨.value f,args,ats⟩,type,pos,after,guard⟩).run P w=(Instr.yield (E key) (SV.vals E avs).toArray).run P w:=by simp only[execOp,resolve,hr _ _ hf,SV.val,Deferred.ofValue,Sem.run_bind,Sem.run_pure,Result.andThen_ok,invoke];rw[sG hr hargs];simp
   rw[hrun];exact this.mono (fun r w' h=>h.Qx) (fun _ _ h=>h)
  ·exact h.elim
 ·rename_i r name avs hca hargs;simp only at hca;subst hca;split at h
  ·rename_i t v hrv;split at h
   ·rename_i g u hm;split at h
    ·rename_i huw;have:=hcall (.fn g) Γ Γ.le_refl (u::avs) m nx _ h hw (by simp only[SV.gM,Bool.and_eq_true];exact⟨huw,Pv hσ hargs⟩) E w hs;have hrun:(execOp ρ ⟨dst,.call ⟨.invoke r name,args,ats⟩,type,pos,after,guard⟩).run P w=(callFunc g (SV.vals E (u::avs)).toArray).run P w:=by
      simp only[execOp,resolve,hr _ _ hrv,SV.val,Sem.run_bind,Sem.run_pure,Result.andThen_ok,invoke];rw[sG hr hargs];simp only[Array.getElem?_append_left,List.size_toArray,List.length_singleton,Nat.lt_one_iff,List.getElem?_toArray,List.getElem?_cons_zero,callMethod,Sem.run_bind,run_program,Result.andThen_ok];have hfm:=R6 (E:=E) (w:=w) hm (P.types.size+Made.depth - 1);have hpos:0<Made.depth:=by decide
      rw[show P.types.size+Made.depth - 1+1=P.types.size+Made.depth by omega] at hfm;rw[hfm];simp only[Result.andThen_ok];congr 2;simp[SV.vals]
     rw[hrun];exact this.mono (fun r w' h=>h.Qx) (fun _ _ h=>h)
    ·exact h.elim
   ·exact h.elim
  ·exact h.elim
 ·rename_i x y hca hargs;simp only at hca;subst hca;obtain⟨r,w',hrun,haft⟩:=SA (P:=P) (ty:=type) h hs hw;rw[BigFrame.execOp_builtin,BigFrame.builtin_append,sG hr hargs];simp only[SV.vals,Sem.run_bind];rw[hrun];exact haft
 ·rename_i x y hca hargs;simp only at hca;subst hca;obtain⟨r,w',hrun,haft⟩:=afx (P:=P) (ty:=type) h hs;rw[BigFrame.execOp_builtin,BigFrame.builtin_copy,sG hr hargs];simp only[SV.vals,Sem.run_bind];rw[hrun];exact haft
 ·rename_i x y hca hargs;simp only at hca;subst hca;obtain⟨r,w',hrun,haft⟩:=Wu (P:=P) (ty:=type) h hs;rw[BigFrame.execOp_builtin,BigFrame.builtin_delete,sG hr hargs];simp only[SV.vals,Sem.run_bind];rw[hrun];exact haft
 ·exact h.elim
end
end
end Go.Proofs.YtpaaiebohjjieaaGreatDoor.Sx
