/-
  The framework's part 11a: maps: making, writing, deleting, ranging.
-/
import Derived.Test.YtoibaecagklkaaaGreatDoorMd
import Derived.Test.YtoibaecagklkaaaGreatDoorMc
import Derived.Test.YtoibaecagklkaaaGreatDoorMe
open Bool renaming and_eq_true->R,false->H,false_eq_true->bl,true->I
open Decidable renaming decide->L
open Go.BigFrame renaming execOp_builtin->aK
open Go.Instr renaming entryStore->aS,findKey->S,findNow->O,keyThatStays->bn,mapEntry->Y,mapUpdate->T,sameBits->b5,yield->b6
open Go.Made renaming depth->Z
open Go.MapKept renaming run_checkKey->V,run_getObj_map->M,run_keyThatStays->b9,run_setObj_map->J
open Go.Result renaming andThen_ok->C
open Go.Sem renaming run_bind->D,run_pure->F
open Go.Value renaming int->N
open List renaming ext_getElem?->b_,findIdx?->b!,findIdx?_cons->cm,getElem?_append_left->cx,getElem?_cons_succ->a_,getElem?_cons_zero->a!,getElem?_eq_getElem->ag,getElem?_eq_some_iff->cB,getElem?_map->W,getElem?_modify->cH,getElem?_toArray->an,length_cons->cL,map_cons->c4
open Nat renaming add_mul->c5,le_refl->X,sub_self->c6,zero_add->bh
open Option renaming getD_some->aA,map_none->c_,map_some->Q,none->G,some->A
namespace Go.Proofs.YtoibaecagklkaaaGreatDoor
open Go Sx
variable {after:Array Edge}{K:KL}{i key:Nat}{E:Nat->Nat}{k v x:Operand}{ρ:Operand->Value}{guard:Option (Nat×Bool)}{dst:Option Tmp}{KP:PK}{P:Program}{pos:String}{d:TypeDesc}{t type:TypeId}{r:Value}{w:World}{Γ:bg}
namespace Sx
open Go
noncomputable section
section
variable {P : Program} {Γ : bg} {σ : Operand -> Option SV} {m : Mem} {nx : Nat}
theorem bF.Z8 (hs:aO Γ E m nx w)(hw:Mem.wf nx m=I){B:SB}{o:Obj}{sv:Option SV}(hB:bS E B o)(hBw:B.wf nx=I)
  (hr: ∀ v,sv=A v->r=v.val (λk=>if k=nx then w.heap.size else E k)) (h:(K sv ((nx,B)::m) (nx+1)).holds) :
  bF K Γ E nx r {w with heap:=w.heap.push o}:=by
 have hE: ∀ k,k<nx->(λk=>if k=nx then w.heap.size else E k) k=E k:=λk hk=>by simp[Nat.ne_of_lt hk]
 exact⟨_,sv,_,_,hE,Nat.le_succ _,hr,hs.alloc hw (hB.congr hE hBw),h⟩
theorem bF.iG (hs:aO Γ E m nx w){B B':SB}{o:Obj}(hk:m.get key=A B)(hn:B.no=H)(hro:B.ro=H)(hB:bS E B' o)(hro':B'.ro=H)
  {sv:Option SV}  (hr: ∀ v,sv=A v->r=v.val E) (h:(K sv (m.put key B') nx).holds):bF K Γ E nx r {w with heap:=w.heap.setIfInBounds (E key) o} :=
 ⟨E,sv,_,_,λ_ _=>rfl,X _,hr,hs.write hk hn hro hB hro',h⟩
def vp (P:Program)(t:TypeId)(hint:Option (Option SV))(m:Mem)(nx:Nat)(K:KL):VC :=
 match hint with
 | none=>K (A (.map nx)) ((nx,.map [] 0)::m) (nx+1)
 | some (A (.int ..))=>(match P.underlying t with
   | some (.map ..)=>K (A (.map nx)) ((nx,.map [] 0)::m) (nx+1)
   | _=>.fail "make: no map")
 | _=>.fail "make: how many"
theorem Ih {r:Option Operand} :
  pX P Γ σ m nx ⟨dst,.makeMap t r,type,pos,after,guard⟩ (vp P t (r.map σ) m nx):=by
 intro K E w ρ h hs hw hσ hr;have fin:(K (A (.map nx)) ((nx,.map [] 0)::m) (nx+1)).holds->Out P (bF K Γ E nx) (.ok (.value (.map (A w.heap.size))) {w with heap:=w.heap.push (.map #[] 0)}):=λh=>by exact bF.Z8 hs hw (B:=.map [] 0) (o:=.map #[] 0) rfl rfl (λv hv=>by injection hv with hv;subst hv;simp[SV.val]) h
 cases r with
 | none =>have h:(K (A (.map nx)) ((nx,.map [] 0)::m) (nx+1)).holds:=h;exact fin h
 | some x =>
   simp only[vp,Q] at h;split at h
   ·rename_i e;cases e
   ·rename_i k l n hx;injection hx with hx;split at h
    ·rename_i kt et ht;have hrun:(execOp ρ ⟨dst,.makeMap t (A x),type,pos,after,guard⟩).run P w=.ok (.value (.map (A w.heap.size))) {w with heap:=w.heap.push (.map #[] 0)}:=by simp only[execOp,Instr.makeMap,Q,D,aL ht,C,hr x _ hx,SV.val,asInt,asIntOf,F,run_newObj]
     rw[hrun];exact fin h
    ·exact h.elim
   ·exact h.elim
def oa:List (Nat×SV×SV)->Nat->SV->SV->List (Nat×SV×SV)
 | [],_,_,_=>[]
 | e::r,0,k,v=>(e.1,k,v)::r
 | e::r,i+1,k,v=>e::oa r i k v
def uH (es:List (Nat×SV×SV))(e:Nat×SV×SV):List (Nat×SV×SV):=match es with
 | []=>[e]
 | x::r=>x::uH r e
theorem uW (E:Nat->Nat)(k v:SV): ∀(es:List (Nat×SV×SV)) (i:Nat),ee E (oa es i k v)=(ee E es).modify i λe=>{e with key:=k.val E,val:=v.val E}
 | [],i=>by cases i<;>rfl
 | e::r,0=>rfl
 | e::r,i+1=>by have:=uW E k v r i;simp only[ee,c4,oa,List.modify_succ_cons] at this ⊢;rw[this]
theorem Am (E:Nat->Nat)(e:Nat×SV×SV): ∀(es:List (Nat×SV×SV)),ee E (uH es e)=ee E es++[{key:=e.2.1.val E,val:=e.2.2.val E,born:=e.1}]
 | []=>rfl
 | x::r=>by have:=Am E e r;simp only[ee,c4,uH,List.cons_append] at this ⊢;rw[this]
theorem tf {l:List MapEntry}{f:MapEntry->MapEntry}:l.toArray.modify i f=(l.modify i f).toArray:=by apply Array.ext';simp[]
theorem Cv {k:SV}(h:tH d k=I)(E:Nat->Nat)(n:Nat):b5 n (k.val E) (k.val E)=true:=by
 unfold tH at h;split at h<;>first | cases h;done | skip
 all_goals cases n<;>simp[SV.val,b5,(MapKept.bytes_beq _ _).2 rfl]
def pO (P:Program)(t:TypeId)(x k:Option SV)(m:Mem)(f:TypeDesc->SV->Nat->List (Nat×SV×SV)->Nat->SV->VC):VC :=
 match P.underlying t,x,k with
 | some (.map kt et),A (.map key),A kv=>(match P.underlying kt,fX P et,m.get key with
   | some d,A z,A (.map es clock)=>(match tH d kv with
     | true=>f d kv key es clock z
     | false=>.fail "map: another kind of key")
   | _,_,_=>.fail "map: no map")
 | _,_,_=>.fail "map: no map"
theorem zf {x k:Option SV}{f:TypeDesc->SV->Nat->List (Nat×SV×SV)->Nat->SV->VC}(h:(pO P t x k m f).holds) :
  ∃ kt et d z kv key es clock,P.underlying t=A (.map kt et)/\P.underlying kt=A d/\fX P et=A z/\x=A (.map key)/\k=A kv/\m.get key=A (.map es clock)/\tH d kv=I/\(f d kv key es clock z).holds:=by
 unfold pO at h;split at h
 ·rename_i kt et key kv ht;split at h
  ·rename_i d z es clock hd hz hm;split at h
   ·rename_i hk;exact⟨kt,et,d,z,kv,key,es,clock,ht,hd,hz,rfl,rfl,hm,hk,h⟩
   ·exact h.elim
  ·exact h.elim
 ·exact h.elim
def wU (x:Option SV)(m:Mem):Option (Nat×(e_->Bool)×bL×Option (e_×Int)):=match x with
 | some (.map key)=>(match m.get key with
   | some (.fmap f c p)=>A (key,f,c,p)
   | _=>G)
 | _=>G
theorem oN {x:Option SV}{r}(h:wU x m=A r):x=A (.map r.1)/\m.get r.1=A (.fmap r.2.1 r.2.2.1 r.2.2.2):=by
 unfold wU at h;split at h
 ·rename_i key;split at h
  ·rename_i hm;injection h with h;subst h;exact⟨rfl,hm⟩
  ·cases h
 ·cases h
def iL (P:Program)(t:TypeId)(key:Nat)(f:e_->Bool)(c:bL)(k v:Option SV)(m:Mem)(nx:Nat)(K:KL):VC :=
 match P.underlying t,k,v with
 | some (.map kt _),A (.str _ s),A u=>(match P.underlying kt,c.set s u with
   | some .string,A c'=>K G (m.put key (.fmap (mA f s) c' G)) nx
   | _,_=>.fail "map: a value")
 | _,_,_=>.fail "map: a key"
theorem sS {f c p}{k v:Option SV}(hm:m.get key=A (.fmap f c p))(h:(iL P t key f c k v m nx K).holds)(hs:aO Γ E m nx w) :
  ∃ kv u w',k=A kv/\v=A u/\(T t (.map (A (E key))) (kv.val E) (u.val E)).run P w=.ok () w'/\bF K Γ E nx undef w':=by
 unfold iL at h;split at h
 ·rename_i kt et l s u ht;split at h
  ·rename_i c' hd hc';obtain⟨ob,hob,es,clock,rfl,hfm⟩:=hs.ny key _ hm rfl;have hsv:=bL.GC hc' E;rcases hfm.find s with ⟨h1,h2,h3⟩ | ⟨h1,j,e,h2,h3,h4,h5⟩
   ·have h2':O .string (.string ⟨s.toArray⟩) es.toList 0=_:=h2;refine⟨_,_,_,rfl,rfl,?_,bF.iG hs hm rfl rfl (B':=.fmap (mA f s) c' G) ⟨_,_,rfl,hfm.add hsv h3 (λ_ _ h=>by cases h)⟩ rfl (sv:=G) (λv hv=>by cases hv) h⟩;simp only[SV.val,T,D,aL ht,C,M hob,V (k:=.string ⟨s.toArray⟩) hd trivial H 9999,S,aL hd,h2',F,J _ hob,mC]
   ·have h2':O .string (.string ⟨s.toArray⟩) es.toList 0=_:=h2;have h4':e.key=.string ⟨s.toArray⟩:=h4;refine⟨_,_,_,rfl,rfl,?_,bF.iG hs hm rfl rfl (B':=.fmap (mA f s) c' G) ⟨_,_,rfl,hfm.put (f:=λe=>{e with key:=mC s,val:=u.val E}) hsv h3 h4 ⟨rfl,rfl,rfl⟩ (λ_=>rfl) h1 (λ_ _ h=>by cases h)⟩ rfl (sv:=G) (λv hv=>by cases hv) h⟩;simp only[SV.val,T,D,aL ht,C,M hob,V (k:=.string ⟨s.toArray⟩) hd trivial H 9999,S,aL hd,h2',F,h3,Q,aA,h4',b9 (k:=.string ⟨s.toArray⟩) (d:=.string) trivial,J _ hob,mC]
  ·exact h.elim
 ·exact h.elim
def rJ (P:Program)(t:TypeId)(key:Nat)(f:e_->Bool)(c:bL)(k:Option SV)(m:Mem)(nx:Nat)(K:KL):VC :=
 match P.underlying t,k with
 | some (.map kt et),A (.str _ s)=>(match P.underlying kt,fX P et with
   | some .string,A z=>(match c.look (f s) s z with
     | some v=>(match c.set s v with
       | some c'=>.all Int λb=>K (A (.aD [v,.int .i64 H b])) (m.put key (.fmap (mA f s) c' (A (s,b)))) nx
       | none=>.fail "map: a value")
     | none=>.fail "map: a value")
   | _,_=>.fail "map: a key")
 | _,_=>.fail "map: a key"
theorem Ff {f c p}{k:Option SV}(hm:m.get key=A (.fmap f c p))(h:(rJ P t key f c k m nx K).holds)(hs:aO Γ E m nx w) :
  ∃ kv r w',k=A kv/\(Y t (.map (A (E key))) (kv.val E)).run P w=.ok r w'/\bF K Γ E nx r w':=by
 unfold rJ at h;split at h
 ·rename_i kt et l s ht;split at h
  ·rename_i z hd hz;split at h
   ·rename_i v hv;split at h
    ·rename_i c' hc';obtain⟨ob,hob,es,clock,rfl,hfm⟩:=hs.ny key _ hm rfl;have hsv:=bL.GC hc' E;have hlv:=bL.Ik hv E;rcases hfm.find s with ⟨h1,h2,h3⟩ | ⟨h1,j,e,h2,h3,h4,h5⟩
     ·have h2':O .string (.string ⟨s.toArray⟩) es.toList 0=_:=h2;rw[h1,if_neg (by simp)] at hlv;refine⟨_,_,_,rfl,?_,bF.iG hs hm rfl rfl (B':=.fmap (mA f s) c' (A (s,(clock:Int)))) ⟨_,_,rfl,hfm.add hsv h3 (λt b h=>by injection h with h;injection h with h1 h2;exact⟨h1.symm,h2⟩)⟩ rfl (sv:=A (.aD [v,.int .i64 H clock])) (λv hv=>by injection hv with hv;subst hv;rfl) (h clock)⟩;simp only[SV.val,SV.vals,Y,D,aL ht,C,M hob,V (k:=.string ⟨s.toArray⟩) hd trivial H 9999,S,aL hd,h2',F,dG (E:=E) hz,J _ hob,mC,goInt,hlv]
     ·have h2':O .string (.string ⟨s.toArray⟩) es.toList 0=_:=h2;have h4':e.key=.string ⟨s.toArray⟩:=h4;rw[h1,if_pos rfl] at hlv;refine⟨_,_,_,rfl,?_,bF.iG hs hm rfl rfl (B':=.fmap (mA f s) c' (A (s,(e.born:Int)))) ⟨_,_,rfl,hfm.put (f:=λe=>{e with key:=mC s}) hsv h3 h4 ⟨rfl,by show e.val=_;rw[h5,hlv],rfl⟩ (λ_=>rfl) h1 (λt b h=>by injection h with h;injection h with h1 h2;exact⟨h1.symm,h2⟩)⟩ rfl (sv:=A (.aD [v,.int .i64 H e.born])) (λv hv=>by injection hv with hv;subst hv;rfl) (h e.born)⟩;simp only[SV.val,SV.vals,Y,D,aL ht,C,M hob,V (k:=.string ⟨s.toArray⟩) hd trivial H 9999,S,aL hd,h2',F,h3,Q,aA,h4',b9 (k:=.string ⟨s.toArray⟩) (d:=.string) trivial,J _ hob,mC,goInt,hlv]
    ·exact h.elim
   ·exact h.elim
  ·exact h.elim
 ·exact h.elim
def rK (key:Nat)(f:e_->Bool)(c:bL)(p:Option (e_×Int))(s v:Option SV)(m:Mem)(nx:Nat)(K:KL):VC :=
 match p,s,v with
 | some (t,b'),A (.int _ _ b),A u=>(match c.set t u with
   | some c'=>.and (jG b b') (K G (m.put key (.fmap (mA f t) c' G)) nx)
   | none=>.fail "map: a value")
 | _,_,_=>.fail "map: no such entry"
theorem Fg {mt:TypeId}{f c p}{s v:Option SV}(hm:m.get key=A (.fmap f c p))(h:(rK key f c p s v m nx K).holds)(hs:aO Γ E m nx w) :
  ∃ sv u w',s=A sv/\v=A u/\(aS mt (.map (A (E key))) (sv.val E) (u.val E)).run P w=.ok () w'/\bF K Γ E nx undef w':=by
 unfold rK at h;split at h
 ·rename_i t b' ik il b u;split at h
  ·rename_i c' hc';obtain⟨hb,h⟩:=h;have hb:b=b':=hb;subst hb;obtain⟨ob,hob,es,clock,rfl,hfm⟩:=hs.ny key _ hm rfl;have hsv:=bL.GC hc' E;obtain⟨e,he,hborn,hkey⟩:=hfm.pd t b rfl;have hd:f t=true:=by
    cases hf:f t with
    | true=>rfl
    | false=>exact absurd hkey (hfm.no t hf e he)
   obtain⟨i,hi⟩: ∃ i,es.findIdx? (λe=>(e.born:Int)==b)=A i:=by
    cases hf:es.findIdx? (λe=>(e.born:Int)==b)with
    | some i=>exact⟨i,rfl⟩
    | none =>rw[Array.findIdx?_eq_none_iff] at hf;have:=hf e (by simpa using he);simp[hborn] at this
   have hie:es[i]?=A e:=by
    have h0:=Array.findIdx?_eq_some_iff_getElem.1 hi;obtain⟨hlt,hp,_⟩:=h0;have hmem:es[i]∈ es.toList:=by simp
    have:=GM hfm.st.2.1 hmem he (by
     have:((es[i]).born:Int)=b:=by simpa using hp
     omega)
    rw[Array.getElem?_eq_getElem hlt,this]
   refine⟨_,_,_,rfl,rfl,?_,bF.iG hs hm rfl rfl (B':=.fmap (mA f t) c' G) ⟨_,_,rfl,hfm.put (f:=λe=>{e with val:=u.val E}) hsv hie hkey ⟨hkey,rfl,rfl⟩ (λ_=>rfl) hd (λ_ _ h=>by cases h)⟩ rfl (sv:=G) (λv hv=>by cases hv) h⟩;simp only[SV.val,aS,D,M hob,C,asInt,asIntOf,F,hi,J _ hob]
  ·exact h.elim
 ·exact h.elim
def Vt:List SV->List aE->List Gh
 | .bx kr _ _ _ _ _::r,.fc kB _ _ _ _ _::q=>.name kr 0::.merge kB kr::Vt r q
 | _::r,_::q=>Vt r q
 | _,_=>[]
def TV:List aE->Nat
 | .fc kB _ _ _ _ _::_=>kB
 | _::q=>TV q
 | []=>0
def ac7 (c:bL)(m:Mem)(v:Option SV):List Gh:=match c,v with
 | .ref kF _,A (.ptr kp I 0)=>(match m.get kp,m.get kF with
   | some (.cells cs _ _),A (.tq _ ds _ _ _)=>Vt cs ds++[.name kp (TV ds),.merge kF kp]
   | _,_=>[])
 | _,_=>[]
def jH (P:Program)(t:TypeId)(x k v:Option SV)(m:Mem)(nx:Nat)(K:KL):VC :=
 pO P t x k m λd kv key es clock _=>match v with
  | some u=>gA d kv (λr=>match r with
    | some (i,_)=>K G (m.put key (.map (oa es i kv u) clock)) nx
    | none=>K G (m.put key (.map (uH es (clock,kv,u)) (clock+1))) nx) es 0
  | none=>.fail "map: a value that is not known"
def gI (P:Program)(t:TypeId)(x k v:Option SV)(m:Mem)(nx:Nat)(K:KL):VC:=match wU x m with
 | some (key,f,c,_)=>(match ac7 c m v with
   | []=>iL P t key f c k v m nx K
   | l=>RK l [v] m λvs m'=>match vs,wU x m' with
     | [v'],A (key',f',c',_)=>iL P t key' f' c' k v' m' nx K
     | _,_=>.fail "map: a value")
 | none=>jH P t x k v m nx K
theorem HT {k:SV}(h:tH d k=I){old:Value}(he:old=k.val E):(bn old (k.val E)).run P w=.ok (k.val E) w:=by subst he;simp[bn,Cv h]
theorem Hv {es:List (Nat×SV×SV)}{e:Nat×SV×SV}(h:es[i]?=A e):(ee E es).toArray[i]?=A {key:=e.2.1.val E,val:=e.2.2.val E,born:=e.1}:=by simp[ee,W,h]
theorem Cn {kt et:TypeId}{kv u:SV}{es:List (Nat×SV×SV)}{clock:Nat}{r:Xa}(ht:P.underlying t=A (.map kt et))(hd:P.underlying kt=A d)(hkd:tH d kv=I)
  (ho:w.heap[E key]?=A (.map (ee E es).toArray clock)) (hf:O d (kv.val E) (ee E es) 0=A (r.map λx=>(x.1,x.2.2.2.val E))) (hg: ∀ j e,r=A (j,e)->es[j]?=A e/\e.2.1.val E=kv.val E) :
  (T t (.map (A (E key))) (kv.val E) (u.val E)).run P w=.ok () {w with heap:=w.heap.setIfInBounds (E key) (match r with
    | some (i,_)=>.map (ee E (oa es i kv u)).toArray clock
    | none=>.map (ee E (uH es (clock,kv,u))).toArray (clock+1))}:=by
 have hf':O d (kv.val E) (ee E es).toArray.toList 0=_:=hf;simp only[T,D,aL ht,C,M ho,V hd (rU hkd E) H 9999,S,aL hd,hf',F];cases r with
 | none =>simp only[c_,J _ ho,Am];simp
 | some q =>obtain⟨i,e⟩:=q;obtain⟨g1,g2⟩:=hg i e rfl;simp only[Q,Hv g1,aA,D,HT hkd g2,C,J _ ho,uW,tf]
theorem Cl (h:(jH P t (σ x) (σ k) (σ v) m nx K).holds)(hs:aO Γ E m nx w)(hr:Reads E σ ρ):Out P (bF K Γ E nx) ((execOp ρ ⟨dst,.mapUpdate t x k v,type,pos,after,guard⟩).run P w):=by
 unfold jH at h;obtain⟨kt,et,d,z,kv,key,es,clock,ht,hd,hz,hx,hk,hm,hkd,h⟩:=zf h;split at h
 ·rename_i u hv;obtain⟨obl,r,h1,h2⟩:=mS hkd es 0;obtain⟨ho,h⟩:=(h1 _).1 h;obtain⟨f1,f2⟩:=h2 ho;obtain⟨ob,hob,hb⟩:=hs.ny key _ hm rfl;have hb:ob=.map (ee E es).toArray clock:=hb;subst hb;have hrun:=Cn (P:=P) (u:=u) ht hd hkd hob (f1 E) (λj e e'=>by obtain⟨_,g2,g3⟩:=f2 j e e';exact⟨by simpa using g2,g3 E⟩);have hex:(execOp ρ ⟨dst,.mapUpdate t x k v,type,pos,after,guard⟩).run P w=(do T t (.map (A (E key))) (kv.val E) (u.val E);pure .skip:Sem Next).run P w:=by simp only[execOp,hr x _ hx,hr k _ hk,hr v _ hv,SV.val]
  rw[hex,D,hrun];simp only[C,F,Out];cases r with
  | none=>exact bF.iG hs hm rfl rfl (B':=.map (uH es (clock,kv,u)) (clock+1)) rfl rfl (λv hv=>by cases hv) h
  | some q=>exact bF.iG hs hm rfl rfl (B':=.map (oa es q.1 kv u) clock) rfl rfl (λv hv=>by cases hv) h
 ·exact h.elim
theorem sX  :
  pX P Γ σ m nx ⟨dst,.mapUpdate t x k v,type,pos,after,guard⟩ (gI P t (σ x) (σ k) (σ v) m nx):=by
 intro K E w ρ h hs hw hσ hr;unfold gI at h;split at h
 ·rename_i hf;obtain⟨hx,hm⟩:=oN hf;split at h
  rotate_left
  ·obtain⟨tm,m',htold,hsm,h⟩:=nL h hs;split at h
   ·rename_i v' key' f' c' p' hf';obtain⟨hx',hm'⟩:=oN hf';obtain⟨kv,u,w',hk,hv,hrun,haft⟩:=sS hm' h hsm;subst hv;obtain⟨v0,q1,q2,_⟩:=htold.get 0 u rfl;have q1:σ v=A v0:=by simpa using q1
    have hex:(execOp ρ ⟨dst,.mapUpdate t x k v,type,pos,after,guard⟩).run P w=.ok .skip w':=by simp only[execOp,hr x _ hx',hr k _ hk,hr v _ q1,SV.val,D,← q2,hrun,C,F]
    rw[hex];exact haft
   ·exact h.elim
  obtain⟨kv,u,w',hk,hv,hrun,haft⟩:=sS hm h hs;have hex:(execOp ρ ⟨dst,.mapUpdate t x k v,type,pos,after,guard⟩).run P w=.ok .skip w':=by simp only[execOp,hr x _ hx,hr k _ hk,hr v _ hv,SV.val,D,hrun,C,F]
  rw[hex];exact haft
 exact Cl h hs hr
theorem Ln  :
  pX P Γ σ m nx ⟨dst,.insert t x k v,type,pos,after,guard⟩ (gI P t (σ x) (σ k) (σ v) m nx) :=
 λK E w ρ h hs hw hσ hr=>sX (dst:=dst) (type:=type) (pos:=pos) (after:=after) (guard:=guard) K E w ρ h hs hw hσ hr
def lG (P:Program)(t:TypeId)(x k:Option SV)(m:Mem)(nx:Nat)(K:KL):VC :=
 pO P t x k m λd kv key es clock z=>gA d kv (λr=>match r with
   | some (i,e)=>K (A (.aD [e.2.2,.int .i64 I e.1])) (m.put key (.map (oa es i kv e.2.2) clock)) nx
   | none=>K (A (.aD [z,.int .i64 I clock])) (m.put key (.map (uH es (clock,kv,z)) (clock+1))) nx) es 0
def rZ (P:Program)(t:TypeId)(x k:Option SV)(m:Mem)(nx:Nat)(K:KL):VC:=match wU x m with
 | some (key,f,c,_)=>rJ P t key f c k m nx K
 | none=>lG P t x k m nx K
theorem FC (h:(lG P t (σ x) (σ k) m nx K).holds)(hs:aO Γ E m nx w)(hr:Reads E σ ρ):Out P (bF K Γ E nx) ((execOp ρ ⟨dst,.mapEntry t x k,type,pos,after,guard⟩).run P w):=by
 unfold lG at h;obtain⟨kt,et,d,z,kv,key,es,clock,ht,hd,hz,hx,hk,hm,hkd,h⟩:=zf h;obtain⟨obl,r,h1,h2⟩:=mS hkd es 0;obtain⟨ho,h⟩:=(h1 _).1 h;obtain⟨f1,f2⟩:=h2 ho;obtain⟨ob,hob,hb⟩:=hs.ny key _ hm rfl;have hb:ob=.map (ee E es).toArray clock:=hb;subst hb;have hf':O d (kv.val E) (ee E es).toArray.toList 0=_:=f1 E;simp only[execOp,Y,hr x _ hx,hr k _ hk,SV.val,D,aL ht,C,M hob,V hd (rU hkd E) H 9999,S,aL hd,hf',F];cases r with
 | none =>
   simp only[c_,D,dG (E:=E) hz,C,J _ hob,F,Out];have hpush:(ee E es).toArray.push {key:=kv.val E,val:=z.val E,born:=clock}=(ee E (uH es (clock,kv,z))).toArray:=by rw[Am];simp
   rw[hpush];exact bF.iG hs hm rfl rfl (B':=.map (uH es (clock,kv,z)) (clock+1)) rfl rfl (λv hv=>by injection hv with hv;subst hv;simp[SV.val,SV.vals,goInt]) h
 | some q =>
   obtain⟨i,e⟩:=q;obtain⟨_,g2,g3⟩:=f2 i e rfl;have g2:es[i]?=A e:=by simpa using g2
   simp only[Q,Hv g2,aA,D,HT hkd (g3 E),C,J _ hob,F,Out];have hset:((ee E es).toArray.modify i λe=>{e with key:=kv.val E})=(ee E (oa es i kv e.2.2)).toArray:=by
    rw[uW,tf];congr 1;have hl:(ee E es)[i]?=A {key:=e.2.1.val E,val:=e.2.2.val E,born:=e.1}:=by simp[ee,W,g2]
    apply b_;intro j;simp only[cH];by_cases hij:i=j
    ·subst hij;simp[hl]
    ·simp[hij]
   rw[hset];exact bF.iG hs hm rfl rfl (B':=.map (oa es i kv e.2.2) clock) rfl rfl (λv hv=>by injection hv with hv;subst hv;simp[SV.val,SV.vals,goInt]) h
theorem FT  :
  pX P Γ σ m nx ⟨dst,.mapEntry t x k,type,pos,after,guard⟩ (rZ P t (σ x) (σ k) m nx):=by
 intro K E w ρ h hs hw hσ hr;unfold rZ at h;split at h
 ·rename_i hf;obtain⟨hx,hm⟩:=oN hf;obtain⟨kv,r,w',hk,hrun,haft⟩:=Ff hm h hs;have hex:(execOp ρ ⟨dst,.mapEntry t x k,type,pos,after,guard⟩).run P w=.ok (.value r) w':=by simp only[execOp,hr x _ hx,hr k _ hk,SV.val,D,hrun,C,F]
  rw[hex];exact haft
 exact FC h hs hr
def zT (b:Int):List (Nat×SV×SV)->Nat->Option (Nat×SV)
 | [],_=>G
 | e::r,i=>match L (((e.1:Nat):Int)=b)with
   | true=>A (i,e.2.1)
   | false=>zT b r (i+1)
def iV (x s v:Option SV)(m:Mem)(nx:Nat)(K:KL):VC:=match x,s,v with
 | some (.map key),A (.int _ _ b),A u=>(match m.get key with
   | some (.map es clock)=>(match zT b es 0 with
     | some (i,k)=>K G (m.put key (.map (oa es i k u) clock)) nx
     | none=>.fail "map: no such entry")
   | _=>.fail "map: no map")
 | _,_,_=>.fail "map: entry"
def mQ (x s v:Option SV)(m:Mem)(nx:Nat)(K:KL):VC:=match wU x m with
 | some (key,f,c,p)=>rK key f c p s v m nx K
 | none=>iV x s v m nx K
theorem yZ {b:Int}: ∀ {es:List (Nat×SV×SV)} {i j:Nat} {k:SV},zT b es i=A (j,k)->i<=j/\(∃ e,es[j - i]?=A e/\e.2.1=k)/\∀ E,(ee E es).findIdx? (λe=>(e.born:Int)==b)=A (j - i)
 | [],_,_,_,h=>by cases h
 | e::r,i,j,k,h=>by
   simp only[zT] at h;split at h
   ·rename_i hb;injection h with h;injection h with h1 h2;subst h1;subst h2;refine⟨X _,⟨e,by simp,rfl⟩,λE=> ?_⟩;have hb:=of_decide_eq_true hb;show b! _ ({key:=e.2.1.val E,val:=e.2.2.val E,born:=e.1}::ee E r)=_;rw[cm];simp[hb]
   ·rename_i hb;obtain⟨g1,⟨e',g2,g3⟩,g4⟩:=yZ h;have hb:=of_decide_eq_false hb;refine⟨by omega,⟨e',?_,g3⟩,λE=> ?_⟩
    ·rw[show j - i=(j - (i+1))+1 by omega];simpa using g2
    ·show b! _ ({key:=e.2.1.val E,val:=e.2.2.val E,born:=e.1}::ee E r)=_;rw[cm,g4 E];have:(((e.1:Nat):Int)==b)=false:=by simpa using hb
     simp only[this];simp;omega
theorem AO {s:Operand}(h:(iV (σ x) (σ s) (σ v) m nx K).holds)(hs:aO Γ E m nx w)(hr:Reads E σ ρ):Out P (bF K Γ E nx) ((execOp ρ ⟨dst,.entryStore t x s v,type,pos,after,guard⟩).run P w):=by
 unfold iV at h;split at h
 ·rename_i key ik il b u hx hst hv;split at h
  ·rename_i es clock hm;split at h
   ·rename_i i k hi;obtain⟨_,⟨e,g2,g3⟩,g4⟩:=yZ hi;have g2:es[i]?=A e:=by simpa using g2
    obtain⟨ob,hob,hb⟩:=hs.ny key _ hm rfl;have hb:ob=.map (ee E es).toArray clock:=hb;subst hb;have hfi:(ee E es).toArray.findIdx? (λe=>(e.born:Int)==b)=A i:=by have:=g4 E;simpa using this
    have hset:((ee E es).toArray.modify i λe=>{e with val:=u.val E})=(ee E (oa es i k u)).toArray:=by
     rw[uW,tf];congr 1;have hl:(ee E es)[i]?=A {key:=e.2.1.val E,val:=e.2.2.val E,born:=e.1}:=by simp[ee,W,g2]
     apply b_;intro j;simp only[cH];by_cases hij:i=j
     ·subst hij;simp[hl,g3]
     ·simp[hij]
    have hrun:(execOp ρ ⟨dst,.entryStore t x s v,type,pos,after,guard⟩).run P w=.ok .skip {w with heap:=w.heap.setIfInBounds (E key) (.map (ee E (oa es i k u)).toArray clock)}:=by simp only[execOp,aS,hr x _ hx,hr s _ hst,hr v _ hv,SV.val,D,M hob,C,asInt,asIntOf,F,hfi,J _ hob,hset]
    rw[hrun];exact bF.iG hs hm rfl rfl (B':=.map (oa es i k u) clock) rfl rfl (λv hv=>by cases hv) h
   ·exact h.elim
  ·exact h.elim
 ·exact h.elim
theorem AZ {s:Operand} :
  pX P Γ σ m nx ⟨dst,.entryStore t x s v,type,pos,after,guard⟩ (mQ (σ x) (σ s) (σ v) m nx):=by
 intro K E w ρ h hs hw hσ hr;unfold mQ at h;split at h
 ·rename_i hf;obtain⟨hx,hm⟩:=oN hf;obtain⟨sv,u,w',hk,hv,hrun,haft⟩:=Fg (P:=P) (mt:=t) hm h hs;have hex:(execOp ρ ⟨dst,.entryStore t x s v,type,pos,after,guard⟩).run P w=.ok .skip w':=by simp only[execOp,hr x _ hx,hr s _ hk,hr v _ hv,SV.val,D,hrun,C,F]
  rw[hex];exact haft
 exact AO h hs hr
def zI (_P:Program)(_ats:Array TypeId)(_x _k:SV)(_m:Mem)(_nx:Nat)(_K:KL):VC:=.fail "delete"
theorem Ll {ats:Array TypeId}{ty:TypeId}{x k:SV}(h:(zI P ats x k m nx K).holds)(_hs:aO Γ E m nx w) :
  ∃ r w',(Builtin.delete_ ats ty #[x.val E,k.val E]).run P w=.ok r w'/\bF K Γ E nx r w':=h.elim
def FV (_P:Program)(_t:TypeId)(_x:Option SV)(_m:Mem)(_nx:Nat)(_K:KL):VC:=.fail "range"
theorem PY  :
  pX P Γ σ m nx ⟨dst,.range t x,type,pos,after,guard⟩ (FV P t (σ x) m nx):=λ_ _ _ _ h _ _ _ _=>h.elim
def NY (_x:Option SV)(_s:Bool)(_m:Mem)(_nx:Nat)(_K:KL):VC:=.fail "next"
theorem UD {b:Bool} :
  pX P Γ σ m nx ⟨dst,.next x b,type,pos,after,guard⟩ (NY (σ x) b m nx):=λ_ _ _ _ h _ _ _ _=>h.elim
end
section
variable {P : Program} {Γ : bg} {σ : Operand -> Option SV} {m : Mem} {nx : Nat}
def jv:List SV->List Int
 | .int .u8 _ n::r=>n::jv r
 | _=>[]
def JS:Nat->List SV->Option (Nat×List Int)
 | _,[]=>G
 | a,v::r=>match v with
   | .int .u8 _ n=>A (a,n::jv r)
   | _=>JS (a+1) r
theorem y7: ∀(cs:List SV) (j:Nat),j<(jv cs).length->∃ b,cs[j]?=A (.int .u8 b (zu (jv cs) j))
 | [],j,h=>by simp[jv] at h
 | v::r,j,h=>by
   unfold jv at h ⊢;split at h
   ·rename_i b n r' e;injection e with e1 e2;subst e1;subst e2;cases j with
    | zero=>exact⟨b,rfl⟩
    | succ j =>obtain⟨b',hb⟩:=y7 r j (by simpa using h);exact⟨b',by simpa [zu] using hb⟩
   ·simp at h
theorem Eh: ∀(cs:List SV) (a a0:Nat) (zs:List Int),JS a cs=A (a0,zs)->a<=a0/\a0 - a+zs.length<=cs.length/\∀ j,j<zs.length->∃ b,cs[a0 - a+j]?=A (.int .u8 b (zu zs j))
 | [],a,a0,zs,h=>by cases h
 | v::r,a,a0,zs,h=>by
   have rec':JS (a+1) r=A (a0,zs)->a<=a0/\a0 - a+zs.length<=(v::r).length/\∀ j,j<zs.length->∃ b,(v::r)[a0 - a+j]?=A (.int .u8 b (zu zs j)):=λh=>by obtain⟨g1,g2,g3⟩:=Eh r (a+1) a0 zs h;refine⟨by omega,by simp only[cL];omega,λj hj=> ?_⟩;obtain⟨b,hb⟩:=g3 j hj;exact⟨b,by rw[show a0 - a+j=(a0 - (a+1)+j)+1 by omega];simpa using hb⟩
   unfold JS at h;split at h
   ·rename_i b n;injection h with h;injection h with h1 h2;subst h1;subst h2;have hf:=y7 (.int .u8 b n::r);have e:jv (.int .u8 b n::r)=n::jv r:=rfl;rw[e] at hf;have hl: ∀ l:List SV,(jv l).length<=l.length:=by
     intro l;induction l with
     | nil=>simp[jv]
     | cons v r ih =>
       unfold jv;split
       ·rename_i e;injection e with _ e;subst e;simpa using ih
       ·simp
    refine⟨X _,by have:=hl r;simp only[cL,c6];omega,λj hj=> ?_⟩;rw[c6,bh];exact hf j hj
   ·exact rec' h
def FZ (off cnt:Nat)(s:e_):Nat->List Int->List SV
 | _,[]=>[]
 | j,z::r=>.int .u8 H (if off<=j/\j<off+cnt then((s.getD (j - off) 0).toNat:Int)else z)::FZ off cnt s (j+1) r
theorem vu {off cnt:Nat}{s:e_}: ∀ {l:List Int} {j:Nat},(FZ off cnt s j l).length=l.length
 | [],_=>rfl
 | _::r,j=>by simp[FZ,vu (l:=r)]
theorem It {off cnt:Nat}{s:e_}: ∀ {l:List Int} {j q:Nat} {x:SV},(FZ off cnt s j l)[q]?=A x->x=.int .u8 H (if off<=j+q/\j+q<off+cnt then((s.getD (j+q - off) 0).toNat:Int)else zu l q)
 | [],_,_,_,h=>by simp[FZ] at h
 | z::r,j,0,x,h=>by simp[FZ] at h;subst h;simp[zu]
 | z::r,j,q+1,x,h=>by simp only[FZ,a_] at h;rw[It h,show j+1+q=j+(q+1)by omega];simp[zu]
def vk (key i n:Nat)(y:SV)(m:Mem)(nx:Nat)(K:KL):VC :=
 match y,m.get key with
 | .str _ s,A (.cells cs tot ty)=>(match JS 0 cs with
   | some (a,zs)=>.and (.atom (a<=i/\i+n<=a+zs.length)) (K (A (.int .i64 H (min s.length n:Nat))) (m.put key (.cells (bf cs a (FZ (i - a) (min s.length n) s 0 zs)) tot ty)) nx)
   | none=>.fail "copy: no bytes")
 | _,_=>.fail "copy: blocks"
theorem Aq (P:Program)(w:World)(s:e_)(n:Nat):(Builtin.firstCells 1 n (.string ⟨s.toArray⟩)).run P w=.ok ((s.take n).map λb=>N .u8 b.toNat).toArray w:=by
 have e:((ByteArray.mk s.toArray).extract 0 n)=⟨(s.take n).toArray⟩:=by have:=sO s 0 n;simpa using this
 show Result.ok _ w=_;rw[e];simp
theorem HZ {m:Mem}{nx:Nat}{n:Nat}{y:SV}(P:Program)(h:(vk key i n y m nx K).holds)(hs:aO Γ E m nx w) :
  ∃ s,y.val E=.string ⟨List.toArray s⟩/\∃ w',(storeCells ⟨E key,i,G⟩ ((s.take (min s.length n)).map λb=>N .u8 b.toNat)).run P w=.ok () w'/\bF K Γ E nx (.int .i64 ((min s.length n:Nat):Int)) w':=by
 unfold vk at h;split at h
 ·rename_i lt s cs tot ty hk;split at h
  ·rename_i a zs hrun8;obtain⟨⟨ha,hin⟩,h⟩:=h;obtain⟨_,u2,u3⟩:=Eh cs 0 a zs hrun8;rw[Nat.sub_zero] at u2;refine⟨s,rfl,?_⟩;obtain⟨ob,ho,c,fr,rfl,h1,h2,h3⟩:=hs.ny key _ hk rfl;generalize hc:min s.length n=cnt at *;have hcs:cnt<=s.length:=by omega
   have hcn:cnt<=n:=by omega
   have hlen:((s.take cnt).map λb=>N .u8 b.toNat).length=cnt:=by rw[List.length_map,List.length_take];omega
   have hcl:cs.length<=c.size:=by
    cases hcs:cs.length with
    | zero=>omega
    | succ q =>have:=h2 q _ (ag (by omega));have:=(Array.getElem?_eq_some_iff.1 this).1;omega
   have hrun:=dr (P:=P) (o:=i) ((s.take cnt).map λb=>N .u8 b.toNat) 0 w c ho h1 (by rw[hlen];omega) (λu hu=>by rw[List.mem_map] at hu;obtain⟨b,_,rfl⟩:=hu;rfl)
   refine⟨_,hrun,E,A (.int .i64 H (cnt:Int)),_,_,λ_ _=>rfl,X _,λv hv=>by injection hv with hv;subst hv;rfl,hs.write hk rfl rfl (B':=.cells (bf cs a (FZ (i - a) cnt s 0 zs)) tot ty) ?_ rfl,h⟩;refine⟨_,fr,rfl,by rw[bV];exact h1,λq u hq=> ?_,by rw[bV];exact h3⟩;have hsa: ∀ v,(if i<=q/\q<i+cnt then((s.take cnt).map λb=>N .u8 b.toNat)[q - i]? else c[q]?)=A v->(eJ c (i+0) ((s.take cnt).map λb=>N .u8 b.toNat))[q]?=A v:=by
    intro v hv;rw[← Array.getElem?_toList,gj,Nat.add_zero];have hqs:q<c.size:=by
     split at hv
     ·omega
     ·exact(Array.getElem?_eq_some_iff.1 hv).1
    have hsl:(bf c.toList i ((s.take cnt).map λb=>N .u8 b.toNat)).length=c.size:=by rw[← gj];simp[bV]
    obtain⟨x,hx⟩: ∃ x,(bf c.toList i ((s.take cnt).map λb=>N .u8 b.toNat))[q]?=A x:=⟨_,ag (by rw[hsl];exact hqs)⟩
    rcases pE _ _ _ _ _ hx (by rw[hlen,Array.length_toList];omega)with ⟨g1,g2,g3⟩ | ⟨g1,g2⟩
    ·rw[hlen] at g2;rw[if_pos ⟨g1,g2⟩] at hv;rw[hx,← g3];exact hv
    ·rw[hlen] at g1;rw[if_neg (by omega)] at hv;rw[hx,← g2,Array.getElem?_toList];exact hv
   apply hsa;rcases pE _ _ _ _ _ hq (by rw[vu];omega)with ⟨g1,g2,g3⟩ | ⟨g1,g2⟩
   ·have hu:=It g3;subst hu;rw[vu] at g2;by_cases e:i<=q/\q<i+cnt
    ·rw[if_pos e,if_pos (by omega),W,List.getElem?_take_of_lt (by omega),ag (by omega)];simp only[Q,SV.val,bh];rw[show q - a - (i - a)=q - i by omega,List.getD_eq_getElem?_getD,ag (by omega)];rfl
    ·rw[if_neg e,if_neg (by omega)];obtain⟨b,hb⟩:=u3 (q - a) (by omega);rw[show a - 0+(q - a)=q by omega] at hb;have:=h2 _ _ hb;exact this
   ·rw[vu] at g1;rw[if_neg (by omega)];exact h2 q u g2
  ·exact h.elim
 ·exact h.elim
def NT (P:Program)(ats:Array TypeId)(x y:SV)(m:Mem)(nx:Nat)(K:KL):VC :=
 match ats[0]? with
 | some t0=>(match P.underlying t0 with
   | some (.slice elem)=>(match sz P elem,x with
     | some s,.slc key o n _ _=>(match gT m s y,m.get key with
       | some (l,n'),A (.cells cs tot ty)=>if(nD (l.take (min n' n*s))&&L (o+(l.take (min n' n*s)).length<=cs.length))=I then
          K (A (.int .i64 I (min n' n:Nat))) (m.put key (.cells (bf cs o (l.take (min n' n*s))) tot ty)) nx else .fail "copy: cells"
       | _,_=>.fail "copy: blocks")
     | some 1,.bx key 1 H i n _=>vk key i n y m nx K
     | _,_=>.fail "copy: to what")
   | _=>.fail "copy")
 | none=>.fail "copy"
theorem Ub {ats:Array TypeId}{ty:TypeId}{x y:SV}
  (h:(NT P ats x y m nx K).holds) (hs:aO Γ E m nx w) :
  ∃ r w',(Builtin.copy_ ats ty #[x.val E,y.val E]).run P w=.ok r w'/\bF K Γ E nx r w':=by
 unfold NT at h;split at h
 ·rename_i t0 h0;split at h
  ·rename_i elem hd;split at h
   ·rename_i s key o n cl c hsz;split at h
    ·rename_i l n' cs tot ty' hy hk;split at h
     ·rename_i hc;simp only[R,decide_eq_true_eq] at hc;obtain⟨ylen,ycells,ynum⟩:=ju (P:=P) hs hy;have hyc:=ycells (min n' n) (Nat.min_le_left _ _);obtain⟨w',hrun,haft⟩:=bF.write (P:=P) (r:=.int .i64 ((min n' n:Nat):Int)) hs hk (jb hc.1) hc.2 (λv hv=>by injection hv with hv;subst hv;rfl) h;refine⟨_,w',?_,haft⟩;simp only[SV.val,Builtin.copy_,h0,an,a!,a_,D,aL hd,C,ylen,cu hsz];rw[show n'.min n=min n' n from rfl,hyc]
      simp only[C,hrun,F,goInt]
     ·exact h.elim
    ·exact h.elim
   ·rename_i key i n c hsz;obtain⟨s,hy,w',hrun,haft⟩:=HZ P h hs;refine⟨_,w',?_,haft⟩;have hl:(ByteArray.mk s.toArray).size=s.length:=by simp[ByteArray.size]
    rw[hy];simp only[SV.val,Bool.false_and,cond_false,Nat.mul_one,Builtin.copy_,h0,an,a!,a_,D,aL hd,C,Builtin.lenOf,F,cu hsz,hl];rw[show s.length.min n=min s.length n from rfl,Aq]
    simp only[C,hrun,goInt]
   ·exact h.elim
  ·exact h.elim
 ·exact h.elim
def Hj:SV->Option aE
 | .int k _ n=>A (.int k λ_=>n)
 | .bool _ b=>A (.bool λ_=>b)
 | .str _ s=>A (.str λ_=>s)
 | _=>G
def nH:List SV->Option (List aE)
 | []=>A []
 | v::r=>(match Hj v,nH r with
   | some c,A l=>A (c::l)
   | _,_=>G)
theorem sQ: ∀ {cs:List SV} {az:List aE},nH cs=A az->az.length=cs.length/\∀(k:Nat) (col:aE),az[k]?=A col->∃ v,cs[k]?=A v/\∀ i E,(col.at i).val E=v.val E
 | [],az,h=>by simp[nH] at h;subst h;exact⟨rfl,λk c hc=>by simp at hc⟩
 | v::r,az,h=>by
   simp only[nH] at h;split at h
   ·rename_i c l hc hl;injection h with h;subst h;obtain⟨g1,g2⟩:=sQ hl;refine⟨by simp[g1],λk col hk=> ?_⟩;cases k with
    | zero =>simp at hk;subst hk;refine⟨v,rfl,λi E=> ?_⟩;unfold Hj at hc;split at hc<;>first | (injection hc with hc;subst hc;rfl) | cases hc
    | succ k=>exact g2 k col (by simpa using hk)
   ·cases h
theorem JQ {zs:List SV}: ∀ {n i k:Nat} {v:SV},i<n->zs[k]?=A v->(times n zs)[i*zs.length+k]?=A v
 | 0,_,_,_,h,_=>absurd h (Nat.not_lt_zero _)
 | n+1,i,k,v,h,hk=>by
   have hkl:=(cB.1 hk).1;simp only[times];cases i with
   | zero=>rw[Nat.zero_mul,bh,cx hkl];exact hk
   | succ i =>rw[c5,Nat.one_mul,List.getElem?_append_right (by omega),show i*zs.length+zs.length+k - zs.length=i*zs.length+k by omega];exact JQ (by omega) hk
def yN (P:Program)(t:TypeId)(x y:SV)(m:Mem)(nx:Nat)(K:KL):VC :=
 match P.underlying t,x,y with
 | some (.slice e),.int .i64 I n,.int .i64 l c=>(match sz P e,fX P e,bytes P e with
   | some s,A z,A by_=>if(z.plain&&L (z.cells.length=s)&&L (s≠0)&&L (0<=n))=I then
      CP l (n<=c/\by_*c<=140737488355328/\c<=9223372036854775807) (K (A (.slc nx 0 n.toNat l c.toNat)) ((nx,.cells (times (bif l then c.toNat else n.toNat) z.cells) (c.toNat*s) e)::m) (nx+1))else .fail "make: size"
   | _,_,_=>.fail "make")
 | some (.slice e),.int .i64 H n,.int .i64 _ c=>(match sz P e,fX P e,bytes P e with
   | some s,A z,A by_=>(match nH z.cells with
     | some az=>if(z.plain&&L (z.cells.length=s)&&L (s≠0))=I then
       .and (.atom (c=n/\0<=n/\by_*n<=140737488355328/\n<=9223372036854775807)) (K (A (.bx nx s H 0 n.toNat n.toNat)) ((nx,.rows H n.toNat az H (n.toNat*s) e)::m) (nx+1))else .fail "make: size"
     | none=>.fail "make: columns")
   | _,_,_=>.fail "make")
 | _,_,_=>.fail "make: a length that is not known"
theorem DG {y:Operand} :
  ∀ {a b:SV},(∀ n,a=.int .i64 H n->False)->∀(K:KL) (E:Nat->Nat) (w:World) (ρ:Operand->Value),(yN P t a b m nx K).holds->aO Γ E m nx w->Mem.wf nx m=I->ρ x=a.val E->ρ y=b.val E ->
    Out P (bF K Γ E nx) ((execOp ρ ⟨dst,.makeSlice t x y,type,pos,after,guard⟩).run P w):=by
 intro a b hnl K E w ρ h hs hw ha hb;unfold yN at h;split at h
 ·rename_i e n l c hd;split at h
  ·rename_i s z by_ hsz hz hby;split at h
   ·rename_i hc;simp only[R,decide_eq_true_eq] at hc;obtain⟨⟨⟨h1,h2⟩,h3⟩,h4⟩:=hc;have hk:(n<=c/\by_*c<=140737488355328/\c<=9223372036854775807)/\(K (A (.slc nx 0 n.toNat l c.toNat)) ((nx,.cells (times (bif l then c.toNat else n.toNat) z.cells) (c.toNat*s) e)::m) (nx+1)).holds:=by
     unfold Sx.CP at h;split at h
     ·split at h
      ·rename_i hh;exact⟨hh,h⟩
      ·exact h.elim
     ·exact h
    obtain⟨⟨k1,k2,k3⟩,hk⟩:=hk;have hwc:IntKind.i64.wrap c=c:=sG (k:=.i64) ⟨by simp only[lo];omega,by simp only[hi];omega⟩;have hwn:IntKind.i64.wrap n=n:=sG (k:=.i64) ⟨by simp only[lo];omega,by simp only[hi];omega⟩;have hby': ∃ i,P.info? e=A i/\i.bytes=by_:=by
     unfold bytes at hby;split at hby
     ·rename_i i hi;injection hby with hby;exact⟨i,hi,hby⟩
     ·cases hby
    obtain⟨i,hi,hib⟩:=hby';have hzc:=SV.ff (E:=E) h1;have hzs:(z.val E).cells.size=s:=by rw[hzc];simp[h2]
    have hnl: ¬ (c<0):=by omega
    have hbig: ¬ (((by_:Nat):Int)*c>2^ 48):=by
     have:(2:Int)^ 48=281474976710656:=by decide
     omega
    have hcond:((L (c<0)||decide (((by_:Nat):Int)*c>2^ 48))||decide (n<0)||decide (n>c))=false:=by simp only[Bool.or_eq_false_iff,decide_eq_false_iff_not];exact⟨⟨⟨hnl,hbig⟩,by omega⟩,by omega⟩
    have fin: ∀ z':Array Value,((Array.range (c.toNat*s)).map λi=>z'[i% z'.size]!)=(SV.vals E (times c.toNat z.cells)).toArray ->
      Out P (bF K Γ E nx) (((newRow e ((Array.range (c.toNat*s)).map λi=>z'[i% z'.size]!) >>= λa=>pure (Value.slice (A a) n.toNat c.toNat):Sem Value).run P w).andThen λa w'=>(pure (Next.value a):Sem Next).run P w'):=by
     intro z' hz';rw[hz'];simp only[newRow,D,run_newObj,C,F,Out];have g: ∀ k:Nat,(times k z.cells).length=k*s:=by
      intro k;induction k with
      | zero=>simp[times]
      | succ k ih=>rw[times,List.length_append,ih,h2,c5];omega
     refine bF.alloc hs hw (B5 (nG (yo hz)) _) (λi v hv=> ?_) (by simp[SV.bP,g]) hk (by simp[SV.val])
     ·generalize hq:(bif l then c.toNat else n.toNat)=q at hv
      have hqc:q<=c.toNat:=by cases l<;>simp at hq<;>omega
      have hsplit:times c.toNat z.cells=times q z.cells++times (c.toNat - q) z.cells:=by
       have g: ∀ a b:Nat,times (a+b) z.cells=times a z.cells++times b z.cells:=by
        intro a b;induction a with
        | zero=>simp[times]
        | succ a ih=>rw[show a+1+b=(a+b)+1 by omega,times,ih,times,List.append_assoc]
       rw[← g];congr 1;omega
      have:=(cB.1 hv).1;rw[SV.bP,an,W,hsplit,cx this,hv];rfl
    simp only[execOp,Instr.makeSlice,ha,hb,SV.val,asInt,asIntOf,D,aL hd,C,F,jn hi,hib,hwc,hwn];rw[hcond];simp only[bl,if_false,D,run_askRoom,C,cu hsz,Sem.run_ite];by_cases h0:c.toNat*s=0
    ·rw[if_pos h0];simp only[F,C];refine fin #[] ?_;have:c.toNat=0:=by rcases Nat.mul_eq_zero.1 h0 with h | h;exact h;exact absurd h h3
     rw[this];simp[times,SV.vals]
    ·rw[if_neg h0];simp only[dG (E:=E) hz,F,C];refine fin _ ?_;apply Array.ext';have:=rq (E:=E) (zs:=z.cells) (z:=(z.val E).cells) (by rw[hzc]) (by rw[hzs];exact h3) c.toNat;rw[hzs] at this;rw[SV.bP];simpa [hzs] using this
   ·exact h.elim
  ·exact h.elim
 ·exact(hnl _ rfl).elim
 ·exact h.elim
theorem UC {y:Operand} :
  pX P Γ σ m nx ⟨dst,.makeSlice t x y,type,pos,after,guard⟩ (λK=>need (σ x) (λa=>need (σ y) (λb=>yN P t a b m nx K))):=by
 refine pX.need λa ha=>pX.need λb hb=> ?_;intro K E w ρ h hs hw hσ hr;by_cases hl: ∃ n,a=.int .i64 H n
 ·obtain⟨n,rfl⟩:=hl;unfold yN at h;split at h
  ·rename_i e;cases e
  ·rename_i e n' l' c hd heq;injection heq with _ _ heq;subst heq;split at h
   ·rename_i s z by_ hsz hz hby;split at h
    ·rename_i az hcols;split at h
     ·rename_i hc;obtain⟨⟨rfl,k1,k2,k3⟩,h⟩:=h;have hc':=hc;simp only[R,decide_eq_true_eq] at hc';obtain⟨⟨h1,h2⟩,h3⟩:=hc';let K0:KL:=λsv m' nx'=>.atom (sv=A (.slc nx 0 c.toNat I c.toNat)/\m'=(nx,.cells (times c.toNat z.cells) (c.toNat*s) e)::m/\nx'=nx+1);have hk0:(yN P t (.int .i64 I c) (.int .i64 I c) m nx K0).holds:=by simp only[yN,hd,hsz,hz,hby];rw[if_pos (by simp[h1,h2,h3,k1])];simp only[Sx.CP,cond_true];rw[if_pos ⟨Int.le_refl _,k2,k3⟩];exact⟨rfl,rfl,rfl⟩
      have ho:=DG (P:=P) (Γ:=Γ) (m:=m) (nx:=nx) (dst:=dst) (type:=type) (pos:=pos) (after:=after) (guard:=guard) (t:=t) (x:=x) (y:=y) (a:=.int .i64 I c) (b:=.int .i64 I c) (λ_ h=>by cases h) K0 E w ρ hk0 hs hw (by have:=hr x _ ha;exact this) (by have:=hr y _ hb;exact this);refine ho.mono ?_ (λ_ _ h=>h);rintro r w' ⟨E',sv,m',nx',g1,g2,g3,g4,rfl,rfl,rfl⟩;obtain⟨q1,q2⟩:=sQ hcols;refine⟨E',A (.bx nx s H 0 c.toNat c.toNat),_,_,g1,g2,λv hv=> ?_,?_,h⟩
      ·injection hv with hv;subst hv;rw[g3 _ rfl];simp[SV.val]
      ·
       have hblk: ∀ E' o,bS E' (.cells (times c.toNat z.cells) (c.toNat*s) e) o->bS E' (.rows H c.toNat az H (c.toNat*s) e) o:=by rintro E' o ⟨c0,fr,rfl,f1,f2,f3⟩;refine⟨c0,fr,rfl,λ_=>f1,by rw[q1,h2,f3];exact X _,f3,λi k col hi hk=> ?_⟩;obtain⟨v,hv1,hv2⟩:=q2 k col hk;rw[hv2,q1];exact f2 _ _ (JQ hi hv1)
       exact g4.JJ (ah.of rfl rfl λ_=>⟨rfl,λE o ho=>hblk E o ho,id⟩)
     ·exact h.elim
    ·exact h.elim
   ·exact h.elim
  ·exact h.elim
 ·exact DG (λn e=>hl ⟨n,e⟩) K E w ρ h hs hw (hr x _ ha) (hr y _ hb)
abbrev PT:=List SV->Mem->Nat->(SV->Mem->Nat->VC)->VC
def lift (K:SV->Mem->Nat->VC):KL:=λv m nx=>match v with
 | some v=>K v m nx
 | none=>.fail "a call's result that is not known"
def ax (P:Program)(f:FuncId)(pt:PT):Prop :=
 ∀ args m nx K,(pt args m nx K).holds->Mem.wf nx m=I->SV.e9 nx args=I->∀ Γ E w,aO Γ E m nx w ->
   Out P (bF (lift K) Γ E nx) ((callFunc f (SV.vals E args).toArray).run P w)
inductive mF where
 | fn (f:FuncId)
 | yield (key:Nat)
 | panic
def mF.sem (E:Nat->Nat):mF->Array Value->Sem Next
 | .fn f,args=>callFunc f args
 | .yield key,args=>b6 (E key) args
 | .panic,args=>do pure (.value (← Instr.panic (args.getD 0 undef)))
def pW (P:Program)(Γ:bg)(KP:PK)(c:mF)(pt:PT):Prop :=
 ∀ Δ,Γ.le Δ->∀ args m nx K,(pt args m nx K).holds->Mem.wf nx m=I->SV.e9 nx args=I->∀ E w,aO Δ E m nx w ->
   Out P (bF (lift K) Δ E nx) ((c.sem E (SV.vals E args).toArray).run P w) (ij KP Δ E nx)
theorem ax.cok {f:FuncId}{pt:PT}(h:ax P f pt)(Γ:bg)(KP:PK):pW P Γ KP (.fn f) pt:=λΔ _ args m nx K h1 h2 h3 E w hs=>(h args m nx K h1 h2 h3 Δ E w hs).sH
theorem pW.mono {Δ:bg}{c:mF}{pt:PT}(h:pW P Γ KP c pt)(hle:Γ.le Δ):pW P Δ KP c pt:=λΘ h'=>h Θ (bg.le_trans hle h')
def Xb (P:Program)(Γ:bg)(KP:PK)(σ:Operand->Option SV)(m:Mem)(nx:Nat)(o:Oper)(t:KL->VC):Prop :=∀ K E w ρ,(t K).holds->aO Γ E m nx w->Mem.wf nx m=I->WfS nx σ->Reads E σ ρ->Out P (bF K Γ E nx) ((execOp ρ o).run P w) (ij KP Γ E nx)
theorem pX.sH {σ:Operand->Option SV}{m:Mem}{nx:Nat}{o:Oper}{t:KL->VC}(h:pX P Γ σ m nx o t):Xb P Γ KP σ m nx o t:=λK E w ρ h1 h2 h3 h4 h5=>(h K E w ρ h1 h2 h3 h4 h5).sH
def Fx:TypeDesc->Bool
 | .pointer _=>I
 | _=>H
def Fa (P:Program)(t:TypeId)(v:SV)(name:String):Option (FuncId×SV) :=
 match P.info? t with
 | some i=>(match i.methods.find? (·.name==name)with
   | some mt=>(match mt.func,mt.path.toList with
     | some (g,p),[]=>(match P.underlying t with
       | some d=>if Fx d=p then A (g,v)else G
       | none=>G)
     | some (g,p),[s]=>(match s.deref,P.underlying s.struct,v with
       | false,A (.struct fs),.agg cs=>(match fs[s.index]? with
         | some f=>(match partOf P f.type cs f.offset,P.underlying f.type with
           | some u,A d=>if Fx d=p then A (g,u)else G
           | _,_=>G)
         | none=>G)
       | _,_,_=>G)
     | _,_=>G)
   | none=>G)
 | none=>G
def yM (P:Program)(call:mF->PT)(σ:Operand->Option SV)(c:Call)(m:Mem)(nx:Nat)(K:KL):VC :=
 match c.callee,E5 σ c.args.toList with
 | .value f,A args=>(match σ f with
   | some (.func (.func g) first captured)=>call (.fn g) (first++args++captured) m nx (λv m nx=>K (A v) m nx)
   | some (.yield key)=>call (.yield key) args m nx (λv m nx=>K (A v) m nx)
   | _=>.fail "call: of what")
 | .invoke r name,A args=>(match σ r with
   | some (.iface t v)=>(match Fa P t v name with
     | some (g,u)=>(match u.wf nx with
       | true=>call (.fn g) (u::args) m nx (λv m nx=>K (A v) m nx)
       | false=>.fail "call: receiver")
     | none=>.fail "call: no such method")
   | _=>.fail "call: of what")
 | .builtin .append,A [x,y]=>vj P c.argTypes x y m nx K
 | .builtin .copy,A [x,y]=>NT P c.argTypes x y m nx K
 | .builtin .delete,A [x,y]=>zI P c.argTypes x y m nx K
 | _,_=>.fail "call"
theorem bF.F8 (h:bF (lift λv m nx=>K (A v) m nx) Γ E nx r w):bF K Γ E nx r w:=by
 obtain⟨E',sv,m',nx',h1,h2,h3,h4,h5⟩:=h;cases sv with
 | none=>exact h5.elim
 | some v=>exact⟨E',A v,m',nx',h1,h2,h3,h4,h5⟩
def xD (call:mF->PT)(x:Option SV)(m:Mem)(nx:Nat):VC :=
 match x with
 | some (.iface t v)=>call .panic [.iface t v] m nx (λ_ _ _=>.fail "a panic")
 | _=>.fail "a panic of what"
theorem PX {call:mF->PT}(hcall: ∀ c,pW P Γ KP c (call c)) :
  Xb P Γ KP σ m nx ⟨dst,.panic x,type,pos,after,guard⟩ (λ_=>xD call (σ x) m nx):=by
 intro K E w ρ h hs hw hσ hr;unfold xD at h;split at h
 ·rename_i t v hx;have hv:=hσ _ _ hx;have:=hcall .panic Γ Γ.le_refl [.iface t v] m nx _ h hw (by simp only[SV.e9,hv,Bool.and_self]) E w hs;have hrun:(execOp ρ ⟨dst,.panic x,type,pos,after,guard⟩).run P w=((mF.panic).sem E (SV.vals E [.iface t v]).toArray).run P w:=by simp only[execOp,hr x _ hx,mF.sem,SV.vals];rfl
  rw[hrun];refine this.mono (λr w' hh=> ?_) (λ_ _ h=>h);obtain⟨E',sv,m',nx',h1,h2,h3,h4,h5⟩:=hh;cases sv<;>exact h5.elim
 ·exact h.elim
theorem E6 {nx:Nat}{σ:Operand->Option SV}(hσ:WfS nx σ): ∀ {xs:List Operand} {l:List SV},E5 σ xs=A l->SV.e9 nx l=I
 | [],l,h=>by simp[E5] at h;subst h;rfl
 | x::r,l,h=>by
   simp only[E5] at h;split at h
   ·rename_i v l' hv hl;injection h with h;subst h;simp only[SV.e9,R];exact⟨hσ x v hv,E6 hσ hl⟩
   ·cases h
theorem HB {v u:SV}{name:String}{g:FuncId}(h:Fa P t v name=A (g,u))(fuel:Nat) :
  (method (fuel+1) t (v.val E) name).run P w=.ok (g,u.val E) w:=by
 unfold Fa at h;split at h
 ·rename_i i hi;split at h
  ·rename_i mt hm;split at h
   ·rename_i g' p hfn hpl;split at h
    ·rename_i d hd;split at h
     ·rename_i hp;injection h with h;injection h with e1 e2;subst e1;subst e2;simp only[method,D,jn hi,C,hm,hpl,follow,F,hfn];cases d<;>simp only[Fx] at hp<;>subst hp<;>simp only[receiverAt,D,aL hd,C,Place.get,F]
     ·cases h
    ·cases h
   ·rename_i g' p s hfn hpl;split at h
    ·rename_i fs cs hder hst;split at h
     ·rename_i f hf;split at h
      ·rename_i u' d hu hd;split at h
       ·rename_i hp;injection h with h;injection h with e1 e2;subst e1;subst e2;simp only[method,D,jn hi,C,hm,hpl,follow,aL hst,hf,hder,bl,if_false,SV.val,gN hu,F,hfn];cases d<;>simp only[Fx] at hp<;>subst hp<;>simp only[receiverAt,D,aL hd,C,Place.get,F]
       ·cases h
      ·cases h
     ·cases h
    ·cases h
   ·cases h
  ·cases h
 ·cases h
theorem kM (E:Nat->Nat)(a b:List SV):SV.vals E (a++b)=SV.vals E a++SV.vals E b:=by simp[SV.bP]
theorem Ua {call:mF->PT}(hcall: ∀ c,pW P Γ KP c (call c)){c:Call} :
  Xb P Γ KP σ m nx ⟨dst,.call c,type,pos,after,guard⟩ (yM P call σ c m nx):=by
 intro K E w ρ h hs hw hσ hr;obtain⟨callee,args,ats⟩:=c;unfold yM at h;split at h
 ·rename_i f avs hca hargs;simp only at hca;subst hca;split at h
  ·rename_i g first captured hf
   have hfw:=hσ _ _ hf;simp only[SV.wf,R] at hfw;have:=hcall (.fn g) Γ Γ.le_refl (first++avs++captured) m nx _ h hw (ew (ew hfw.1 (E6 hσ hargs)) hfw.2) E w hs
   have hrun:(execOp ρ ⟨dst,.call ⟨.value f,args,ats⟩,type,pos,after,guard⟩).run P w=(callFunc g (SV.vals E (first++avs++captured)).toArray).run P w:=by simp only[execOp,resolve,hr _ _ hf,SV.val,Deferred.ofValue,D,F,C,invoke];rw[mM hr hargs,kM,kM];simp
   rw[hrun];exact this.mono (λr w' h=>h.F8) (λ_ _ h=>h)
  ·rename_i key hf;have:=hcall (.yield key) Γ Γ.le_refl avs m nx _ h hw (E6 hσ hargs) E w hs;have hrun:(execOp ρ ⟨dst,.call ⟨.value f,args,ats⟩,type,pos,after,guard⟩).run P w=(b6 (E key) (SV.vals E avs).toArray).run P w:=by simp only[execOp,resolve,hr _ _ hf,SV.val,Deferred.ofValue,D,F,C,invoke];rw[mM hr hargs];simp
   rw[hrun];exact this.mono (λr w' h=>h.F8) (λ_ _ h=>h)
  ·exact h.elim
 ·rename_i r name avs hca hargs;simp only at hca;subst hca;split at h
  ·rename_i t v hrv;split at h
   ·rename_i g u hm;split at h
    ·rename_i huw;have:=hcall (.fn g) Γ Γ.le_refl (u::avs) m nx _ h hw (by simp only[SV.e9,R];exact⟨huw,E6 hσ hargs⟩) E w hs;have hrun:(execOp ρ ⟨dst,.call ⟨.invoke r name,args,ats⟩,type,pos,after,guard⟩).run P w=(callFunc g (SV.vals E (u::avs)).toArray).run P w:=by
      simp only[execOp,resolve,hr _ _ hrv,SV.val,D,F,C,invoke];rw[mM hr hargs];simp only[Array.getElem?_append_left,List.size_toArray,List.length_singleton,Nat.lt_one_iff,an,a!,callMethod,D,run_program,C];have hfm:=HB (E:=E) (w:=w) hm (P.types.size+Z - 1);have hpos:0<Z:=by decide
      rw[show P.types.size+Z - 1+1=P.types.size+Z by omega] at hfm;rw[hfm];simp only[C];congr 2;simp[SV.vals]
     rw[hrun];exact this.mono (λr w' h=>h.F8) (λ_ _ h=>h)
    ·exact h.elim
   ·exact h.elim
  ·exact h.elim
 ·rename_i x y hca hargs;simp only at hca;subst hca;obtain⟨r,w',hrun,haft⟩:=HX (P:=P) (ty:=type) h hs hw;rw[aK,BigFrame.builtin_append,mM hr hargs];simp only[SV.vals,D];rw[hrun];exact haft
 ·rename_i x y hca hargs;simp only at hca;subst hca;obtain⟨r,w',hrun,haft⟩:=Ub (P:=P) (ty:=type) h hs;rw[aK,BigFrame.builtin_copy,mM hr hargs];simp only[SV.vals,D];rw[hrun];exact haft
 ·rename_i x y hca hargs;simp only at hca;subst hca;obtain⟨r,w',hrun,haft⟩:=Ll (P:=P) (ty:=type) h hs;rw[aK,BigFrame.builtin_delete,mM hr hargs];simp only[SV.vals,D];rw[hrun];exact haft
 ·exact h.elim
end
end
end Sx
end Go.Proofs.YtoibaecagklkaaaGreatDoor
