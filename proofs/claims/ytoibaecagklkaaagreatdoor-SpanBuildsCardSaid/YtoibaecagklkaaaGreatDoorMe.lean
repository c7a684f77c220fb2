/- A part of the proof. -/
import Derived.Test.YtoibaecagklkaaaGreatDoorMd
open Array renaming getElem?_eq_some_iff->cy,getElem?_setIfInBounds->cB,getElem?_toList->bn,range->cL
open Bool renaming and_eq_true->L,false->H,false_eq_true->bU,true->C
open Decidable renaming decide->N
open Go.BigFrame renaming execOp_builtin->bW
open Go.Instr renaming entryStore->b_,findKey->X,findNow->V,keyThatStays->cO,mapEntry->a_,mapUpdate->Y,sameBits->cT,yield->c4
open Go.MapKept renaming run_checkKey->Z,run_getObj_map->O,run_keyThatStays->c5,run_setObj_map->M
open Go.Result renaming andThen_ok->G
open Go.Sem renaming run_bind->I,run_pure->J
open Go.Value renaming int->S
open List renaming getElem?_append_left->c6,getElem?_cons_succ->b!,getElem?_cons_zero->cj,getElem?_eq_getElem->a!,getElem?_eq_some_iff->c7,getElem?_map->c8,getElem?_set->c_,getElem?_toArray->bf,length_cons->c!,map_cons->d_,set_cons_zero->d!
open Nat renaming add_mul->ec,le_refl->T,le_trans->ag,lt_of_lt_of_le->an,sub_self->ef,zero_add->ct
open Option renaming getD_some->bl,map_none->ei,map_some->W,none->F,some->A
namespace Go.Proofs.YtoibaecagklkaaaGreatDoor
open Go Sx
variable {a:Act}{after:Array Edge}{ops:Array Oper}{K:KL}{tmps:List (Option SV)}{m:Mem}{i nx:Nat}{o:Oper}{x:Operand}{σ:Operand->Option SV}{ρ:Operand->Value}{dst:Option Tmp}{KP:PK}{P:Program}{d:TypeDesc}{t type:TypeId}{w:World}{Γ:b5}
namespace Sx
open Go
noncomputable section
section
variable {P : Program} {Γ : b5} {σ : Operand-> Option SV} {m : Mem} {nx : Nat}
theorem cn.axL {E:Nat->Nat}(hs:bp Γ E m nx w)(hw:Mem.wf nx m=C){B:SB}{o:Obj}{sv:Option SV}{r:Value}(hB:cq E B o)(hBw:B.wf nx=C)
  (hr: ∀ v,sv=A v->r=v.val (λk=>if k=nx then w.heap.size else E k)) (h:(K sv ((nx,B)::m) (nx+1)).holds) :
  cn K Γ E nx r {w with heap:=w.heap.push o}:=by
 have hE: ∀ k,k<nx->(λk=>if k=nx then w.heap.size else E k) k=E k:=(by grind)
 exact⟨_,sv,_,_,hE,Nat.le_succ _,hr,hs.alloc hw (hB.congr hE hBw),h⟩
theorem cn.qk {E:Nat->Nat}(hs:bp Γ E m nx w){key:Nat}{B B':SB}{o:Obj}(hk:m.get key=A B)(hn:B.no=H)(hro:B.ro=H)(hB:cq E B' o)(hro':B'.ro=H)
  {sv:Option SV} {r:Value} (hr: ∀ v,sv=A v->r=v.val E) (h:(K sv (m.put key B') nx).holds):cn K Γ E nx r {w with heap:=w.heap.setIfInBounds (E key) o} :=
 ⟨E,sv,_,_,λ_ _=>rfl,T _,hr,hs.write hk hn hro hB hro',h⟩
def HO (P:Program)(t:TypeId)(hint:Option (Option SV))(m:Mem)(nx:Nat)(K:KL):VC :=
 match hint with
 | none=>K (A (.map nx)) ((nx,.map [] 0)::m) (nx+1)
 | some (A (.int ..))=>(match P.underlying t with
   | some (.map ..)=>K (A (.map nx)) ((nx,.map [] 0)::m) (nx+1)
   | _=>.fail "make: no map")
 | _=>.fail "make: how many"
theorem Y8 {pos:String}{guard:Option (Nat×Bool)}{r:Option Operand} :
  B7 P Γ σ m nx ⟨dst,.makeMap t r,type,pos,after,guard⟩ (HO P t (r.map σ) m nx):=by
 intro K E w ρ h hs hw hσ hr;have fin:(K (A (.map nx)) ((nx,.map [] 0)::m) (nx+1)).holds->Out P (cn K Γ E nx) (.ok (.value (.map (A w.heap.size))) {w with heap:=w.heap.push (.map #[] 0)}):=λh=>by exact cn.axL hs hw (B:=.map [] 0) (o:=.map #[] 0) rfl rfl (by grind [SV.val]) h
 cases r with
 | none =>have h:(K (A (.map nx)) ((nx,.map [] 0)::m) (nx+1)).holds:=h;exact fin h
 | some x =>
   simp only[HO,W] at h;split at h
   ·grind
   ·rename_i k l n hx;injection hx with hx;split at h
    ·rename_i kt et ht;have hrun:(execOp ρ ⟨dst,.makeMap t (A x),type,pos,after,guard⟩).run P w=.ok (.value (.map (A w.heap.size))) {w with heap:=w.heap.push (.map #[] 0)}:=by simp only[execOp,Instr.makeMap,W,I,aL ht,G,hr x _ hx,SV.val,asInt,asIntOf,J,run_newObj]
     grind
    ·exact h.elim
   ·exact h.elim
def Ac:List (Nat×SV×SV)->Nat->SV->SV->List (Nat×SV×SV)
 | [],_,_,_=>[]
 | e::r,0,k,v=>(e.1,k,v)::r
 | e::r,i+1,k,v=>e::Ac r i k v
def G1 (es:List (Nat×SV×SV))(e:Nat×SV×SV):List (Nat×SV×SV):=match es with
 | []=>[e]
 | x::r=>x::G1 r e
theorem Hv (E:Nat->Nat)(k v:SV): ∀(es:List (Nat×SV×SV)) (i:Nat),jM E (Ac es i k v)=(jM E es).modify i λe=>{e with key:=k.val E,val:=v.val E}
 | [],i=>by cases i<;>rfl
 | e::r,0=>rfl
 | e::r,i+1=>by have:=Hv E k v r i;simp only[jM,d_,Ac,List.modify_succ_cons] at this ⊢;rw[this]
theorem Od (E:Nat->Nat)(e:Nat×SV×SV): ∀(es:List (Nat×SV×SV)),jM E (G1 es e)=jM E es++[{key:=e.2.1.val E,val:=e.2.2.val E,born:=e.1}]
 | []=>rfl
 | x::r=>by have:=Od E e r;simp only[jM,d_,G1,List.cons_append] at this ⊢;rw[this]
theorem F4 {l:List MapEntry}{f:MapEntry->MapEntry}:l.toArray.modify i f=(l.modify i f).toArray:=by grind
theorem RO {k:SV}(h:Gm d k=C)(E:Nat->Nat)(n:Nat):cT n (k.val E) (k.val E)=true:=by
 unfold Gm at h;split at h<;>first | cases h;done | skip
 all_goals cases n<;>simp[SV.val,cT,(MapKept.bytes_beq _ _).2 rfl]
def Bp (P:Program)(t:TypeId)(x k:Option SV)(m:Mem)(f:TypeDesc->SV->Nat->List (Nat×SV×SV)->Nat->SV->VC):VC :=
 match P.underlying t,x,k with
 | some (.map kt et),A (.map key),A kv=>(match P.underlying kt,mO P et,m.get key with
   | some d,A z,A (.map es clock)=>(match Gm d kv with
     | true=>f d kv key es clock z
     | false=>.fail "map: another kind of key")
   | _,_,_=>.fail "map: no map")
 | _,_,_=>.fail "map: no map"
theorem MR {x k:Option SV}{f:TypeDesc->SV->Nat->List (Nat×SV×SV)->Nat->SV->VC}(h:(Bp P t x k m f).holds) :
  ∃ kt et d z kv key es clock,P.underlying t=A (.map kt et)/\P.underlying kt=A d/\mO P et=A z/\x=A (.map key)/\k=A kv/\m.get key=A (.map es clock)/\Gm d kv=C/\(f d kv key es clock z).holds:=by
 unfold Bp at h;split at h
 ·rename_i kt et key kv ht;split at h
  ·rename_i d z es clock hd hz hm;split at h
   ·grind
   ·exact h.elim
  ·exact h.elim
 ·exact h.elim
def J7 (x:Option SV)(m:Mem):Option (Nat×(h_->Bool)×iO×Option (h_×Int)):=match x with
 | some (.map key)=>(match m.get key with
   | some (.fmap f c p)=>A (key,f,c,p)
   | _=>F)
 | _=>F
theorem AF {x:Option SV}{r}(h:J7 x m=A r):x=A (.map r.1)/\m.get r.1=A (.fmap r.2.1 r.2.2.1 r.2.2.2):=by
 unfold J7 at h
 grind
def qp (P:Program)(t:TypeId)(key:Nat)(f:h_->Bool)(c:iO)(k v:Option SV)(m:Mem)(nx:Nat)(K:KL):VC :=
 match P.underlying t,k,v with
 | some (.map kt _),A (.str _ s),A u=>(match P.underlying kt,c.set s u with
   | some .string,A c'=>K F (m.put key (.fmap (kQ f s) c' F)) nx
   | _,_=>.fail "map: a value")
 | _,_,_=>.fail "map: a key"
theorem Fm {key:Nat}{f c p}{k v:Option SV}{E:Nat->Nat}(hm:m.get key=A (.fmap f c p))(h:(qp P t key f c k v m nx K).holds)(hs:bp Γ E m nx w) :
  ∃ kv u w',k=A kv/\v=A u/\(Y t (.map (A (E key))) (kv.val E) (u.val E)).run P w=.ok () w'/\cn K Γ E nx undef w':=by
 unfold qp at h;split at h
 ·rename_i kt et l s u ht;split at h
  ·rename_i c' hd hc';obtain⟨ob,hob,es,clock,rfl,hfm⟩:=hs.yZ key _ hm rfl;have hsv:=iO.W9 hc' E;rcases hfm.find s with ⟨h1,h2,h3⟩ | ⟨h1,j,e,h2,h3,h4,h5⟩
   ·have h2':V .string (.string ⟨s.toArray⟩) es.toList 0=_:=h2;refine⟨_,_,_,rfl,rfl,?_,cn.qk hs hm rfl rfl (B':=.fmap (kQ f s) c' F) ⟨_,_,rfl,hfm.add hsv h3 (by grind)⟩ rfl (sv:=F) (by grind) h⟩;simp only[SV.val,Y,I,aL ht,G,O hob,Z (k:=.string ⟨s.toArray⟩) hd trivial H 9999,X,aL hd,h2',J,M _ hob,xz]
   ·have h2':V .string (.string ⟨s.toArray⟩) es.toList 0=_:=h2;have h4':e.key=.string ⟨s.toArray⟩:=h4;refine⟨_,_,_,rfl,rfl,?_,cn.qk hs hm rfl rfl (B':=.fmap (kQ f s) c' F) ⟨_,_,rfl,hfm.put (f:=λe=>{e with key:=xz s,val:=u.val E}) hsv h3 h4 ⟨rfl,rfl,rfl⟩ (λ_=>rfl) h1 (by grind)⟩ rfl (sv:=F) (by grind) h⟩;simp only[SV.val,Y,I,aL ht,G,O hob,Z (k:=.string ⟨s.toArray⟩) hd trivial H 9999,X,aL hd,h2',J,h3,W,bl,h4',c5 (k:=.string ⟨s.toArray⟩) (d:=.string) trivial,M _ hob,xz]
  ·exact h.elim
 ·exact h.elim
def Ed (P:Program)(t:TypeId)(key:Nat)(f:h_->Bool)(c:iO)(k:Option SV)(m:Mem)(nx:Nat)(K:KL):VC :=
 match P.underlying t,k with
 | some (.map kt et),A (.str _ s)=>(match P.underlying kt,mO P et with
   | some .string,A z=>(match c.look (f s) s z with
     | some v=>(match c.set s v with
       | some c'=>.all Int λb=>K (A (.dr [v,.int .i64 H b])) (m.put key (.fmap (kQ f s) c' (A (s,b)))) nx
       | none=>.fail "map: a value")
     | none=>.fail "map: a value")
   | _,_=>.fail "map: a key")
 | _,_=>.fail "map: a key"
theorem VE {key:Nat}{f c p}{k:Option SV}{E:Nat->Nat}(hm:m.get key=A (.fmap f c p))(h:(Ed P t key f c k m nx K).holds)(hs:bp Γ E m nx w) :
  ∃ kv r w',k=A kv/\(a_ t (.map (A (E key))) (kv.val E)).run P w=.ok r w'/\cn K Γ E nx r w':=by
 unfold Ed at h;split at h
 ·rename_i kt et l s ht;split at h
  ·rename_i z hd hz;split at h
   ·rename_i v hv;split at h
    ·rename_i c' hc';obtain⟨ob,hob,es,clock,rfl,hfm⟩:=hs.yZ key _ hm rfl;have hsv:=iO.W9 hc' E;have hlv:=iO.Zb hv E;rcases hfm.find s with ⟨h1,h2,h3⟩ | ⟨h1,j,e,h2,h3,h4,h5⟩
     ·have h2':V .string (.string ⟨s.toArray⟩) es.toList 0=_:=h2;rw[h1,p_ (by simp)] at hlv;refine⟨_,_,_,rfl,?_,cn.qk hs hm rfl rfl (B':=.fmap (kQ f s) c' (A (s,(clock:Int)))) ⟨_,_,rfl,hfm.add hsv h3 (λt b h=>by injection h with h;injection h with h1 h2;exact⟨h1.symm,h2⟩)⟩ rfl (sv:=A (.dr [v,.int .i64 H clock])) (λv hv=>by injection hv with hv;subst hv;rfl) (h clock)⟩;simp only[SV.val,SV.vals,a_,I,aL ht,G,O hob,Z (k:=.string ⟨s.toArray⟩) hd trivial H 9999,X,aL hd,h2',J,i6 (E:=E) hz,M _ hob,xz,goInt,hlv]
     ·have h2':V .string (.string ⟨s.toArray⟩) es.toList 0=_:=h2;have h4':e.key=.string ⟨s.toArray⟩:=h4;rw[h1,o_ rfl] at hlv;refine⟨_,_,_,rfl,?_,cn.qk hs hm rfl rfl (B':=.fmap (kQ f s) c' (A (s,(e.born:Int)))) ⟨_,_,rfl,hfm.put (f:=λe=>{e with key:=xz s}) hsv h3 h4 ⟨rfl,by show e.val=_;rw[h5,hlv],rfl⟩ (λ_=>rfl) h1 (λt b h=>by injection h with h;injection h with h1 h2;exact⟨h1.symm,h2⟩)⟩ rfl (sv:=A (.dr [v,.int .i64 H e.born])) (λv hv=>by injection hv with hv;subst hv;rfl) (h e.born)⟩;simp only[SV.val,SV.vals,a_,I,aL ht,G,O hob,Z (k:=.string ⟨s.toArray⟩) hd trivial H 9999,X,aL hd,h2',J,h3,W,bl,h4',c5 (k:=.string ⟨s.toArray⟩) (d:=.string) trivial,M _ hob,xz,goInt,hlv]
    ·exact h.elim
   ·exact h.elim
  ·exact h.elim
 ·exact h.elim
def Ee (key:Nat)(f:h_->Bool)(c:iO)(p:Option (h_×Int))(s v:Option SV)(m:Mem)(nx:Nat)(K:KL):VC :=
 match p,s,v with
 | some (t,b'),A (.int _ _ b),A u=>(match c.set t u with
   | some c'=>.and (sU b b') (K F (m.put key (.fmap (kQ f t) c' F)) nx)
   | none=>.fail "map: a value")
 | _,_,_=>.fail "map: no such entry"
theorem VF {mt:TypeId}{key:Nat}{f c p}{s v:Option SV}{E:Nat->Nat}(hm:m.get key=A (.fmap f c p))(h:(Ee key f c p s v m nx K).holds)(hs:bp Γ E m nx w) :
  ∃ sv u w',s=A sv/\v=A u/\(b_ mt (.map (A (E key))) (sv.val E) (u.val E)).run P w=.ok () w'/\cn K Γ E nx undef w':=by
 unfold Ee at h;split at h
 ·rename_i t b' ik il b u;split at h
  ·rename_i c' hc';obtain⟨hb,h⟩:=h;have hb:b=b':=hb;subst hb;obtain⟨ob,hob,es,clock,rfl,hfm⟩:=hs.yZ key _ hm rfl;have hsv:=iO.W9 hc' E;obtain⟨e,he,hborn,hkey⟩:=hfm.pd t b rfl;have hd:f t=true:=by
    cases hf:f t with
    | true=>rfl
    | false=>exact absurd hkey (hfm.no t hf e he)
   obtain⟨i,hi⟩: ∃ i,es.findIdx? (λe=>(e.born:Int)==b)=A i:=by
    cases hf:es.findIdx? (λe=>(e.born:Int)==b)with
    | some i=>exact⟨i,rfl⟩
    | none =>grind
   have hie:es[i]?=A e:=by
    have h0:=Array.findIdx?_eq_some_iff_getElem.1 hi;obtain⟨hlt,hp,_⟩:=h0;have hmem:es[i]∈ es.toList:=by simp
    have:=Xl hfm.st.2.1 hmem he (by grind)
    grind
   refine⟨_,_,_,rfl,rfl,?_,cn.qk hs hm rfl rfl (B':=.fmap (kQ f t) c' F) ⟨_,_,rfl,hfm.put (f:=λe=>{e with val:=u.val E}) hsv hie hkey ⟨hkey,rfl,rfl⟩ (λ_=>rfl) hd (by grind)⟩ rfl (sv:=F) (by grind) h⟩;simp only[SV.val,b_,I,O hob,G,asInt,asIntOf,J,hi,M _ hob]
  ·exact h.elim
 ·exact h.elim
def asf:List SV->List bh->List Gh
 | .bY kr _ _ _ _ _::r,.iP kB _ _ _ _ _::q=>.name kr 0::.merge kB kr::asf r q
 | _::r,_::q=>asf r q
 | _,_=>[]
def aoB:List bh->Nat
 | .iP kB _ _ _ _ _::_=>kB
 | _::q=>aoB q
 | []=>0
def aBt (c:iO)(m:Mem)(v:Option SV):List Gh:=match c,v with
 | .ref kF _,A (.ptr kp C 0)=>(match m.get kp,m.get kF with
   | some (.cells cs _ _),A (.sy _ ds _ _ _)=>asf cs ds++[.name kp (aoB ds),.merge kF kp]
   | _,_=>[])
 | _,_=>[]
def sX (P:Program)(t:TypeId)(x k v:Option SV)(m:Mem)(nx:Nat)(K:KL):VC :=
 Bp P t x k m λd kv key es clock _=>match v with
  | some u=>nP d kv (λr=>match r with
    | some (i,_)=>K F (m.put key (.map (Ac es i kv u) clock)) nx
    | none=>K F (m.put key (.map (G1 es (clock,kv,u)) (clock+1))) nx) es 0
  | none=>.fail "map: a value that is not known"
def n8 (P:Program)(t:TypeId)(x k v:Option SV)(m:Mem)(nx:Nat)(K:KL):VC:=match J7 x m with
 | some (key,f,c,_)=>(match aBt c m v with
   | []=>qp P t key f c k v m nx K
   | l=>ghs l [v] m λvs m'=>match vs,J7 x m' with
     | [v'],A (key',f',c',_)=>qp P t key' f' c' k v' m' nx K
     | _,_=>.fail "map: a value")
 | none=>sX P t x k v m nx K
theorem YN {k:SV}(h:Gm d k=C){E:Nat->Nat}{old:Value}(he:old=k.val E):(cO old (k.val E)).run P w=.ok (k.val E) w:=by subst he;simp[cO,RO h]
theorem Yh {E:Nat->Nat}{es:List (Nat×SV×SV)}{e:Nat×SV×SV}(h:es[i]?=A e):(jM E es).toArray[i]?=A {key:=e.2.1.val E,val:=e.2.2.val E,born:=e.1}:=by grind [Sx.jM]
theorem RA {kt et:TypeId}{kv u:SV}{key:Nat}{es:List (Nat×SV×SV)}{clock:Nat}{r:Hit}{E:Nat->Nat}(ht:P.underlying t=A (.map kt et))(hd:P.underlying kt=A d)(hkd:Gm d kv=C)
  (ho:w.heap[E key]?=A (.map (jM E es).toArray clock)) (hf:V d (kv.val E) (jM E es) 0=A (r.map λx=>(x.1,x.2.2.2.val E))) (hg: ∀ j e,r=A (j,e)->es[j]?=A e/\e.2.1.val E=kv.val E) :
  (Y t (.map (A (E key))) (kv.val E) (u.val E)).run P w=.ok () {w with heap:=w.heap.setIfInBounds (E key) (match r with
    | some (i,_)=>.map (jM E (Ac es i kv u)).toArray clock
    | none=>.map (jM E (G1 es (clock,kv,u))).toArray (clock+1))}:=by
 have hf':V d (kv.val E) (jM E es).toArray.toList 0=_:=hf;simp only[Y,I,aL ht,G,O ho,Z hd (En hkd E) H 9999,X,aL hd,hf',J];cases r with
 | none =>grind [M,Od]
 | some q =>obtain⟨i,e⟩:=q;obtain⟨g1,g2⟩:=hg i e rfl;simp only[W,Yh g1,bl,I,YN hkd g2,G,M _ ho,Hv,F4]
theorem Ry {pos:String}{guard:Option (Nat×Bool)}{k v:Operand}{E:Nat->Nat}(h:(sX P t (σ x) (σ k) (σ v) m nx K).holds)(hs:bp Γ E m nx w)(hr:Reads E σ ρ):Out P (cn K Γ E nx) ((execOp ρ ⟨dst,.mapUpdate t x k v,type,pos,after,guard⟩).run P w):=by
 unfold sX at h;obtain⟨kt,et,d,z,kv,key,es,clock,ht,hd,hz,hx,hk,hm,hkd,h⟩:=MR h;split at h
 ·rename_i u hv;obtain⟨obl,r,h1,h2⟩:=xV hkd es 0;obtain⟨ho,h⟩:=(h1 _).1 h;obtain⟨f1,f2⟩:=h2 ho;obtain⟨ob,hob,hb⟩:=hs.yZ key _ hm rfl;have hb:ob=.map (jM E es).toArray clock:=hb;subst hb;have hrun:=RA (P:=P) (u:=u) ht hd hkd hob (f1 E) (by grind);have hex:(execOp ρ ⟨dst,.mapUpdate t x k v,type,pos,after,guard⟩).run P w=(do Y t (.map (A (E key))) (kv.val E) (u.val E);pure .skip:Sem Next).run P w:=by simp only[execOp,hr x _ hx,hr k _ hk,hr v _ hv,SV.val]
  rw[hex,I,hrun];simp only[G,J,Out];cases r with
  | none=>exact cn.qk hs hm rfl rfl (B':=.map (G1 es (clock,kv,u)) (clock+1)) rfl rfl (by grind) h
  | some q=>exact cn.qk hs hm rfl rfl (B':=.map (Ac es q.1 kv u) clock) rfl rfl (by grind) h
 ·exact h.elim
theorem Fp {pos:String}{guard:Option (Nat×Bool)}{k v:Operand} :
  B7 P Γ σ m nx ⟨dst,.mapUpdate t x k v,type,pos,after,guard⟩ (n8 P t (σ x) (σ k) (σ v) m nx):=by
 intro K E w ρ h hs hw hσ hr;unfold n8 at h;split at h
 ·rename_i hf;obtain⟨hx,hm⟩:=AF hf;split at h
  rotate_left
  ·obtain⟨tm,m',htold,hsm,h⟩:=zk h hs;split at h
   ·rename_i v' key' f' c' p' hf';obtain⟨hx',hm'⟩:=AF hf';obtain⟨kv,u,w',hk,hv,hrun,haft⟩:=Fm hm' h hsm;subst hv;obtain⟨v0,q1,q2,_⟩:=htold.get 0 u rfl;have q1:σ v=A v0:=by simpa using q1
    have hex:(execOp ρ ⟨dst,.mapUpdate t x k v,type,pos,after,guard⟩).run P w=.ok .skip w':=by simp only[execOp,hr x _ hx',hr k _ hk,hr v _ q1,SV.val,I,← q2,hrun,G,J]
    rw[hex];exact haft
   ·exact h.elim
  obtain⟨kv,u,w',hk,hv,hrun,haft⟩:=Fm hm h hs;have hex:(execOp ρ ⟨dst,.mapUpdate t x k v,type,pos,after,guard⟩).run P w=.ok .skip w':=by simp only[execOp,hr x _ hx,hr k _ hk,hr v _ hv,SV.val,I,hrun,G,J]
  rw[hex];exact haft
 grind [Ry]
theorem adN {pos:String}{guard:Option (Nat×Bool)}{k v:Operand} :
  B7 P Γ σ m nx ⟨dst,.insert t x k v,type,pos,after,guard⟩ (n8 P t (σ x) (σ k) (σ v) m nx) :=
 λK E w ρ h hs hw hσ hr=>Fp (dst:=dst) (type:=type) (pos:=pos) (after:=after) (guard:=guard) K E w ρ h hs hw hσ hr
def vL (P:Program)(t:TypeId)(x k:Option SV)(m:Mem)(nx:Nat)(K:KL):VC :=
 Bp P t x k m λd kv key es clock z=>nP d kv (λr=>match r with
   | some (i,e)=>K (A (.dr [e.2.2,.int .i64 C e.1])) (m.put key (.map (Ac es i kv e.2.2) clock)) nx
   | none=>K (A (.dr [z,.int .i64 C clock])) (m.put key (.map (G1 es (clock,kv,z)) (clock+1))) nx) es 0
def Ez (P:Program)(t:TypeId)(x k:Option SV)(m:Mem)(nx:Nat)(K:KL):VC:=match J7 x m with
 | some (key,f,c,_)=>Ed P t key f c k m nx K
 | none=>vL P t x k m nx K
theorem VV {pos:String}{guard:Option (Nat×Bool)}{k:Operand}{E:Nat->Nat}(h:(vL P t (σ x) (σ k) m nx K).holds)(hs:bp Γ E m nx w)(hr:Reads E σ ρ):Out P (cn K Γ E nx) ((execOp ρ ⟨dst,.mapEntry t x k,type,pos,after,guard⟩).run P w):=by
 unfold vL at h;obtain⟨kt,et,d,z,kv,key,es,clock,ht,hd,hz,hx,hk,hm,hkd,h⟩:=MR h;obtain⟨obl,r,h1,h2⟩:=xV hkd es 0;obtain⟨ho,h⟩:=(h1 _).1 h;obtain⟨f1,f2⟩:=h2 ho;obtain⟨ob,hob,hb⟩:=hs.yZ key _ hm rfl;have hb:ob=.map (jM E es).toArray clock:=hb;subst hb;have hf':V d (kv.val E) (jM E es).toArray.toList 0=_:=f1 E;simp only[execOp,a_,hr x _ hx,hr k _ hk,SV.val,I,aL ht,G,O hob,Z hd (En hkd E) H 9999,X,aL hd,hf',J];cases r with
 | none =>
   simp only[ei,I,i6 (E:=E) hz,G,M _ hob,J,Out];have hpush:(jM E es).toArray.push {key:=kv.val E,val:=z.val E,born:=clock}=(jM E (G1 es (clock,kv,z))).toArray:=by rw[Od];simp
   rw[hpush];exact cn.qk hs hm rfl rfl (B':=.map (G1 es (clock,kv,z)) (clock+1)) rfl rfl (by grind [SV.val,SV.vals,goInt]) h
 | some q =>
   obtain⟨i,e⟩:=q;obtain⟨_,g2,g3⟩:=f2 i e rfl;have g2:es[i]?=A e:=by simpa using g2
   simp only[W,Yh g2,bl,I,YN hkd (g3 E),G,M _ hob,J,Out];have hset:((jM E es).toArray.modify i λe=>{e with key:=kv.val E})=(jM E (Ac es i kv e.2.2)).toArray:=by
    rw[Hv,F4]
    grind [Sx.jM]
   rw[hset];exact cn.qk hs hm rfl rfl (B':=.map (Ac es i kv e.2.2) clock) rfl rfl (by grind [SV.val,SV.vals,goInt]) h
theorem Wd {pos:String}{guard:Option (Nat×Bool)}{k:Operand} :
  B7 P Γ σ m nx ⟨dst,.mapEntry t x k,type,pos,after,guard⟩ (Ez P t (σ x) (σ k) m nx):=by
 intro K E w ρ h hs hw hσ hr;unfold Ez at h;split at h
 ·rename_i hf;obtain⟨hx,hm⟩:=AF hf;obtain⟨kv,r,w',hk,hrun,haft⟩:=VE hm h hs;have hex:(execOp ρ ⟨dst,.mapEntry t x k,type,pos,after,guard⟩).run P w=.ok (.value r) w':=by simp only[execOp,hr x _ hx,hr k _ hk,SV.val,I,hrun,G,J]
  rw[hex];exact haft
 grind [VV]
def NG (b:Int):List (Nat×SV×SV)->Nat->Option (Nat×SV)
 | [],_=>F
 | e::r,i=>match N (((e.1:Nat):Int)=b)with
   | true=>A (i,e.2.1)
   | false=>NG b r (i+1)
def qE (x s v:Option SV)(m:Mem)(nx:Nat)(K:KL):VC:=match x,s,v with
 | some (.map key),A (.int _ _ b),A u=>(match m.get key with
   | some (.map es clock)=>(match NG b es 0 with
     | some (i,k)=>K F (m.put key (.map (Ac es i k u) clock)) nx
     | none=>.fail "map: no such entry")
   | _=>.fail "map: no map")
 | _,_,_=>.fail "map: entry"
def xU (x s v:Option SV)(m:Mem)(nx:Nat)(K:KL):VC:=match J7 x m with
 | some (key,f,c,p)=>Ee key f c p s v m nx K
 | none=>qE x s v m nx K
theorem MK {b:Int}: ∀ {es:List (Nat×SV×SV)} {i j:Nat} {k:SV},NG b es i=A (j,k)->i<=j/\(∃ e,es[j-i]?=A e/\e.2.1=k)/\∀ E,(jM E es).findIdx? (λe=>(e.born:Int)==b)=A (j-i)
 | [],_,_,_,h=>by cases h
 | e::r,i,j,k,h=>by
   simp only[NG] at h;split at h
   ·grind [Sx.jM]
   ·rename_i hb;obtain⟨g1,⟨e',g2,g3⟩,g4⟩:=MK h;have hb:=j_ hb;refine⟨by omega,⟨e',?_,g3⟩,λE=> ?_⟩
    ·grind
    ·show List.findIdx? _ ({key:=e.2.1.val E,val:=e.2.2.val E,born:=e.1}::jM E r)=_
     grind
theorem OK {pos:String}{guard:Option (Nat×Bool)}{s v:Operand}{E:Nat->Nat}(h:(qE (σ x) (σ s) (σ v) m nx K).holds)(hs:bp Γ E m nx w)(hr:Reads E σ ρ):Out P (cn K Γ E nx) ((execOp ρ ⟨dst,.entryStore t x s v,type,pos,after,guard⟩).run P w):=by
 unfold qE at h;split at h
 ·rename_i key ik il b u hx hst hv;split at h
  ·rename_i es clock hm;split at h
   ·rename_i i k hi;obtain⟨_,⟨e,g2,g3⟩,g4⟩:=MK hi;have g2:es[i]?=A e:=by simpa using g2
    obtain⟨ob,hob,hb⟩:=hs.yZ key _ hm rfl;have hb:ob=.map (jM E es).toArray clock:=hb;subst hb;have hfi:(jM E es).toArray.findIdx? (λe=>(e.born:Int)==b)=A i:=by grind
    have hset:((jM E es).toArray.modify i λe=>{e with val:=u.val E})=(jM E (Ac es i k u)).toArray:=by
     rw[Hv,F4]
     grind [Sx.jM]
    have hrun:(execOp ρ ⟨dst,.entryStore t x s v,type,pos,after,guard⟩).run P w=.ok .skip {w with heap:=w.heap.setIfInBounds (E key) (.map (jM E (Ac es i k u)).toArray clock)}:=by simp only[execOp,b_,hr x _ hx,hr s _ hst,hr v _ hv,SV.val,I,O hob,G,asInt,asIntOf,J,hfi,M _ hob,hset]
    rw[hrun];exact cn.qk hs hm rfl rfl (B':=.map (Ac es i k u) clock) rfl rfl (by grind) h
   ·exact h.elim
  ·exact h.elim
 ·exact h.elim
theorem OX {pos:String}{guard:Option (Nat×Bool)}{s v:Operand} :
  B7 P Γ σ m nx ⟨dst,.entryStore t x s v,type,pos,after,guard⟩ (xU (σ x) (σ s) (σ v) m nx):=by
 intro K E w ρ h hs hw hσ hr;unfold xU at h;split at h
 ·rename_i hf;obtain⟨hx,hm⟩:=AF hf;obtain⟨sv,u,w',hk,hv,hrun,haft⟩:=VF (P:=P) (mt:=t) hm h hs;have hex:(execOp ρ ⟨dst,.entryStore t x s v,type,pos,after,guard⟩).run P w=.ok .skip w':=by simp only[execOp,hr x _ hx,hr s _ hk,hr v _ hv,SV.val,I,hrun,G,J]
  rw[hex];exact haft
 grind [OK]
def Nv (_P:Program)(_ats:Array TypeId)(_x _k:SV)(_m:Mem)(_nx:Nat)(_K:KL):VC:=.fail "delete"
theorem adK {ats:Array TypeId}{ty:TypeId}{x k:SV}{E:Nat->Nat}(h:(Nv P ats x k m nx K).holds)(_hs:bp Γ E m nx w) :
  ∃ r w',(Builtin.delete_ ats ty #[x.val E,k.val E]).run P w=.ok r w'/\cn K Γ E nx r w':=h.elim
def Wf (_P:Program)(_t:TypeId)(_x:Option SV)(_m:Mem)(_nx:Nat)(_K:KL):VC:=.fail "range"
theorem akw {pos:String}{guard:Option (Nat×Bool)} :
  B7 P Γ σ m nx ⟨dst,.range t x,type,pos,after,guard⟩ (Wf P t (σ x) m nx):=λ_ _ _ _ h _ _ _ _=>h.elim
def agR (_x:Option SV)(_s:Bool)(_m:Mem)(_nx:Nat)(_K:KL):VC:=.fail "next"
theorem apq {pos:String}{guard:Option (Nat×Bool)}{b:Bool} :
  B7 P Γ σ m nx ⟨dst,.next x b,type,pos,after,guard⟩ (agR (σ x) b m nx):=λ_ _ _ _ h _ _ _ _=>h.elim
end
section
variable {P : Program} {Γ : b5} {σ : Operand-> Option SV} {m : Mem} {nx : Nat}
def sr:List SV->List Int
 | .int .u8 _ n::r=>n::sr r
 | _=>[]
def abY:Nat->List SV->Option (Nat×List Int)
 | _,[]=>F
 | a,v::r=>match v with
   | .int .u8 _ n=>A (a,n::sr r)
   | _=>abY (a+1) r
theorem MN: ∀(cs:List SV) (j:Nat),j<(sr cs).length->∃ b,cs[j]?=A (.int .u8 b (M8 (sr cs) j))
 | [],j,h=>by simp[sr] at h
 | v::r,j,h=>by
   unfold sr at h ⊢;split at h
   ·rename_i b n r' e;injection e with e1 e2;subst e1;subst e2;cases j with
    | zero=>exact⟨b,rfl⟩
    | succ j =>obtain⟨b',hb⟩:=MN r j (by simpa using h);exact⟨b',by simpa [M8] using hb⟩
   ·simp at h
theorem UO: ∀(cs:List SV) (a a0:Nat) (zs:List Int),abY a cs=A (a0,zs)->a<=a0/\a0-a+zs.length<=cs.length/\∀ j,j<zs.length->∃ b,cs[a0-a+j]?=A (.int .u8 b (M8 zs j))
 | [],a,a0,zs,h=>by cases h
 | v::r,a,a0,zs,h=>by
   have rec':abY (a+1) r=A (a0,zs)->a<=a0/\a0-a+zs.length<=(v::r).length/\∀ j,j<zs.length->∃ b,(v::r)[a0-a+j]?=A (.int .u8 b (M8 zs j)):=λh=>by obtain⟨g1,g2,g3⟩:=UO r (a+1) a0 zs h;refine⟨by omega,by simp only[c!];omega,λj hj=> ?_⟩;obtain⟨b,hb⟩:=g3 j hj;exact⟨b,by rw[show a0-a+j=(a0-(a+1)+j)+1 by omega];simpa using hb⟩
   unfold abY at h;split at h
   ·rename_i b n;injection h with h;injection h with h1 h2;subst h1;subst h2;have hf:=MN (.int .u8 b n::r);have e:sr (.int .u8 b n::r)=n::sr r:=rfl;rw[e] at hf;have hl: ∀ l:List SV,(sr l).length<=l.length:=by
     intro l;induction l with
     | nil=>simp[sr]
     | cons v r ih =>
       unfold sr;split
       ·rename_i e;injection e with _ e;subst e;simpa using ih
       ·simp
    refine⟨T _,by have:=hl r;simp only[c!,ef];omega,λj hj=> ?_⟩;rw[ef,ct];exact hf j hj
   ·exact rec' h
def Wm (off cnt:Nat)(s:h_):Nat->List Int->List SV
 | _,[]=>[]
 | j,z::r=>.int .u8 H (if off<=j/\j<off+cnt then((s.getD (j-off) 0).toNat:Int)else z)::Wm off cnt s (j+1) r
theorem HT {off cnt:Nat}{s:h_}: ∀ {l:List Int} {j:Nat},(Wm off cnt s j l).length=l.length
 | [],_=>rfl
 | _::r,j=>by simp[Wm,HT (l:=r)]
theorem Zo {off cnt:Nat}{s:h_}: ∀ {l:List Int} {j q:Nat} {x:SV},(Wm off cnt s j l)[q]?=A x->x=.int .u8 H (if off<=j+q/\j+q<off+cnt then((s.getD (j+q-off) 0).toNat:Int)else M8 l q)
 | [],_,_,_,h=>by simp[Wm] at h
 | z::r,j,0,x,h=>by simp[Wm] at h;subst h;simp[M8]
 | z::r,j,q+1,x,h=>by simp only[Wm,b!] at h;rw[Zo h,show j+1+q=j+(q+1)by omega];simp[M8]
def HJ (key i n:Nat)(y:SV)(m:Mem)(nx:Nat)(K:KL):VC :=
 match y,m.get key with
 | .str _ s,A (.cells cs tot ty)=>(match abY 0 cs with
   | some (a,zs)=>.and (.atom (a<=i/\i+n<=a+zs.length)) (K (A (.int .i64 H (min s.length n:Nat))) (m.put key (.cells (cA cs a (Wm (i-a) (min s.length n) s 0 zs)) tot ty)) nx)
   | none=>.fail "copy: no bytes")
 | _,_=>.fail "copy: blocks"
theorem Oi (P:Program)(w:World)(s:h_)(n:Nat):(Builtin.firstCells 1 n (.string ⟨s.toArray⟩)).run P w=.ok ((s.take n).map λb=>S .u8 b.toNat).toArray w:=by
 have e:((ByteArray.mk s.toArray).extract 0 n)=⟨(s.take n).toArray⟩:=by have:=Fi s 0 n;simpa using this
 show Result.ok _ w=_;rw[e];simp
theorem YV {E:Nat->Nat}{key n:Nat}{y:SV}(P:Program)(h:(HJ key i n y m nx K).holds)(hs:bp Γ E m nx w) :
  ∃ s,y.val E=.string ⟨List.toArray s⟩/\∃ w',(storeCells ⟨E key,i,F⟩ ((s.take (min s.length n)).map λb=>S .u8 b.toNat)).run P w=.ok () w'/\cn K Γ E nx (.int .i64 ((min s.length n:Nat):Int)) w':=by
 unfold HJ at h;split at h
 ·rename_i lt s cs tot ty hk;split at h
  ·rename_i a zs hrun8;obtain⟨⟨ha,hin⟩,h⟩:=h;obtain⟨_,u2,u3⟩:=UO cs 0 a zs hrun8;rw[Nat.sub_zero] at u2;refine⟨s,rfl,?_⟩;obtain⟨ob,ho,c,fr,rfl,h1,h2,h3⟩:=hs.yZ key _ hk rfl;generalize hc:min s.length n=cnt at *;have hcs:cnt<=s.length:=by omega
   have hcn:cnt<=n:=by omega
   have hlen:((s.take cnt).map λb=>S .u8 b.toNat).length=cnt:=by rw[List.length_map,List.length_take];omega
   have hcl:cs.length<=c.size:=by
    cases hcs:cs.length with
    | zero=>omega
    | succ q =>have:=h2 q _ (a! (by omega));have:=(cy.1 this).1;omega
   have hrun:=ie (P:=P) (o:=i) ((s.take cnt).map λb=>S .u8 b.toNat) 0 w c ho h1 (by rw[hlen];omega) (λu hu=>by rw[List.mem_map] at hu;obtain⟨b,_,rfl⟩:=hu;rfl)
   refine⟨_,hrun,E,A (.int .i64 H (cnt:Int)),_,_,λ_ _=>rfl,T _,λv hv=>by injection hv with hv;subst hv;rfl,hs.write hk rfl rfl (B':=.cells (cA cs a (Wm (i-a) cnt s 0 zs)) tot ty) ?_ rfl,h⟩;refine⟨_,fr,rfl,by rw[cZ];exact h1,λq u hq=> ?_,by rw[cZ];exact h3⟩;have hsa: ∀ v,(if i<=q/\q<i+cnt then((s.take cnt).map λb=>S .u8 b.toNat)[q-i]? else c[q]?)=A v->(j6 c (i+0) ((s.take cnt).map λb=>S .u8 b.toNat))[q]?=A v:=by
    intro v hv;rw[← bn,nB,Nat.add_zero];have hqs:q<c.size:=by
     split at hv
     ·omega
     ·exact(cy.1 hv).1
    have hsl:(cA c.toList i ((s.take cnt).map λb=>S .u8 b.toNat)).length=c.size:=by rw[← nB];simp[cZ]
    obtain⟨x,hx⟩: ∃ x,(cA c.toList i ((s.take cnt).map λb=>S .u8 b.toNat))[q]?=A x:=⟨_,a! (by rw[hsl];exact hqs)⟩
    rcases Bc _ _ _ _ _ hx (by rw[hlen,Array.length_toList];omega)with ⟨g1,g2,g3⟩ | ⟨g1,g2⟩
    ·rw[hlen] at g2;rw[o_ ⟨g1,g2⟩] at hv;rw[hx,← g3];exact hv
    ·rw[hlen] at g1;rw[p_ (by omega)] at hv;rw[hx,← g2,bn];exact hv
   apply hsa;rcases Bc _ _ _ _ _ hq (by rw[HT];omega)with ⟨g1,g2,g3⟩ | ⟨g1,g2⟩
   ·have hu:=Zo g3;subst hu;rw[HT] at g2;by_cases e:i<=q/\q<i+cnt
    ·rw[o_ e,o_ (by omega),c8,List.getElem?_take_of_lt (by omega),a! (by omega)];simp only[W,SV.val,ct];rw[show q-a-(i-a)=q-i by omega,List.getD_eq_getElem?_getD,a! (by omega)];rfl
    ·rw[p_ e,p_ (by omega)];obtain⟨b,hb⟩:=u3 (q-a) (by omega);rw[show a-0+(q-a)=q by omega] at hb;have:=h2 _ _ hb;exact this
   ·rw[HT] at g1;rw[p_ (by omega)];exact h2 q u g2
  ·exact h.elim
 ·exact h.elim
def agK (P:Program)(ats:Array TypeId)(x y:SV)(m:Mem)(nx:Nat)(K:KL):VC :=
 match ats[0]? with
 | some t0=>(match P.underlying t0 with
   | some (.slice elem)=>(match sz P elem,x with
     | some s,.slc key o n _ _=>(match oS m s y,m.get key with
       | some (l,n'),A (.cells cs tot ty)=>if(yY (l.take (min n' n*s))&&N (o+(l.take (min n' n*s)).length<=cs.length))=C then
          K (A (.int .i64 C (min n' n:Nat))) (m.put key (.cells (cA cs o (l.take (min n' n*s))) tot ty)) nx else .fail "copy: cells"
       | _,_=>.fail "copy: blocks")
     | some 1,.bY key 1 H i n _=>HJ key i n y m nx K
     | _,_=>.fail "copy: to what")
   | _=>.fail "copy")
 | none=>.fail "copy"
theorem aoT {ats:Array TypeId}{ty:TypeId}{x y:SV}{E:Nat->Nat}
  (h:(agK P ats x y m nx K).holds) (hs:bp Γ E m nx w) :
  ∃ r w',(Builtin.copy_ ats ty #[x.val E,y.val E]).run P w=.ok r w'/\cn K Γ E nx r w':=by
 unfold agK at h;split at h
 ·rename_i t0 h0;split at h
  ·rename_i elem hd;split at h
   ·rename_i s key o n cl c hsz;split at h
    ·rename_i l n' cs tot ty' hy hk;split at h
     ·rename_i hc;simp only[L,m_] at hc;obtain⟨ylen,ycells,ynum⟩:=sq (P:=P) hs hy;have hyc:=ycells (min n' n) (Nat.min_le_left _ _);obtain⟨w',hrun,haft⟩:=cn.write (P:=P) (r:=.int .i64 ((min n' n:Nat):Int)) hs hk (q7 hc.1) hc.2 (λv hv=>by injection hv with hv;subst hv;rfl) h;refine⟨_,w',?_,haft⟩;simp only[SV.val,Builtin.copy_,h0,bf,cj,b!,I,aL hd,G,ylen,dV hsz];rw[show n'.min n=min n' n from rfl,hyc]
      simp only[G,hrun,J,goInt]
     ·exact h.elim
    ·exact h.elim
   ·rename_i key i n c hsz;obtain⟨s,hy,w',hrun,haft⟩:=YV P h hs;refine⟨_,w',?_,haft⟩;have hl:(ByteArray.mk s.toArray).size=s.length:=by simp[ByteArray.size]
    rw[hy];simp only[SV.val,Bool.false_and,cond_false,Nat.mul_one,Builtin.copy_,h0,bf,cj,b!,I,aL hd,G,Builtin.lenOf,J,dV hsz,hl];rw[show s.length.min n=min s.length n from rfl,Oi]
    simp only[G,hrun,goInt]
   ·exact h.elim
  ·exact h.elim
 ·exact h.elim
def X7:SV->Option bh
 | .int k _ n=>A (.int k λ_=>n)
 | .bool _ b=>A (.bool λ_=>b)
 | .str _ s=>A (.str λ_=>s)
 | _=>F
def y9:List SV->Option (List bh)
 | []=>A []
 | v::r=>(match X7 v,y9 r with
   | some c,A l=>A (c::l)
   | _,_=>F)
theorem Fj: ∀ {cs:List SV} {ay:List bh},y9 cs=A ay->ay.length=cs.length/\∀(k:Nat) (col:bh),ay[k]?=A col->∃ v,cs[k]?=A v/\∀ i E,(col.at i).val E=v.val E
 | [],ay,h=>by simp[y9] at h;subst h;exact⟨rfl,λk c hc=>by simp at hc⟩
 | v::r,ay,h=>by
   simp only[y9] at h;split at h
   ·rename_i c l hc hl;injection h with h;subst h;obtain⟨g1,g2⟩:=Fj hl;refine⟨by simp[g1],λk col hk=> ?_⟩;cases k with
    | zero =>simp at hk;subst hk;refine⟨v,rfl,λi E=> ?_⟩;unfold X7 at hc;split at hc<;>first | (injection hc with hc;subst hc;rfl) | cases hc
    | succ k=>exact g2 k col (by simpa using hk)
   ·cases h
theorem abV {zs:List SV}: ∀ {n i k:Nat} {v:SV},i<n->zs[k]?=A v->(times n zs)[i*zs.length+k]?=A v
 | 0,_,_,_,h,_=>absurd h (Nat.not_lt_zero _)
 | n+1,i,k,v,h,hk=>by
   have hkl:=(c7.1 hk).1;simp only[times];cases i with
   | zero=>rw[Nat.zero_mul,ct,c6 hkl];exact hk
   | succ i =>rw[ec,Nat.one_mul,List.getElem?_append_right (by omega),show i*zs.length+zs.length+k-zs.length=i*zs.length+k by omega];exact abV (by omega) hk
def LK (P:Program)(t:TypeId)(x y:SV)(m:Mem)(nx:Nat)(K:KL):VC :=
 match P.underlying t,x,y with
 | some (.slice e),.int .i64 C n,.int .i64 l c=>(match sz P e,mO P e,bytes P e with
   | some s,A z,A by_=>if(z.plain&&N (z.cells.length=s)&&N (s≠0)&&N (0<=n))=C then
      E7 l (n<=c/\by_*c<=140737488355328/\c<=9223372036854775807) (K (A (.slc nx 0 n.toNat l c.toNat)) ((nx,.cells (times (bif l then c.toNat else n.toNat) z.cells) (c.toNat*s) e)::m) (nx+1))else .fail "make: size"
   | _,_,_=>.fail "make")
 | some (.slice e),.int .i64 H n,.int .i64 _ c=>(match sz P e,mO P e,bytes P e with
   | some s,A z,A by_=>(match y9 z.cells with
     | some ay=>if(z.plain&&N (z.cells.length=s)&&N (s≠0))=C then
       .and (.atom (c=n/\0<=n/\by_*n<=140737488355328/\n<=9223372036854775807)) (K (A (.bY nx s H 0 n.toNat n.toNat)) ((nx,.rows H n.toNat ay H (n.toNat*s) e)::m) (nx+1))else .fail "make: size"
     | none=>.fail "make: columns")
   | _,_,_=>.fail "make")
 | _,_,_=>.fail "make: a length that is not known"
theorem S9 {pos:String}{guard:Option (Nat×Bool)}{y:Operand} :
  ∀ {a b:SV},(∀ n,a=.int .i64 H n->False)->∀(K:KL) (E:Nat->Nat) (w:World) (ρ:Operand->Value),(LK P t a b m nx K).holds->bp Γ E m nx w->Mem.wf nx m=C->ρ x=a.val E->ρ y=b.val E->
    Out P (cn K Γ E nx) ((execOp ρ ⟨dst,.makeSlice t x y,type,pos,after,guard⟩).run P w):=by
 intro a b hnl K E w ρ h hs hw ha hb;unfold LK at h;split at h
 ·rename_i e n l c hd;split at h
  ·rename_i s z by_ hsz hz hby;split at h
   ·rename_i hc;simp only[L,m_] at hc;obtain⟨⟨⟨h1,h2⟩,h3⟩,h4⟩:=hc;have hk:(n<=c/\by_*c<=140737488355328/\c<=9223372036854775807)/\(K (A (.slc nx 0 n.toNat l c.toNat)) ((nx,.cells (times (bif l then c.toNat else n.toNat) z.cells) (c.toNat*s) e)::m) (nx+1)).holds:=by
     unfold Sx.E7 at h;split at h
     ·split at h
      ·rename_i hh;exact⟨hh,h⟩
      ·exact h.elim
     ·exact h
    obtain⟨⟨k1,k2,k3⟩,hk⟩:=hk;have hwc:IntKind.i64.wrap c=c:=E5 (k:=.i64) ⟨by simp only[lo];omega,by simp only[hi];omega⟩;have hwn:IntKind.i64.wrap n=n:=E5 (k:=.i64) ⟨by simp only[lo];omega,by simp only[hi];omega⟩;have hby': ∃ i,P.info? e=A i/\i.bytes=by_:=by
     unfold bytes at hby;split at hby
     ·rename_i i hi;injection hby with hby;exact⟨i,hi,hby⟩
     ·cases hby
    obtain⟨i,hi,hib⟩:=hby';have hzc:=SV.lA (E:=E) h1;have hzs:(z.val E).cells.size=s:=by rw[hzc];simp[h2]
    have hnl: ¬ (c<0):=by omega
    have hbig: ¬ (((by_:Nat):Int)*c>2^ 48):=by
     have:(2:Int)^ 48=281474976710656:=by decide
     omega
    have hcond:((N (c<0)||decide (((by_:Nat):Int)*c>2^ 48))||decide (n<0)||decide (n>c))=false:=by simp only[Bool.or_eq_false_iff,n_];exact⟨⟨⟨hnl,hbig⟩,by omega⟩,by omega⟩
    have fin: ∀ z':Array Value,((cL (c.toNat*s)).map λi=>z'[i%z'.size]!)=(SV.vals E (times c.toNat z.cells)).toArray->
      Out P (cn K Γ E nx) (((newRow e ((cL (c.toNat*s)).map λi=>z'[i%z'.size]!) >>= λa=>pure (Value.slice (A a) n.toNat c.toNat):Sem Value).run P w).andThen λa w'=>(pure (Next.value a):Sem Next).run P w'):=by
     intro z' hz';rw[hz'];simp only[newRow,I,run_newObj,G,J,Out];have g: ∀ k:Nat,(times k z.cells).length=k*s:=by
      intro k;induction k with
      | zero=>simp[times]
      | succ k ih=>rw[times,List.length_append,ih,h2,ec];omega
     refine cn.alloc hs hw (Q9 (y6 (Lp hz)) _) (λi v hv=> ?_) (by simp[SV.cF,g]) hk (by simp[SV.val])
     ·generalize hq:(bif l then c.toNat else n.toNat)=q at hv
      have hqc:q<=c.toNat:=by cases l<;>simp at hq<;>omega
      have hsplit:times c.toNat z.cells=times q z.cells++times (c.toNat-q) z.cells:=by
       have g: ∀ a b:Nat,times (a+b) z.cells=times a z.cells++times b z.cells:=by
        intro a b;induction a with
        | zero=>simp[times]
        | succ a ih=>rw[show a+1+b=(a+b)+1 by omega,times,ih,times,List.append_assoc]
       rw[← g];congr 1;omega
      have:=(c7.1 hv).1;rw[SV.cF,bf,c8,hsplit,c6 this,hv];rfl
    simp only[execOp,Instr.makeSlice,ha,hb,SV.val,asInt,asIntOf,I,aL hd,G,J,rY hi,hib,hwc,hwn];rw[hcond];simp only[bU,if_false,I,run_askRoom,G,dV hsz,Sem.run_ite];by_cases h0:c.toNat*s=0
    ·rw[o_ h0];simp only[J,G];refine fin #[] ?_;have:c.toNat=0:=by rcases Nat.mul_eq_zero.1 h0 with h | h;exact h;exact absurd h h3
     rw[this];simp[times,SV.vals]
    ·rw[p_ h0];simp only[i6 (E:=E) hz,J,G];refine fin _ ?_;apply Array.ext';have:=DX (E:=E) (zs:=z.cells) (z:=(z.val E).cells) (by rw[hzc]) (by rw[hzs];exact h3) c.toNat;rw[hzs] at this;rw[SV.cF];simpa [hzs] using this
   ·exact h.elim
  ·exact h.elim
 ·exact(hnl _ rfl).elim
 ·exact h.elim
theorem apo {pos:String}{guard:Option (Nat×Bool)}{y:Operand} :
  B7 P Γ σ m nx ⟨dst,.makeSlice t x y,type,pos,after,guard⟩ (λK=>need (σ x) (λa=>need (σ y) (λb=>LK P t a b m nx K))):=by
 refine B7.need λa ha=>B7.need λb hb=> ?_;intro K E w ρ h hs hw hσ hr;by_cases hl: ∃ n,a=.int .i64 H n
 ·obtain⟨n,rfl⟩:=hl;unfold LK at h;split at h
  ·rename_i e;cases e
  ·rename_i e n' l' c hd heq;injection heq with _ _ heq;subst heq;split at h
   ·rename_i s z by_ hsz hz hby;split at h
    ·rename_i ay hcols;split at h
     ·rename_i hc;obtain⟨⟨rfl,k1,k2,k3⟩,h⟩:=h;have hc':=hc;simp only[L,m_] at hc';obtain⟨⟨h1,h2⟩,h3⟩:=hc';let K0:KL:=λsv m' nx'=>.atom (sv=A (.slc nx 0 c.toNat C c.toNat)/\m'=(nx,.cells (times c.toNat z.cells) (c.toNat*s) e)::m/\nx'=nx+1);have hk0:(LK P t (.int .i64 C c) (.int .i64 C c) m nx K0).holds:=by simp only[LK,hd,hsz,hz,hby];rw[o_ (by simp[h1,h2,h3,k1])];simp only[Sx.E7,cond_true];rw[o_ ⟨Int.le_refl _,k2,k3⟩];exact⟨rfl,rfl,rfl⟩
      have ho:=S9 (P:=P) (Γ:=Γ) (m:=m) (nx:=nx) (dst:=dst) (type:=type) (pos:=pos) (after:=after) (guard:=guard) (t:=t) (x:=x) (y:=y) (a:=.int .i64 C c) (b:=.int .i64 C c) (λ_ h=>by cases h) K0 E w ρ hk0 hs hw (by have:=hr x _ ha;exact this) (by have:=hr y _ hb;exact this);refine ho.mono ?_ (λ_ _ h=>h);rintro r w' ⟨E',sv,m',nx',g1,g2,g3,g4,rfl,rfl,rfl⟩;obtain⟨q1,q2⟩:=Fj hcols;refine⟨E',A (.bY nx s H 0 c.toNat c.toNat),_,_,g1,g2,λv hv=> ?_,?_,h⟩
      ·injection hv with hv;subst hv;rw[g3 _ rfl];simp[SV.val]
      ·
       have hblk: ∀ E' o,cq E' (.cells (times c.toNat z.cells) (c.toNat*s) e) o->cq E' (.rows H c.toNat ay H (c.toNat*s) e) o:=by rintro E' o ⟨c0,fr,rfl,f1,f2,f3⟩;refine⟨c0,fr,rfl,λ_=>f1,by rw[q1,h2,f3];exact T _,f3,λi k col hi hk=> ?_⟩;obtain⟨v,hv1,hv2⟩:=q2 k col hk;rw[hv2,q1];exact f2 _ _ (abV hi hv1)
       exact g4.abL (aa.of rfl rfl λ_=>⟨rfl,λE o ho=>hblk E o ho,id⟩)
     ·exact h.elim
    ·exact h.elim
   ·exact h.elim
  ·exact h.elim
 ·exact S9 (λn e=>hl ⟨n,e⟩) K E w ρ h hs hw (hr x _ ha) (hr y _ hb)
abbrev PT:=List SV->Mem->Nat->(SV->Mem->Nat->VC)->VC
def lift (K:SV->Mem->Nat->VC):KL:=λv m nx=>match v with
 | some v=>K v m nx
 | none=>.fail "a call's result that is not known"
def aq (P:Program)(f:FuncId)(pt:PT):Prop :=
 ∀ args m nx K,(pt args m nx K).holds->Mem.wf nx m=C->SV.lY nx args=C->∀ Γ E w,bp Γ E m nx w->
   Out P (cn (lift K) Γ E nx) ((callFunc f (SV.vals E args).toArray).run P w)
inductive yW where
 | fn (f:FuncId)
 | yield (key:Nat)
 | panic
def yW.sem (E:Nat->Nat):yW->Array Value->Sem Next
 | .fn f,args=>callFunc f args
 | .yield key,args=>c4 (E key) args
 | .panic,args=>do pure (.value (← Instr.panic (args.getD 0 undef)))
def Ao (P:Program)(Γ:b5)(KP:PK)(c:yW)(pt:PT):Prop :=
 ∀ Δ,Γ.le Δ->∀ args m nx K,(pt args m nx K).holds->Mem.wf nx m=C->SV.lY nx args=C->∀ E w,bp Δ E m nx w->
   Out P (cn (lift K) Δ E nx) ((c.sem E (SV.vals E args).toArray).run P w) (sN KP Δ E nx)
theorem aq.cok {f:FuncId}{pt:PT}(h:aq P f pt)(Γ:b5)(KP:PK):Ao P Γ KP (.fn f) pt:=λΔ _ args m nx K h1 h2 h3 E w hs=>(h args m nx K h1 h2 h3 Δ E w hs).E8
theorem Ao.mono {Δ:b5}{c:yW}{pt:PT}(h:Ao P Γ KP c pt)(hle:Γ.le Δ):Ao P Δ KP c pt:=λΘ h'=>h Θ (b5.le_trans hle h')
def atV (P:Program)(Γ:b5)(KP:PK)(σ:Operand->Option SV)(m:Mem)(nx:Nat)(o:Oper)(t:KL->VC):Prop :=∀ K E w ρ,(t K).holds->bp Γ E m nx w->Mem.wf nx m=C->WfS nx σ->Reads E σ ρ->Out P (cn K Γ E nx) ((execOp ρ o).run P w) (sN KP Γ E nx)
theorem B7.E8 {t:KL->VC}(h:B7 P Γ σ m nx o t):atV P Γ KP σ m nx o t:=λK E w ρ h1 h2 h3 h4 h5=>(h K E w ρ h1 h2 h3 h4 h5).E8
def VR:TypeDesc->Bool
 | .pointer _=>C
 | _=>H
def Vz (P:Program)(t:TypeId)(v:SV)(name:String):Option (FuncId×SV) :=
 match P.info? t with
 | some i=>(match i.methods.find? (·.name==name)with
   | some mt=>(match mt.func,mt.path.toList with
     | some (g,p),[]=>(match P.underlying t with
       | some d=>if VR d=p then A (g,v)else F
       | none=>F)
     | some (g,p),[s]=>(match s.deref,P.underlying s.struct,v with
       | false,A (.struct fs),.agg cs=>(match fs[s.index]? with
         | some f=>(match partOf P f.type cs f.offset,P.underlying f.type with
           | some u,A d=>if VR d=p then A (g,u)else F
           | _,_=>F)
         | none=>F)
       | _,_,_=>F)
     | _,_=>F)
   | none=>F)
 | none=>F
def LJ (P:Program)(call:yW->PT)(σ:Operand->Option SV)(c:Call)(m:Mem)(nx:Nat)(K:KL):VC :=
 match c.callee,Yk σ c.args.toList with
 | .value f,A args=>(match σ f with
   | some (.func (.func g) first captured)=>call (.fn g) (first++args++captured) m nx (λv m nx=>K (A v) m nx)
   | some (.yield key)=>call (.yield key) args m nx (λv m nx=>K (A v) m nx)
   | _=>.fail "call: of what")
 | .invoke r name,A args=>(match σ r with
   | some (.iface t v)=>(match Vz P t v name with
     | some (g,u)=>(match u.wf nx with
       | true=>call (.fn g) (u::args) m nx (λv m nx=>K (A v) m nx)
       | false=>.fail "call: receiver")
     | none=>.fail "call: no such method")
   | _=>.fail "call: of what")
 | .builtin .append,A [x,y]=>HI P c.argTypes x y m nx K
 | .builtin .copy,A [x,y]=>agK P c.argTypes x y m nx K
 | .builtin .delete,A [x,y]=>Nv P c.argTypes x y m nx K
 | _,_=>.fail "call"
theorem cn.WC {E:Nat->Nat}{r:Value}(h:cn (lift λv m nx=>K (A v) m nx) Γ E nx r w):cn K Γ E nx r w:=by
 obtain⟨E',sv,m',nx',h1,h2,h3,h4,h5⟩:=h;cases sv with
 | none=>exact h5.elim
 | some v=>exact⟨E',A v,m',nx',h1,h2,h3,h4,h5⟩
def Ky (call:yW->PT)(x:Option SV)(m:Mem)(nx:Nat):VC :=
 match x with
 | some (.iface t v)=>call .panic [.iface t v] m nx (λ_ _ _=>.fail "a panic")
 | _=>.fail "a panic of what"
theorem akv {call:yW->PT}(hcall: ∀ c,Ao P Γ KP c (call c)){pos:String}{guard:Option (Nat×Bool)} :
  atV P Γ KP σ m nx ⟨dst,.panic x,type,pos,after,guard⟩ (λ_=>Ky call (σ x) m nx):=by
 intro K E w ρ h hs hw hσ hr;unfold Ky at h;split at h
 ·rename_i t v hx;have hv:=hσ _ _ hx;have:=hcall .panic Γ Γ.le_refl [.iface t v] m nx _ h hw (by simp only[SV.lY,hv,Bool.and_self]) E w hs;have hrun:(execOp ρ ⟨dst,.panic x,type,pos,after,guard⟩).run P w=((yW.panic).sem E (SV.vals E [.iface t v]).toArray).run P w:=by simp only[execOp,hr x _ hx,yW.sem,SV.vals];rfl
  rw[hrun];refine this.mono (λr w' hh=> ?_) (λ_ _ h=>h);obtain⟨E',sv,m',nx',h1,h2,h3,h4,h5⟩:=hh;cases sv<;>exact h5.elim
 ·exact h.elim
theorem Vw {nx:Nat}{σ:Operand->Option SV}(hσ:WfS nx σ): ∀ {xs:List Operand} {l:List SV},Yk σ xs=A l->SV.lY nx l=C
 | [],l,h=>by simp[Yk] at h;subst h;rfl
 | x::r,l,h=>by
   simp only[Yk] at h;split at h
   ·rename_i v l' hv hl;injection h with h;subst h;simp only[SV.lY,L];exact⟨hσ x v hv,Vw hσ hl⟩
   ·cases h
theorem Yr {E:Nat->Nat}{v u:SV}{name:String}{g:FuncId}(h:Vz P t v name=A (g,u))(fuel:Nat) :
  (method (fuel+1) t (v.val E) name).run P w=.ok (g,u.val E) w:=by
 unfold Vz at h;split at h
 ·rename_i i hi;split at h
  ·rename_i mt hm;split at h
   ·rename_i g' p hfn hpl;split at h
    ·rename_i d hd;split at h
     ·rename_i hp;injection h with h;injection h with e1 e2;subst e1;subst e2;simp only[method,I,rY hi,G,hm,hpl,follow,J,hfn];cases d<;>simp only[VR] at hp<;>subst hp<;>simp only[receiverAt,I,aL hd,G,Place.get,J]
     ·cases h
    ·cases h
   ·rename_i g' p s hfn hpl;split at h
    ·rename_i fs cs hder hst;split at h
     ·rename_i f hf;split at h
      ·rename_i u' d hu hd;split at h
       ·rename_i hp;injection h with h;injection h with e1 e2;subst e1;subst e2;simp only[method,I,rY hi,G,hm,hpl,follow,aL hst,hf,hder,bU,if_false,SV.val,od hu,J,hfn];cases d<;>simp only[VR] at hp<;>subst hp<;>simp only[receiverAt,I,aL hd,G,Place.get,J]
       ·cases h
      ·cases h
     ·cases h
    ·cases h
   ·cases h
  ·cases h
 ·cases h
theorem ym (E:Nat->Nat)(a b:List SV):SV.vals E (a++b)=SV.vals E a++SV.vals E b:=by simp[SV.cF]
theorem aoS {call:yW->PT}(hcall: ∀ c,Ao P Γ KP c (call c)){pos:String}{guard:Option (Nat×Bool)}{c:Call} :
  atV P Γ KP σ m nx ⟨dst,.call c,type,pos,after,guard⟩ (LJ P call σ c m nx):=by
 intro K E w ρ h hs hw hσ hr;obtain⟨callee,args,ats⟩:=c;unfold LJ at h;split at h
 ·rename_i f avs hca hargs;simp only at hca;subst hca;split at h
  ·rename_i g first captured hf
   have hfw:=hσ _ _ hf;simp only[SV.wf,L] at hfw;have:=hcall (.fn g) Γ Γ.le_refl (first++avs++captured) m nx _ h hw (kS (kS hfw.1 (Vw hσ hargs)) hfw.2) E w hs
   have hrun:(execOp ρ ⟨dst,.call ⟨.value f,args,ats⟩,type,pos,after,guard⟩).run P w=(callFunc g (SV.vals E (first++avs++captured)).toArray).run P w:=by simp only[execOp,resolve,hr _ _ hf,SV.val,Deferred.ofValue,I,J,G,invoke];rw[xR hr hargs,ym,ym];simp
   rw[hrun];exact this.mono (λr w' h=>h.WC) (λ_ _ h=>h)
  ·rename_i key hf;have:=hcall (.yield key) Γ Γ.le_refl avs m nx _ h hw (Vw hσ hargs) E w hs;have hrun:(execOp ρ ⟨dst,.call ⟨.value f,args,ats⟩,type,pos,after,guard⟩).run P w=(c4 (E key) (SV.vals E avs).toArray).run P w:=by simp only[execOp,resolve,hr _ _ hf,SV.val,Deferred.ofValue,I,J,G,invoke];rw[xR hr hargs];simp
   rw[hrun];exact this.mono (λr w' h=>h.WC) (λ_ _ h=>h)
  ·exact h.elim
 ·rename_i r name avs hca hargs;simp only at hca;subst hca;split at h
  ·rename_i t v hrv;split at h
   ·rename_i g u hm;split at h
    ·rename_i huw;have:=hcall (.fn g) Γ Γ.le_refl (u::avs) m nx _ h hw (by simp only[SV.lY,L];exact⟨huw,Vw hσ hargs⟩) E w hs;have hrun:(execOp ρ ⟨dst,.call ⟨.invoke r name,args,ats⟩,type,pos,after,guard⟩).run P w=(callFunc g (SV.vals E (u::avs)).toArray).run P w:=by
      simp only[execOp,resolve,hr _ _ hrv,SV.val,I,J,G,invoke];rw[xR hr hargs];simp only[Array.getElem?_append_left,List.size_toArray,List.length_singleton,Nat.lt_one_iff,bf,cj,callMethod,I,run_program,G];have hfm:=Yr (E:=E) (w:=w) hm (P.types.size+Made.depth-1);have hpos:0<Made.depth:=by decide
      rw[show P.types.size+Made.depth-1+1=P.types.size+Made.depth by omega] at hfm;rw[hfm];simp only[G];congr 2;simp[SV.vals]
     rw[hrun];exact this.mono (λr w' h=>h.WC) (λ_ _ h=>h)
    ·exact h.elim
   ·exact h.elim
  ·exact h.elim
 ·rename_i x y hca hargs;simp only at hca;subst hca;obtain⟨r,w',hrun,haft⟩:=YT (P:=P) (ty:=type) h hs hw;rw[bW,BigFrame.builtin_append,xR hr hargs];simp only[SV.vals,I];rw[hrun];exact haft
 ·rename_i x y hca hargs;simp only at hca;subst hca;obtain⟨r,w',hrun,haft⟩:=aoT (P:=P) (ty:=type) h hs;rw[bW,BigFrame.builtin_copy,xR hr hargs];simp only[SV.vals,I];rw[hrun];exact haft
 ·rename_i x y hca hargs;simp only at hca;subst hca;obtain⟨r,w',hrun,haft⟩:=adK (P:=P) (ty:=type) h hs;rw[bW,BigFrame.builtin_delete,xR hr hargs];simp only[SV.vals,I];rw[hrun];exact haft
 ·exact h.elim
end
structure St where
 tmps:List (Option SV)
 m:Mem
 nx:Nat
def slot (tmps:List (Option SV))(i:Nat):Option SV :=
 match tmps,i with
 | [],_=>F
 | v::_,0=>v
 | _::r,i+1=>slot r i
theorem yf: ∀ {tmps:List (Option SV)} {i:Nat} {v:SV},slot tmps i=A v->tmps[i]?=A (A v)
 | [],_,_,h=>by simp[slot] at h
 | x::_,0,v,h=>by simp[slot] at h;simp[h]
 | _::r,i+1,v,h=>by simp[slot] at h;simpa using yf h
def ev (tmps:List (Option SV)):Operand->Option SV
 | .tmp i=>slot tmps i
 | .const v=>SV.ofConst v
 | .global g=>A (.raw (.pointer (A ⟨g,0,F⟩)))
 | .func f=>A (.func (.func f) [] [])
def iA (nx:Nat):List (Option SV)->Bool
 | []=>C
 | none::r=>iA nx r
 | some v::r=>v.wf nx&&iA nx r
theorem tE {nx:Nat}: ∀ {l:List (Option SV)},iA nx l=C->∀ {i:Nat} {v:SV},l[i]?=A (A v)->v.wf nx=C
 | none::r,h,0,v,hv=>by simp at hv
 | some x::r,h,0,v,hv=>by simp at hv;subst hv;simp only[iA,L] at h;exact h.1
 | none::r,h,i+1,v,hv=>tE (l:=r) (by simpa [iA] using h) (i:=i) (by simpa using hv)
 | some x::r,h,i+1,v,hv=>tE (l:=r) (by simp only[iA,L] at h;exact h.2) (i:=i) (by simpa using hv)
structure gj (E:Nat->Nat)(tmps:List (Option SV))(a:Act):Prop where
 size:a.tmps.size=tmps.length
 val: ∀(i:Nat) (v:SV),tmps[i]?=A (A v)->a.tmps[i]?=A (v.val E)
theorem gj.reads {E:Nat->Nat}(h:gj E tmps a):Reads E (ev tmps) a.eval:=by
 intro x v hx;cases x with
 | tmp i =>have:=h.val i v (yf hx);simp[Act.eval,Array.getD_eq_getD_getElem?,this]
 | const c=>exact(SV.LN hx).symm
 | global g=>simp[ev] at hx;subst hx;rfl
 | func f=>simp[ev] at hx;subst hx;rfl
theorem gj.wf (h:iA nx tmps=C):WfS nx (ev tmps):=by
 intro x v hx;cases x with
 | tmp i=>exact tE h (yf hx)
 | const c=>exact Pr hx
 | global g=>simp[ev] at hx;subst hx;rfl
 | func f=>simp[ev] at hx;subst hx;rfl
theorem gj.congr {E E':Nat->Nat}(h:gj E tmps a)(hw:iA nx tmps=C)(hE: ∀ k,k<nx->E' k=E k):gj E' tmps a :=⟨h.size,λi v hv=>by rw[SV.val_congr hE v (tE hw hv)];exact h.val i v hv⟩
def eU (tmps:List (Option SV))(dst:Option Nat)(v:Option SV):List (Option SV) :=
 match dst with
 | none=>tmps
 | some d=>tmps.set d v
theorem gj.put {E:Nat->Nat}(h:gj E tmps a){dst:Option Nat}{sv:Option SV}{r:Value}(hr: ∀ v,sv=A v->r=v.val E) :
  gj E (eU tmps dst sv) (a.put dst r):=by
 cases dst with
 | none=>exact h
 | some d =>
   refine⟨by simp[Act.put,eU,h.size],λi v hv=> ?_⟩;simp only[eU] at hv;rw[c_] at hv;simp only[Act.put];rw[cB];split at hv
   ·rename_i e;subst e;split at hv
    ·rename_i hlt;injection hv with hv;rw[o_ rfl,o_ (by rw[h.size];exact hlt),hr v hv]
    ·cases hv
   ·rename_i e;rw[p_ e];exact h.val i v hv
theorem Bo {nx:Nat}: ∀ {l:List (Option SV)} {d:Nat} {v:Option SV},iA nx l=C->(∀ u,v=A u->u.wf nx=C)->iA nx (l.set d v)=C
 | [],_,_,h,_=>h
 | none::r,0,F,h,hv=>h
 | none::r,0,A u,h,hv=>by simp only[d!,iA,L];exact⟨hv u rfl,h⟩
 | some x::r,0,F,h,hv=>by simp only[iA,L] at h;exact h.2
 | some x::r,0,A u,h,hv=>by simp only[iA,L,d!] at h ⊢;exact⟨hv u rfl,h.2⟩
 | none::r,d+1,v,h,hv=>Bo (l:=r) h hv
 | some x::r,d+1,v,h,hv=>by simp only[iA,L,List.set_cons_succ] at h ⊢;exact⟨h.1,Bo h.2 hv⟩
theorem qY {n m:Nat}(h:n<=m): ∀ {l:List (Option SV)},iA n l=C->iA m l=C
 | [],_=>rfl
 | none::r,hl=>qY h (l:=r) hl
 | some x::r,hl=>by simp only[iA,L] at hl ⊢;exact⟨SV.pz h x hl.1,qY h hl.2⟩
theorem xC {l:List (Option SV)}{dst:Option Nat}{v:Option SV}(h:iA nx l=C)(hv: ∀ u,v=A u->u.wf nx=C):iA nx (eU l dst v)=true:=by
 cases dst with
 | none=>exact h
 | some d=>exact Bo h hv
def wfO (nx:Nat):Option SV->Bool
 | none=>C
 | some v=>v.wf nx
theorem atH {v:Option SV}(h:wfO nx v=C): ∀ u,v=A u->u.wf nx=true:=by rintro u rfl;exact h
def O5 (D:Nat):Deferred:={target:=.collected D,args:=#[]}
def Marks (Γ:b5)(ds:List Deferred)(w:World):Prop :=∃ Ds:List Nat,ds=Ds.map O5++Γ.tail/\Ds.Nodup/\(∀ D∈ Ds,w.heap[D]?=A (.deferred (A []))/\D∉ Γ.keep/\Γ.w0.heap.size<=D)/\(Γ.rf=H->Ds=[])
theorem Marks.nil (Γ:b5)(w:World)(ht:Γ.tail=[]):Marks Γ [] w:=(by simp_all [Sx.Marks])
structure Sat (Γ:b5)(E:Nat->Nat)(st:St)(a:Act)(w:World):Prop where
 tm:gj E st.tmps a
 wt:iA st.nx st.tmps=C
 df:Marks Γ a.defers w
 mm:bp Γ E st.m st.nx w
theorem bp.weaken {Δ:b5}(hle:Γ.le Δ){E:Nat->Nat}(h:bp Δ E m nx w):bp Γ E m nx w :=
 ⟨h.p7,h.qq,h.lt,λk B a hk hn hr=>by have:=h.rq k B a hk hn hr;rw[hle.m,hle.w] at this;exact this,by have:=h.ext;rw[hle.m,hle.w] at this;exact this,
  ⟨ag hle.nx h.cx.1,λk hk=>(h.cx.2 k (an hk hle.nx)).trans (hle.e k hk)⟩,λD hD=>h.kp D (hle.keep D hD)⟩
def b5.more (Γ:b5)(Ds:List Nat):b5:={Γ with keep:=Ds++Γ.keep}
theorem b5.VX (Γ:b5)(Ds:List Nat):Γ.le (Γ.more Ds):=⟨rfl,rfl,T _,λ_ _=>rfl,λ_D h=>List.mem_append_right _ h⟩
theorem bp.more {E:Nat->Nat}(h:bp Γ E m nx w){Ds:List Nat}(hD: ∀ D∈ Ds,w.heap[D]?=A (.deferred (A []))):bp (Γ.more Ds) E m nx w :=⟨h.p7,h.qq,h.lt,h.rq,h.ext,h.cx,λD hm=>by rcases List.mem_append.1 hm with h1 | h1;exact hD D h1;exact h.kp D h1⟩
theorem Marks.kept {Ds:List Nat}{ds:List Deferred}(he:ds=Ds.map O5++Γ.tail)(hn:Ds.Nodup)(hk: ∀ D∈ Ds,D∉ Γ.keep/\Γ.w0.heap.size<=D)(hrf:Γ.rf=H->Ds=[]){E:Nat->Nat}(h:bp (Γ.more Ds) E m nx w):Marks Γ ds w :=⟨Ds,he,hn,λD hD=>⟨h.kp D (List.mem_append_left _ hD),hk D hD⟩,hrf⟩
def guardOf (ops:Array Oper)(o:Oper)(tmps:List (Option SV)):Option Bool :=
 match o.guard with
 | none=>A C
 | some (j,want)=>(match ops[j]? with
   | some oj=>(match oj.dst with
     | some d=>(match slot tmps d with
       | some (.bool C b)=>A (b==want)
       | some (.dr [])=>A H
       | _=>F)
     | none=>F)
   | none=>F)
theorem CH {E:Nat->Nat}(h:gj E tmps a){b:Bool}(hg:guardOf ops o tmps=A b) :
  Region.wanted o (yielded ops a.tmps)=b:=by
 unfold guardOf at hg;unfold Region.wanted;split at hg
 ·grind
 ·rename_i j want e;rw[e];split at hg
  ·rename_i oj hj;split at hg
   ·rename_i d hd;split at hg
    ·rename_i c hc;have:=h.val d _ (yf hc);injection hg with hg;subst hg
     grind [yielded,SV.val]
    ·rename_i hc;have:=h.val d _ (yf hc)
     grind [yielded,SV.val]
    ·cases hg
   ·cases hg
  ·cases hg
def Ek (ops:Array Oper)(j:Nat):Bool:=ops.toList.any λo=>match o.guard with
 | some (i,_)=>Nat.beq i j
 | none=>H
def aeF (g:Bool)(v:Option SV)(nx:Nat)(k:Option SV->VC):VC :=
 match g,v with
 | true,A (.bool H b)=>fork b (λc=>k (A (.bool C c)))
 | _,v=>match wfO nx v with
   | true=>k v
   | false=>.fail "a key out of bounds"
def ap2 (g:Bool)(dst:Option Nat)(v:Option SV)(tmps:List (Option SV))(m:Mem)(nx:Nat)(K:St->VC):VC :=aeF g v nx (λv=>K ⟨eU tmps dst v,m,nx⟩)
theorem H8 (g:Bool)(v:Option SV)(nx:Nat): ∃(p:Prop) (u:Option SV),(∀ k,(aeF g v nx k).holds↔p/\(k u).holds)/\(p->wfO nx u=C)/\(∀(E:Nat->Nat) (r:Value),(∀ x,v=A x->r=x.val E)->∀ x,u=A x->r=x.val E):=by
 unfold aeF;split
 ·rename_i b;exact⟨True,A (.bool C b),λk=>by rw[dY];grind,λ_=>rfl,λE r h x hx=>by injection hx with hx;subst hx;exact h (.bool H b) rfl⟩
 ·cases hw:wfO nx v with
  | true=>exact⟨True,v,(by grind),λ_=>hw,λE r h=>h⟩
  | false=>exact⟨False,F,λk=>⟨λh=>h.elim,λh=>h.1.elim⟩,λh=>h.elim,(by grind)⟩
def lop (P:Program)(call:yW->PT)(σ:Operand->Option SV)(m:Mem)(nx:Nat)(o:Op)(K:KL):VC :=
 match o with
 | .alloc t=>(match mO P t with
   | some z=>We t z m nx K
   | none=>.fail "alloc")
 | .box t x=>need (σ x) (λv=>We t v m nx K)
 | .buildSlice t len parts=>tX P σ t len parts.toList m nx K
 | .makeSlice t x y=>need (σ x) (λa=>need (σ y) (λb=>LK P t a b m nx K))
 | .store t a x=>yA P t (σ a) (σ x) m nx K
 | .call c=>LJ P call σ c m nx K
 | .makeMap t r=>HO P t (r.map σ) m nx K
 | .mapUpdate t x k v=>n8 P t (σ x) (σ k) (σ v) m nx K
 | .insert t x k v=>n8 P t (σ x) (σ k) (σ v) m nx K
 | .mapEntry t x k=>Ez P t (σ x) (σ k) m nx K
 | .entryStore _ x s v=>xU (σ x) (σ s) (σ v) m nx K
 | .range t x=>Wf P t (σ x) m nx K
 | .next x b=>agR (σ x) b m nx K
 | .panic x=>Ky call (σ x) m nx
 | _=>.fail "no such operation"
theorem azC {call:yW->PT}(hcall: ∀ c,Ao P Γ KP c (call c))(o:Oper):atV P Γ KP σ m nx o (lop P call σ m nx o.op):=by
 obtain⟨dst,op,type,pos,after,guard⟩:=o;cases op
 case alloc t=>exact B7.E8 aj9
 case box t x=>exact B7.E8 au0
 case buildSlice t len parts=>exact B7.E8 OQ
 case makeSlice t x y=>exact B7.E8 apo
 case store t a x=>exact B7.E8 Td
 case call c=>exact aoS hcall
 case makeMap t r=>exact B7.E8 Y8
 case mapUpdate t x k v=>exact B7.E8 Fp
 case insert t x k v=>exact B7.E8 adN
 case mapEntry t x k=>exact B7.E8 Wd
 case entryStore t x s v=>exact B7.E8 OX
 case range t x=>exact B7.E8 akw
 case next x b=>exact B7.E8 apq
 case panic x=>exact akv hcall
 all_goals exact B7.E8 (B7.fail _)
def iz (P:Program)(call:yW->PT)(ops:Array Oper)(j:Nat)(o:Oper)(K:St->VC)(st:St):VC :=
 match guardOf ops o st.tmps with
 | some C=>(match jC P o.op with
   | true=>qop P (λk=>st.m.get k) (ev st.tmps) o.op (λv=>ap2 (Ek ops j) o.dst v st.tmps st.m st.nx K)
   | false=>(match Mem.wf st.nx st.m with
     | true=>lop P call (ev st.tmps) st.m st.nx o.op (λv m nx=>ap2 (Ek ops j) o.dst v st.tmps m nx K)
     | false=>.fail "a key out of bounds"))
 | some H=>K ⟨eU st.tmps o.dst (A (.dr [])),st.m,st.nx⟩
 | none=>.fail "a guard that is not known"
def qn (K:St->VC)(Γ:b5)(E:Nat->Nat)(nx:Nat)(a:Act)(w:World):Prop :=∃ E' st',(∀ k,k<nx->E' k=E k)/\nx<=st'.nx/\Sat Γ E' st' a w/\(K st').holds
theorem qn.trans {K K':St->VC}{E:Nat->Nat}(h:qn K Γ E nx a w)
  (hk: ∀ E' st',nx<=st'.nx->Sat Γ E' st' a w->(K st').holds->qn K' Γ E' st'.nx a w):qn K' Γ E nx a w:=by
 obtain⟨E',st',h1,h2,h3,h4⟩:=h;obtain⟨E'',st'',k1,k2,k3,k4⟩:=hk E' st' h2 h3 h4;exact⟨E'',st'',λk hk=>(k1 k (an hk h2)).trans (h1 k hk),ag h2 k2,k3,k4⟩
theorem PE {K:St->VC}{E:Nat->Nat}{g:Bool}{dst:Option Nat}{sv:Option SV}{r:Value}
  (h:(ap2 g dst sv tmps m nx K).holds) (ht:gj E tmps a) (hw:iA nx tmps=C) (hd:Marks Γ a.defers w) (hm:bp Γ E m nx w) (hr: ∀ v,sv=A v->r=v.val E) :
  qn K Γ E nx (a.put dst r) w:=by
 have hdf:Marks Γ (a.put dst r).defers w:=by cases dst<;>exact hd
 obtain⟨p,u,h1,h2,h3⟩:=H8 g sv nx;obtain⟨hp,hk⟩:=(h1 _).1 h;exact⟨E,_,λ_ _=>rfl,T _,⟨ht.put (h3 E r hr),(by grind [xC,atH]),hdf,hm⟩,hk⟩
theorem RH (h:jC P o.op=C):AR o=true:=by unfold AR;cases ho:o.op<;>first | rfl | (rw[ho] at h;cases h)
theorem Zd {call:yW->PT}(h:(lop P call σ m nx o.op K).holds):AR o=true:=by unfold AR;cases ho:o.op<;>first | rfl | (rw[ho] at h;exact h.elim)
def xH (KP:PK)(Γ:b5)(E:Nat->Nat)(nx:Nat)(e:Exit)(a:Act)(w:World):Prop :=∃ ch,e=.panic ch/\Marks Γ a.defers w/\sN KP Γ E nx ch w
theorem Jl {ro:Option Nat}{call:yW->PT}(hcall: ∀ c,Ao P Γ KP c (call c)){j:Nat}{K:St->VC}{st:St}(h:(iz P call ops j o K st).holds)
  {E:Nat->Nat}   (hs:Sat Γ E st a w) (Q:Exit->Act->World->Prop) (hP: ∀ e w,xH KP Γ E st.nx e a w->Q e a w) :
  if Region.wanted o (yielded ops a.tmps)then o.wpIn (Fr ro) 0 P a w (λa' w'=>(∃ r,a'=a.put o.dst r)/\qn K Γ E st.nx a' w') Q else qn K Γ E st.nx (a.put o.dst undef) w:=by
 unfold iz at h;split at h
 ·rename_i hg;rw[CH hs.tm hg,o_ rfl];split at h
  ·rename_i hq;obtain⟨obl,sv,h1,h2⟩:=aeM (P:=P) (look:=λk=>st.m.get k) (σ:=ev st.tmps) o;obtain⟨hobl,hk⟩:=(h1 _).1 h;obtain⟨r,hrun,hv⟩:=h2 E w a.eval ⟨hs.mm.yZ,hs.mm.adj,hs.mm.p7⟩ hs.tm.reads hobl;refine Out.wp (RH hq) (R:=λv w'=>w'=w/\v=r) (RP:=λ_ _=>False) ?_ ?_ (λ_ _ h=>h.elim)
   ·rw[hrun];exact⟨rfl,rfl⟩
   ·rintro v w' ⟨rfl,rfl⟩;exact⟨⟨_,rfl⟩,PE hk hs.tm hs.wt hs.df hs.mm hv⟩
  ·split at h
   ·rename_i hwf;obtain⟨Ds,d1,d2,d3,d4⟩:=hs.df;have hm:=hs.mm.more λD hD=>(d3 D hD).1;have:=azC (λc=>(hcall c).mono (Γ.VX Ds)) o _ E w a.eval h hm hwf (gj.wf hs.wt) hs.tm.reads;refine Out.wp (Zd h) this ?_ ?_
    rotate_left
    ·rintro ch w' ⟨E',v,m',nx',g1,g2,g3,gw,g4,g5⟩;exact hP _ _ ⟨ch,rfl,Marks.kept d1 d2 (λD hD=>(d3 D hD).2) d4 g4,E',v,m',nx',g1,g2,g3,gw,g4.weaken (Γ.VX Ds),g5⟩
    rintro r w' ⟨E',sv,m',nx',g1,g2,g3,g4,g5⟩;have ht:=hs.tm.congr hs.wt g1;obtain⟨E'',st',k1,k2,k3,k4⟩:=PE g5 ht (qY g2 hs.wt) (Marks.kept d1 d2 (λD hD=>(d3 D hD).2) d4 g4) (g4.weaken (Γ.VX Ds)) g3;exact⟨⟨_,rfl⟩,E'',st',λk hk=>(k1 k (an hk g2)).trans (g1 k hk),ag g2 k2,k3,k4⟩
   ·exact h.elim
 ·rename_i hg;rw[CH hs.tm hg];simp only[bU,if_false];exact⟨E,⟨eU st.tmps o.dst (A (.dr [])),st.m,st.nx⟩,λ_ _=>rfl,T _,⟨hs.tm.put (sv:=A (.dr [])) (r:=undef) (λv hv=>by injection hv with hv;subst hv;rfl),xC hs.wt (λu hu=>by injection hu with hu;subst hu;rfl),by cases o.dst<;>exact hs.df,hs.mm⟩,h⟩
 ·exact h.elim
def xy (P:Program)(call:yW->PT)(ops:Array Oper):List Nat->(St->VC)->St->VC
 | [],K,st=>K st
 | j::r,K,st=>match ops[j]? with
   | some o=>iz P call ops j o (xy P call ops r K) st
   | none=>.fail "no operation"
def unsure (ops:Array Oper)(tmps:List (Option SV)):List (Option SV):=ops.toList.foldl (λt o=>eU t o.dst F) tmps
theorem W8 {d:Option Nat}{v:SV}(h:(eU tmps d F)[i]?=A (A v)):tmps[i]?=A (A v)/\d≠A i:=by
 cases d with
 | none=>exact⟨h,λe=>by cases e⟩
 | some d =>grind [eU]
theorem Rf {v:SV}(h:(unsure ops tmps)[i]?=A (A v)):tmps[i]?=A (A v)/\∀ o∈ ops.toList,o.dst≠A i:=by
 unfold unsure at h;generalize ops.toList=l at h;induction l generalizing tmps with
 | nil=>grind
 | cons x r ih =>grind [W8]
theorem aft :(unsure ops tmps).length=tmps.length:=by
 unfold unsure;generalize ops.toList=l;induction l generalizing tmps with
 | nil=>rfl
 | cons x r ih =>rw[List.foldl_cons,ih];cases x.dst<;>simp[eU]
theorem gj.unsure {E:Nat->Nat}{ops:Array Oper}{tmps:List (Option SV)}{a:Act}(h:gj E tmps a):gj E (unsure ops tmps) a :=⟨by rw[aft];exact h.size,λi v hv=>h.val i v (Rf hv).1⟩
theorem gj.Rg {E:Nat->Nat}(h:gj E (Sx.unsure ops tmps) a)(ho:o∈ ops.toList)(r:Value):gj E (Sx.unsure ops tmps) (a.put o.dst r):=by
 cases hd:o.dst with
 | none=>exact h
 | some d =>refine⟨by simp[Act.put,h.size],λi v hv=> ?_⟩;simp only[Act.put];rw[cB,p_ (λe=>(Rf hv).2 o ho (by rw[hd,e]))];exact h.val i v hv
theorem UR (h:iA nx tmps=C):iA nx (unsure ops tmps)=true:=by
 unfold unsure;generalize ops.toList=l;induction l generalizing tmps with
 | nil=>exact h
 | cons x r ih=>grind [xC]
theorem xH.weaken {E E':Nat->Nat}{nx':Nat}{e:Exit}(h:xH KP Γ E' nx' e a w)(hE: ∀ k,k<nx->E' k=E k)(hn:nx<=nx'):xH KP Γ E nx e a w:=by obtain⟨ch,h1,h2,h3⟩:=h;exact⟨ch,h1,h2,h3.weaken hE hn⟩
theorem Jb {P:Program}{Γ:b5}{ro:Option Nat}{KP:PK}{call:yW->PT}(hcall: ∀ c,Ao P Γ KP c (call c)){ops:Array Oper}{Q:Exit->Act->World->Prop}{K:St->VC}{E0:Nat->Nat}{E9:Nat}{T0:List (Option SV)}(hT0:iA E9 T0=C)
  (hP: ∀ e a w,gj E0 (unsure ops T0) a->xH KP Γ E0 E9 e a w->Q e a w) :
  ∀(l:List Nat) {st:St} {E:Nat->Nat} {a:Act} {w:World},(xy P call ops l K st).holds->Sat Γ E st a w->gj E0 (unsure ops T0) a->(∀ k,k<E9->E k=E0 k)->E9<=st.nx->
   (∀ a w,qn K Γ E st.nx a w->Q .normal a w)->wpOpsIn (Fr ro) 0 P ops Q l a w
 | [],st,E,a,w,h,hs,_,_,_,hQ=>hQ _ _ ⟨E,st,λ_ _=>rfl,T _,hs,h⟩
 | j::r,st,E,a,w,h,hs,hF,hE0,hn0,hQ=>by
   rw[wpOpsIn_cons];unfold wpOpIn;simp only[xy] at h;cases ho:ops[j]? with
   | none=>rw[ho] at h;exact h.elim
   | some o =>
     rw[ho] at h;simp only;have hmem:o∈ ops.toList:=by rw[← bn] at ho;exact List.mem_of_getElem? ho
     have hstep:=Jl (ro:=ro) hcall h hs Q (λe w hb=>hP e a w hF (hb.weaken hE0 hn0));have go: ∀ a' w',((∃ r,a'=a.put o.dst r)/\qn (xy P call ops r K) Γ E st.nx a' w')->wpOpsIn (Fr ro) 0 P ops Q r a' w':=by rintro a' w' ⟨⟨rr,ha⟩,E',st',g1,g2,g3,g4⟩;refine Jb hcall hT0 hP r g4 g3 (ha▸ gj.Rg hF hmem rr) (λk hk=>(g1 k (an hk hn0)).trans (hE0 k hk)) (ag hn0 g2) λa'' w'' hb=>hQ a'' w'' ?_;obtain⟨E'',st'',k1,k2,k3,k4⟩:=hb;exact⟨E'',st'',λk hk=>(k1 k (an hk g2)).trans (g1 k hk),ag g2 k2,k3,k4⟩
     split
     ·rename_i hw;rw[o_ hw] at hstep;exact Oper.wpIn_mono go hstep
     ·rename_i hw;rw[p_ hw] at hstep;exact⟨NN ro,go _ _ ⟨⟨_,rfl⟩,hstep⟩⟩
end
end Sx
end Go.Proofs.YtoibaecagklkaaaGreatDoor
