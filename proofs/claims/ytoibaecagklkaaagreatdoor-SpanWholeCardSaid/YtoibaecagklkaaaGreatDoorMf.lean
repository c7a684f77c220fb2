/-
  The framework's part 11a: maps: making, writing, deleting, ranging.
-/
import Derived.Test.YtoibaecagklkaaaGreatDoorMd
import Derived.Test.YtoibaecagklkaaaGreatDoorMc
import Derived.Test.YtoibaecagklkaaaGreatDoorMe
open Bool renaming and_eq_true->R,false->H,false_eq_true->bO,true->I
open Decidable renaming decide->L
open Go.BigFrame renaming execOp_builtin->aM
open Go.Instr renaming entryStore->a_,findKey->S,findNow->O,keyThatStays->bS,mapEntry->Y,mapUpdate->T,sameBits->b_,yield->b!
open Go.Made renaming depth->Z
open Go.MapKept renaming run_checkKey->V,run_getObj_map->M,run_keyThatStays->ct,run_setObj_map->J
open Go.Result renaming andThen_ok->C
open Go.Sem renaming run_bind->D,run_pure->F
open Go.Value renaming int->N
open List renaming ext_getElem?->cx,findIdx?->cy,findIdx?_cons->cG,getElem?_append_left->cS,getElem?_cons_succ->a!,getElem?_cons_zero->bf,getElem?_eq_getElem->ag,getElem?_eq_some_iff->c4,getElem?_map->W,getElem?_modify->c5,getElem?_toArray->an,length_cons->c6,map_cons->c7
open Nat renaming add_mul->c8,le_refl->X,sub_self->c9,zero_add->bx
open Option renaming getD_some->aK,map_none->c_,map_some->Q,none->G,some->A
namespace Go.Proofs.YtoibaecagklkaaaGreatDoor.Sx
open Go
noncomputable section
section
variable {P : Program} {Γ : bh} {σ : Operand -> Option SV} {m : Mem} {nx : Nat}
theorem bt.Yz {K:KL}{E:Nat->Nat}{w:World}(hs:aL Γ E m nx w)(hw:Mem.wf nx m=I){B:SB}{o:Obj}{sv:Option SV}{r:Value}(hB:bz E B o)(hBw:B.wf nx=I)
  (hr: ∀ v,sv=A v->r=v.val (λk=>if k=nx then w.heap.size else E k)) (h:(K sv ((nx,B)::m) (nx+1)).holds) :
  bt K Γ E nx r {w with heap:=w.heap.push o}:=by
 have hE: ∀ k,k<nx->(λk=>if k=nx then w.heap.size else E k) k=E k:=λk hk=>by simp[Nat.ne_of_lt hk]
 exact⟨_,sv,_,_,hE,Nat.le_succ _,hr,hs.alloc hw (hB.congr hE hBw),h⟩
theorem bt.iG {K:KL}{E:Nat->Nat}{w:World}(hs:aL Γ E m nx w){key:Nat}{B B':SB}{o:Obj}(hk:m.get key=A B)(hn:B.no=H)(hro:B.ro=H)(hB:bz E B' o)(hro':B'.ro=H)
  {sv:Option SV} {r:Value} (hr: ∀ v,sv=A v->r=v.val E) (h:(K sv (m.put key B') nx).holds):bt K Γ E nx r {w with heap:=w.heap.setIfInBounds (E key) o} :=
 ⟨E,sv,_,_,λ_ _=>rfl,X _,hr,hs.write hk hn hro hB hro',h⟩
def vA (P:Program)(t:TypeId)(hint:Option (Option SV))(m:Mem)(nx:Nat)(K:KL):VC :=
 match hint with
 | none=>K (A (.map nx)) ((nx,.map [] 0)::m) (nx+1)
 | some (A (.int ..))=>(match P.underlying t with
   | some (.map ..)=>K (A (.map nx)) ((nx,.map [] 0)::m) (nx+1)
   | _=>.fail "make: no map")
 | _=>.fail "make: how many"
theorem Ik {dst:Option Tmp}{t type:TypeId}{pos:String}{after:Array Edge}{guard:Option (Nat×Bool)}{r:Option Operand} :
  qg P Γ σ m nx ⟨dst,.makeMap t r,type,pos,after,guard⟩ (vA P t (r.map σ) m nx):=by
 intro K E w ρ h hs hw hσ hr;have fin:(K (A (.map nx)) ((nx,.map [] 0)::m) (nx+1)).holds->Out P (bt K Γ E nx) (.ok (.value (.map (A w.heap.size))) {w with heap:=w.heap.push (.map #[] 0)}):=λh=>by exact bt.Yz hs hw (B:=.map [] 0) (o:=.map #[] 0) rfl rfl (λv hv=>by injection hv with hv;subst hv;simp[SV.val]) h
 cases r with
 | none =>have h:(K (A (.map nx)) ((nx,.map [] 0)::m) (nx+1)).holds:=h;exact fin h
 | some x =>
   simp only[vA,Q] at h;split at h
   ·rename_i e;cases e
   ·rename_i k l n hx;injection hx with hx;split at h
    ·rename_i kt et ht;have hrun:(execOp ρ ⟨dst,.makeMap t (A x),type,pos,after,guard⟩).run P w=.ok (.value (.map (A w.heap.size))) {w with heap:=w.heap.push (.map #[] 0)}:=by simp only[execOp,Instr.makeMap,Q,D,aF ht,C,hr x _ hx,SV.val,asInt,asIntOf,F,run_newObj]
     rw[hrun];exact fin h
    ·exact h.elim
   ·exact h.elim
def oh:List (Nat×SV×SV)->Nat->SV->SV->List (Nat×SV×SV)
 | [],_,_,_=>[]
 | e::r,0,k,v=>(e.1,k,v)::r
 | e::r,i+1,k,v=>e::oh r i k v
def uQ (es:List (Nat×SV×SV))(e:Nat×SV×SV):List (Nat×SV×SV):=match es with
 | []=>[e]
 | x::r=>x::uQ r e
theorem vf (E:Nat->Nat)(k v:SV): ∀(es:List (Nat×SV×SV)) (i:Nat),dY E (oh es i k v)=(dY E es).modify i λe=>{e with key:=k.val E,val:=v.val E}
 | [],i=>by cases i<;>rfl
 | e::r,0=>rfl
 | e::r,i+1=>by have:=vf E k v r i;simp only[dY,c7,oh,List.modify_succ_cons] at this ⊢;rw[this]
theorem AP (E:Nat->Nat)(e:Nat×SV×SV): ∀(es:List (Nat×SV×SV)),dY E (uQ es e)=dY E es++[{key:=e.2.1.val E,val:=e.2.2.val E,born:=e.1}]
 | []=>rfl
 | x::r=>by have:=AP E e r;simp only[dY,c7,uQ,List.cons_append] at this ⊢;rw[this]
theorem tQ {l:List MapEntry}{i:Nat}{f:MapEntry->MapEntry}:l.toArray.modify i f=(l.modify i f).toArray:=by apply Array.ext';simp[]
theorem Da {d:TypeDesc}{k:SV}(h:uo d k=I)(E:Nat->Nat)(n:Nat):b_ n (k.val E) (k.val E)=true:=by
 unfold uo at h;split at h<;>first | cases h;done | skip
 all_goals cases n<;>simp[SV.val,b_,(MapKept.bytes_beq _ _).2 rfl]
def p5 (P:Program)(t:TypeId)(x k:Option SV)(m:Mem)(f:TypeDesc->SV->Nat->List (Nat×SV×SV)->Nat->SV->VC):VC :=
 match P.underlying t,x,k with
 | some (.map kt et),A (.map key),A kv=>(match P.underlying kt,fY P et,m.get key with
   | some d,A z,A (.map es clock)=>(match uo d kv with
     | true=>f d kv key es clock z
     | false=>.fail "map: another kind of key")
   | _,_,_=>.fail "map: no map")
 | _,_,_=>.fail "map: no map"
theorem zE {t:TypeId}{x k:Option SV}{f:TypeDesc->SV->Nat->List (Nat×SV×SV)->Nat->SV->VC}(h:(p5 P t x k m f).holds) :
  ∃ kt et d z kv key es clock,P.underlying t=A (.map kt et)/\P.underlying kt=A d/\fY P et=A z/\x=A (.map key)/\k=A kv/\m.get key=A (.map es clock)/\uo d kv=I/\(f d kv key es clock z).holds:=by
 unfold p5 at h;split at h
 ·rename_i kt et key kv ht;split at h
  ·rename_i d z es clock hd hz hm;split at h
   ·rename_i hk;exact⟨kt,et,d,z,kv,key,es,clock,ht,hd,hz,rfl,rfl,hm,hk,h⟩
   ·exact h.elim
  ·exact h.elim
 ·exact h.elim
def xw (x:Option SV)(m:Mem):Option (Nat×(List UInt8->Bool)×aD×Option (List UInt8×Int)):=match x with
 | some (.map key)=>(match m.get key with
   | some (.fmap f c p)=>A (key,f,c,p)
   | _=>G)
 | _=>G
theorem oT {x:Option SV}{r}(h:xw x m=A r):x=A (.map r.1)/\m.get r.1=A (.fmap r.2.1 r.2.2.1 r.2.2.2):=by
 unfold xw at h;split at h
 ·rename_i key;split at h
  ·rename_i hm;injection h with h;subst h;exact⟨rfl,hm⟩
  ·cases h
 ·cases h
def iN (P:Program)(t:TypeId)(key:Nat)(f:List UInt8->Bool)(c:aD)(k v:Option SV)(m:Mem)(nx:Nat)(K:KL):VC :=
 match P.underlying t,k,v with
 | some (.map kt _),A (.str _ s),A u=>(match P.underlying kt,c.set s u with
   | some .string,A c'=>K G (m.put key (.fmap (dA f s) c' G)) nx
   | _,_=>.fail "map: a value")
 | _,_,_=>.fail "map: a key"
theorem tv {t:TypeId}{key:Nat}{f c p}{k v:Option SV}{K:KL}{E:Nat->Nat}{w:World}(hm:m.get key=A (.fmap f c p))(h:(iN P t key f c k v m nx K).holds)(hs:aL Γ E m nx w) :
  ∃ kv u w',k=A kv/\v=A u/\(T t (.map (A (E key))) (kv.val E) (u.val E)).run P w=.ok () w'/\bt K Γ E nx undef w':=by
 unfold iN at h;split at h
 ·rename_i kt et l s u ht;split at h
  ·rename_i c' hd hc';obtain⟨ob,hob,es,clock,rfl,hfm⟩:=hs.nG key _ hm rfl;have hsv:=aD.GA hc' E;rcases hfm.find s with ⟨h1,h2,h3⟩ | ⟨h1,j,e,h2,h3,h4,h5⟩
   ·have h2':O .string (.string ⟨s.toArray⟩) es.toList 0=_:=h2;refine⟨_,_,_,rfl,rfl,?_,bt.iG hs hm rfl rfl (B':=.fmap (dA f s) c' G) ⟨_,_,rfl,hfm.add hsv h3 (λ_ _ h=>by cases h)⟩ rfl (sv:=G) (λv hv=>by cases hv) h⟩;simp only[SV.val,T,D,aF ht,C,M hob,V (k:=.string ⟨s.toArray⟩) hd trivial H 9999,S,aF hd,h2',F,J _ hob,mw]
   ·have h2':O .string (.string ⟨s.toArray⟩) es.toList 0=_:=h2;have h4':e.key=.string ⟨s.toArray⟩:=h4;refine⟨_,_,_,rfl,rfl,?_,bt.iG hs hm rfl rfl (B':=.fmap (dA f s) c' G) ⟨_,_,rfl,hfm.put (f:=λe=>{e with key:=mw s,val:=u.val E}) hsv h3 h4 ⟨rfl,rfl,rfl⟩ (λ_=>rfl) h1 (λ_ _ h=>by cases h)⟩ rfl (sv:=G) (λv hv=>by cases hv) h⟩;simp only[SV.val,T,D,aF ht,C,M hob,V (k:=.string ⟨s.toArray⟩) hd trivial H 9999,S,aF hd,h2',F,h3,Q,aK,h4',ct (k:=.string ⟨s.toArray⟩) (d:=.string) trivial,J _ hob,mw]
  ·exact h.elim
 ·exact h.elim
def rX (P:Program)(t:TypeId)(key:Nat)(f:List UInt8->Bool)(c:aD)(k:Option SV)(m:Mem)(nx:Nat)(K:KL):VC :=
 match P.underlying t,k with
 | some (.map kt et),A (.str _ s)=>(match P.underlying kt,fY P et with
   | some .string,A z=>(match c.look (f s) s z with
     | some v=>(match c.set s v with
       | some c'=>.all Int λb=>K (A (.aN [v,.int .i64 H b])) (m.put key (.fmap (dA f s) c' (A (s,b)))) nx
       | none=>.fail "map: a value")
     | none=>.fail "map: a value")
   | _,_=>.fail "map: a key")
 | _,_=>.fail "map: a key"
theorem Fy {t:TypeId}{key:Nat}{f c p}{k:Option SV}{K:KL}{E:Nat->Nat}{w:World}(hm:m.get key=A (.fmap f c p))(h:(rX P t key f c k m nx K).holds)(hs:aL Γ E m nx w) :
  ∃ kv r w',k=A kv/\(Y t (.map (A (E key))) (kv.val E)).run P w=.ok r w'/\bt K Γ E nx r w':=by
 unfold rX at h;split at h
 ·rename_i kt et l s ht;split at h
  ·rename_i z hd hz;split at h
   ·rename_i v hv;split at h
    ·rename_i c' hc';obtain⟨ob,hob,es,clock,rfl,hfm⟩:=hs.nG key _ hm rfl;have hsv:=aD.GA hc' E;have hlv:=aD.Im hv E;rcases hfm.find s with ⟨h1,h2,h3⟩ | ⟨h1,j,e,h2,h3,h4,h5⟩
     ·have h2':O .string (.string ⟨s.toArray⟩) es.toList 0=_:=h2;rw[h1,if_neg (by simp)] at hlv;refine⟨_,_,_,rfl,?_,bt.iG hs hm rfl rfl (B':=.fmap (dA f s) c' (A (s,(clock:Int)))) ⟨_,_,rfl,hfm.add hsv h3 (λt b h=>by injection h with h;injection h with h1 h2;exact⟨h1.symm,h2⟩)⟩ rfl (sv:=A (.aN [v,.int .i64 H clock])) (λv hv=>by injection hv with hv;subst hv;rfl) (h clock)⟩;simp only[SV.val,SV.vals,Y,D,aF ht,C,M hob,V (k:=.string ⟨s.toArray⟩) hd trivial H 9999,S,aF hd,h2',F,dI (E:=E) hz,J _ hob,mw,goInt,hlv]
     ·have h2':O .string (.string ⟨s.toArray⟩) es.toList 0=_:=h2;have h4':e.key=.string ⟨s.toArray⟩:=h4;rw[h1,if_pos rfl] at hlv;refine⟨_,_,_,rfl,?_,bt.iG hs hm rfl rfl (B':=.fmap (dA f s) c' (A (s,(e.born:Int)))) ⟨_,_,rfl,hfm.put (f:=λe=>{e with key:=mw s}) hsv h3 h4 ⟨rfl,by show e.val=_;rw[h5,hlv],rfl⟩ (λ_=>rfl) h1 (λt b h=>by injection h with h;injection h with h1 h2;exact⟨h1.symm,h2⟩)⟩ rfl (sv:=A (.aN [v,.int .i64 H e.born])) (λv hv=>by injection hv with hv;subst hv;rfl) (h e.born)⟩;simp only[SV.val,SV.vals,Y,D,aF ht,C,M hob,V (k:=.string ⟨s.toArray⟩) hd trivial H 9999,S,aF hd,h2',F,h3,Q,aK,h4',ct (k:=.string ⟨s.toArray⟩) (d:=.string) trivial,J _ hob,mw,goInt,hlv]
    ·exact h.elim
   ·exact h.elim
  ·exact h.elim
 ·exact h.elim
def rY (key:Nat)(f:List UInt8->Bool)(c:aD)(p:Option (List UInt8×Int))(s v:Option SV)(m:Mem)(nx:Nat)(K:KL):VC :=
 match p,s,v with
 | some (t,b'),A (.int _ _ b),A u=>(match c.set t u with
   | some c'=>.and (jM b b') (K G (m.put key (.fmap (dA f t) c' G)) nx)
   | none=>.fail "map: a value")
 | _,_,_=>.fail "map: no such entry"
theorem Fz {mt:TypeId}{key:Nat}{f c p}{s v:Option SV}{K:KL}{E:Nat->Nat}{w:World}(hm:m.get key=A (.fmap f c p))(h:(rY key f c p s v m nx K).holds)(hs:aL Γ E m nx w) :
  ∃ sv u w',s=A sv/\v=A u/\(a_ mt (.map (A (E key))) (sv.val E) (u.val E)).run P w=.ok () w'/\bt K Γ E nx undef w':=by
 unfold rY at h;split at h
 ·rename_i t b' ik il b u;split at h
  ·rename_i c' hc';obtain⟨hb,h⟩:=h;have hb:b=b':=hb;subst hb;obtain⟨ob,hob,es,clock,rfl,hfm⟩:=hs.nG key _ hm rfl;have hsv:=aD.GA hc' E;obtain⟨e,he,hborn,hkey⟩:=hfm.pd t b rfl;have hd:f t=true:=by
    cases hf:f t with
    | true=>rfl
    | false=>exact absurd hkey (hfm.no t hf e he)
   obtain⟨i,hi⟩: ∃ i,es.findIdx? (λe=>(e.born:Int)==b)=A i:=by
    cases hf:es.findIdx? (λe=>(e.born:Int)==b)with
    | some i=>exact⟨i,rfl⟩
    | none =>rw[Array.findIdx?_eq_none_iff] at hf;have:=hf e (by simpa using he);simp[hborn] at this
   have hie:es[i]?=A e:=by
    have h0:=Array.findIdx?_eq_some_iff_getElem.1 hi;obtain⟨hlt,hp,_⟩:=h0;have hmem:es[i]∈ es.toList:=by simp
    have:=GI hfm.st.2.1 hmem he (by
     have:((es[i]).born:Int)=b:=by simpa using hp
     omega)
    rw[Array.getElem?_eq_getElem hlt,this]
   refine⟨_,_,_,rfl,rfl,?_,bt.iG hs hm rfl rfl (B':=.fmap (dA f t) c' G) ⟨_,_,rfl,hfm.put (f:=λe=>{e with val:=u.val E}) hsv hie hkey ⟨hkey,rfl,rfl⟩ (λ_=>rfl) hd (λ_ _ h=>by cases h)⟩ rfl (sv:=G) (λv hv=>by cases hv) h⟩;simp only[SV.val,a_,D,M hob,C,asInt,asIntOf,F,hi,J _ hob]
  ·exact h.elim
 ·exact h.elim
def UA:List SV->List aq->List Gh
 | .aZ kr _ _ _ _ _::r,.bU kB _ _ _ _ _::q=>.name kr 0::.merge kB kr::UA r q
 | _::r,_::q=>UA r q
 | _,_=>[]
def S4:List aq->Nat
 | .bU kB _ _ _ _ _::_=>kB
 | _::q=>S4 q
 | []=>0
def abr (c:aD)(m:Mem)(v:Option SV):List Gh:=match c,v with
 | .ref kF _,A (.ptr kp I 0)=>(match m.get kp,m.get kF with
   | some (.cells cs _ _),A (.dR _ ds _ _ _)=>UA cs ds++[.name kp (S4 ds),.merge kF kp]
   | _,_=>[])
 | _,_=>[]
def jO (P:Program)(t:TypeId)(x k v:Option SV)(m:Mem)(nx:Nat)(K:KL):VC :=
 p5 P t x k m λd kv key es clock _=>match v with
  | some u=>gB d kv (λr=>match r with
    | some (i,_)=>K G (m.put key (.map (oh es i kv u) clock)) nx
    | none=>K G (m.put key (.map (uQ es (clock,kv,u)) (clock+1))) nx) es 0
  | none=>.fail "map: a value that is not known"
def gH (P:Program)(t:TypeId)(x k v:Option SV)(m:Mem)(nx:Nat)(K:KL):VC:=match xw x m with
 | some (key,f,c,_)=>(match abr c m v with
   | []=>iN P t key f c k v m nx K
   | l=>Q9 l [v] m λvs m'=>match vs,xw x m' with
     | [v'],A (key',f',c',_)=>iN P t key' f' c' k v' m' nx K
     | _,_=>.fail "map: a value")
 | none=>jO P t x k v m nx K
theorem HU {d:TypeDesc}{k:SV}(h:uo d k=I){E:Nat->Nat}{old:Value}(he:old=k.val E){w:World}:(bS old (k.val E)).run P w=.ok (k.val E) w:=by subst he;simp[bS,Da h]
theorem Hx {E:Nat->Nat}{es:List (Nat×SV×SV)}{i:Nat}{e:Nat×SV×SV}(h:es[i]?=A e):(dY E es).toArray[i]?=A {key:=e.2.1.val E,val:=e.2.2.val E,born:=e.1}:=by simp[dY,W,h]
theorem C2 {t kt et:TypeId}{d:TypeDesc}{kv u:SV}{key:Nat}{es:List (Nat×SV×SV)}{clock:Nat}{r:VK}{E:Nat->Nat}{w:World}(ht:P.underlying t=A (.map kt et))(hd:P.underlying kt=A d)(hkd:uo d kv=I)
  (ho:w.heap[E key]?=A (.map (dY E es).toArray clock)) (hf:O d (kv.val E) (dY E es) 0=A (r.map λx=>(x.1,x.2.2.2.val E))) (hg: ∀ j e,r=A (j,e)->es[j]?=A e/\e.2.1.val E=kv.val E) :
  (T t (.map (A (E key))) (kv.val E) (u.val E)).run P w=.ok () {w with heap:=w.heap.setIfInBounds (E key) (match r with
    | some (i,_)=>.map (dY E (oh es i kv u)).toArray clock
    | none=>.map (dY E (uQ es (clock,kv,u))).toArray (clock+1))}:=by
 have hf':O d (kv.val E) (dY E es).toArray.toList 0=_:=hf;simp only[T,D,aF ht,C,M ho,V hd (sq hkd E) H 9999,S,aF hd,hf',F];cases r with
 | none =>simp only[c_,J _ ho,AP];simp
 | some q =>obtain⟨i,e⟩:=q;obtain⟨g1,g2⟩:=hg i e rfl;simp only[Q,Hx g1,aK,D,HU hkd g2,C,J _ ho,vf,tQ]
theorem C1 {dst:Option Tmp}{t type:TypeId}{pos:String}{after:Array Edge}{guard:Option (Nat×Bool)}{x k v:Operand}{K:KL}{E:Nat->Nat}{w:World}{ρ:Operand->Value}(h:(jO P t (σ x) (σ k) (σ v) m nx K).holds)(hs:aL Γ E m nx w)(hr:Reads E σ ρ):Out P (bt K Γ E nx) ((execOp ρ ⟨dst,.mapUpdate t x k v,type,pos,after,guard⟩).run P w):=by
 unfold jO at h;obtain⟨kt,et,d,z,kv,key,es,clock,ht,hd,hz,hx,hk,hm,hkd,h⟩:=zE h;split at h
 ·rename_i u hv;obtain⟨obl,r,h1,h2⟩:=mR hkd es 0;obtain⟨ho,h⟩:=(h1 _).1 h;obtain⟨f1,f2⟩:=h2 ho;obtain⟨ob,hob,hb⟩:=hs.nG key _ hm rfl;have hb:ob=.map (dY E es).toArray clock:=hb;subst hb;have hrun:=C2 (P:=P) (u:=u) ht hd hkd hob (f1 E) (λj e e'=>by obtain⟨_,g2,g3⟩:=f2 j e e';exact⟨by simpa using g2,g3 E⟩);have hex:(execOp ρ ⟨dst,.mapUpdate t x k v,type,pos,after,guard⟩).run P w=(do T t (.map (A (E key))) (kv.val E) (u.val E);pure .skip:Sem Next).run P w:=by simp only[execOp,hr x _ hx,hr k _ hk,hr v _ hv,SV.val]
  rw[hex,D,hrun];simp only[C,F,Out];cases r with
  | none=>exact bt.iG hs hm rfl rfl (B':=.map (uQ es (clock,kv,u)) (clock+1)) rfl rfl (λv hv=>by cases hv) h
  | some q=>exact bt.iG hs hm rfl rfl (B':=.map (oh es q.1 kv u) clock) rfl rfl (λv hv=>by cases hv) h
 ·exact h.elim
theorem tC {dst:Option Tmp}{t type:TypeId}{pos:String}{after:Array Edge}{guard:Option (Nat×Bool)}{x k v:Operand} :
  qg P Γ σ m nx ⟨dst,.mapUpdate t x k v,type,pos,after,guard⟩ (gH P t (σ x) (σ k) (σ v) m nx):=by
 intro K E w ρ h hs hw hσ hr;unfold gH at h;split at h
 ·rename_i hf;obtain⟨hx,hm⟩:=oT hf;split at h
  rotate_left
  ·obtain⟨tm,m',htold,hsm,h⟩:=nP h hs;split at h
   ·rename_i v' key' f' c' p' hf';obtain⟨hx',hm'⟩:=oT hf';obtain⟨kv,u,w',hk,hv,hrun,haft⟩:=tv hm' h hsm;subst hv;obtain⟨v0,q1,q2,_⟩:=htold.get 0 u rfl;have q1:σ v=A v0:=by simpa using q1
    have hex:(execOp ρ ⟨dst,.mapUpdate t x k v,type,pos,after,guard⟩).run P w=.ok .skip w':=by simp only[execOp,hr x _ hx',hr k _ hk,hr v _ q1,SV.val,D,← q2,hrun,C,F]
    rw[hex];exact haft
   ·exact h.elim
  obtain⟨kv,u,w',hk,hv,hrun,haft⟩:=tv hm h hs;have hex:(execOp ρ ⟨dst,.mapUpdate t x k v,type,pos,after,guard⟩).run P w=.ok .skip w':=by simp only[execOp,hr x _ hx,hr k _ hk,hr v _ hv,SV.val,D,hrun,C,F]
  rw[hex];exact haft
 exact C1 h hs hr
theorem Lm {dst:Option Tmp}{t type:TypeId}{pos:String}{after:Array Edge}{guard:Option (Nat×Bool)}{x k v:Operand} :
  qg P Γ σ m nx ⟨dst,.insert t x k v,type,pos,after,guard⟩ (gH P t (σ x) (σ k) (σ v) m nx) :=
 λK E w ρ h hs hw hσ hr=>tC (dst:=dst) (type:=type) (pos:=pos) (after:=after) (guard:=guard) K E w ρ h hs hw hσ hr
def lG (P:Program)(t:TypeId)(x k:Option SV)(m:Mem)(nx:Nat)(K:KL):VC :=
 p5 P t x k m λd kv key es clock z=>gB d kv (λr=>match r with
   | some (i,e)=>K (A (.aN [e.2.2,.int .i64 I e.1])) (m.put key (.map (oh es i kv e.2.2) clock)) nx
   | none=>K (A (.aN [z,.int .i64 I clock])) (m.put key (.map (uQ es (clock,kv,z)) (clock+1))) nx) es 0
def sA (P:Program)(t:TypeId)(x k:Option SV)(m:Mem)(nx:Nat)(K:KL):VC:=match xw x m with
 | some (key,f,c,_)=>rX P t key f c k m nx K
 | none=>lG P t x k m nx K
theorem FJ {dst:Option Tmp}{t type:TypeId}{pos:String}{after:Array Edge}{guard:Option (Nat×Bool)}{x k:Operand}{K:KL}{E:Nat->Nat}{w:World}{ρ:Operand->Value}(h:(lG P t (σ x) (σ k) m nx K).holds)(hs:aL Γ E m nx w)(hr:Reads E σ ρ):Out P (bt K Γ E nx) ((execOp ρ ⟨dst,.mapEntry t x k,type,pos,after,guard⟩).run P w):=by
 unfold lG at h;obtain⟨kt,et,d,z,kv,key,es,clock,ht,hd,hz,hx,hk,hm,hkd,h⟩:=zE h;obtain⟨obl,r,h1,h2⟩:=mR hkd es 0;obtain⟨ho,h⟩:=(h1 _).1 h;obtain⟨f1,f2⟩:=h2 ho;obtain⟨ob,hob,hb⟩:=hs.nG key _ hm rfl;have hb:ob=.map (dY E es).toArray clock:=hb;subst hb;have hf':O d (kv.val E) (dY E es).toArray.toList 0=_:=f1 E;simp only[execOp,Y,hr x _ hx,hr k _ hk,SV.val,D,aF ht,C,M hob,V hd (sq hkd E) H 9999,S,aF hd,hf',F];cases r with
 | none =>
   simp only[c_,D,dI (E:=E) hz,C,J _ hob,F,Out];have hpush:(dY E es).toArray.push {key:=kv.val E,val:=z.val E,born:=clock}=(dY E (uQ es (clock,kv,z))).toArray:=by rw[AP];simp
   rw[hpush];exact bt.iG hs hm rfl rfl (B':=.map (uQ es (clock,kv,z)) (clock+1)) rfl rfl (λv hv=>by injection hv with hv;subst hv;simp[SV.val,SV.vals,goInt]) h
 | some q =>
   obtain⟨i,e⟩:=q;obtain⟨_,g2,g3⟩:=f2 i e rfl;have g2:es[i]?=A e:=by simpa using g2
   simp only[Q,Hx g2,aK,D,HU hkd (g3 E),C,J _ hob,F,Out];have hset:((dY E es).toArray.modify i λe=>{e with key:=kv.val E})=(dY E (oh es i kv e.2.2)).toArray:=by
    rw[vf,tQ];congr 1;have hl:(dY E es)[i]?=A {key:=e.2.1.val E,val:=e.2.2.val E,born:=e.1}:=by simp[dY,W,g2]
    apply cx;intro j;simp only[c5];by_cases hij:i=j
    ·subst hij;simp[hl]
    ·simp[hij]
   rw[hset];exact bt.iG hs hm rfl rfl (B':=.map (oh es i kv e.2.2) clock) rfl rfl (λv hv=>by injection hv with hv;subst hv;simp[SV.val,SV.vals,goInt]) h
theorem FZ {dst:Option Tmp}{t type:TypeId}{pos:String}{after:Array Edge}{guard:Option (Nat×Bool)}{x k:Operand} :
  qg P Γ σ m nx ⟨dst,.mapEntry t x k,type,pos,after,guard⟩ (sA P t (σ x) (σ k) m nx):=by
 intro K E w ρ h hs hw hσ hr;unfold sA at h;split at h
 ·rename_i hf;obtain⟨hx,hm⟩:=oT hf;obtain⟨kv,r,w',hk,hrun,haft⟩:=Fy hm h hs;have hex:(execOp ρ ⟨dst,.mapEntry t x k,type,pos,after,guard⟩).run P w=.ok (.value r) w':=by simp only[execOp,hr x _ hx,hr k _ hk,SV.val,D,hrun,C,F]
  rw[hex];exact haft
 exact FJ h hs hr
def Aj (b:Int):List (Nat×SV×SV)->Nat->Option (Nat×SV)
 | [],_=>G
 | e::r,i=>match L (((e.1:Nat):Int)=b)with
   | true=>A (i,e.2.1)
   | false=>Aj b r (i+1)
def iZ (x s v:Option SV)(m:Mem)(nx:Nat)(K:KL):VC:=match x,s,v with
 | some (.map key),A (.int _ _ b),A u=>(match m.get key with
   | some (.map es clock)=>(match Aj b es 0 with
     | some (i,k)=>K G (m.put key (.map (oh es i k u) clock)) nx
     | none=>.fail "map: no such entry")
   | _=>.fail "map: no map")
 | _,_,_=>.fail "map: entry"
def mQ (x s v:Option SV)(m:Mem)(nx:Nat)(K:KL):VC:=match xw x m with
 | some (key,f,c,p)=>rY key f c p s v m nx K
 | none=>iZ x s v m nx K
theorem zx {b:Int}: ∀ {es:List (Nat×SV×SV)} {i j:Nat} {k:SV},Aj b es i=A (j,k)->i<=j/\(∃ e,es[j - i]?=A e/\e.2.1=k)/\∀ E,(dY E es).findIdx? (λe=>(e.born:Int)==b)=A (j - i)
 | [],_,_,_,h=>by cases h
 | e::r,i,j,k,h=>by
   simp only[Aj] at h;split at h
   ·rename_i hb;injection h with h;injection h with h1 h2;subst h1;subst h2;refine⟨X _,⟨e,by simp,rfl⟩,λE=> ?_⟩;have hb:=of_decide_eq_true hb;show cy _ ({key:=e.2.1.val E,val:=e.2.2.val E,born:=e.1}::dY E r)=_;rw[cG];simp[hb]
   ·rename_i hb;obtain⟨g1,⟨e',g2,g3⟩,g4⟩:=zx h;have hb:=of_decide_eq_false hb;refine⟨by omega,⟨e',?_,g3⟩,λE=> ?_⟩
    ·rw[show j - i=(j - (i+1))+1 by omega];simpa using g2
    ·show cy _ ({key:=e.2.1.val E,val:=e.2.2.val E,born:=e.1}::dY E r)=_;rw[cG,g4 E];have:(((e.1:Nat):Int)==b)=false:=by simpa using hb
     simp only[this];simp;omega
theorem Bi {dst:Option Tmp}{t type:TypeId}{pos:String}{after:Array Edge}{guard:Option (Nat×Bool)}{x s v:Operand}{K:KL}{E:Nat->Nat}{w:World}{ρ:Operand->Value}(h:(iZ (σ x) (σ s) (σ v) m nx K).holds)(hs:aL Γ E m nx w)(hr:Reads E σ ρ):Out P (bt K Γ E nx) ((execOp ρ ⟨dst,.entryStore t x s v,type,pos,after,guard⟩).run P w):=by
 unfold iZ at h;split at h
 ·rename_i key ik il b u hx hst hv;split at h
  ·rename_i es clock hm;split at h
   ·rename_i i k hi;obtain⟨_,⟨e,g2,g3⟩,g4⟩:=zx hi;have g2:es[i]?=A e:=by simpa using g2
    obtain⟨ob,hob,hb⟩:=hs.nG key _ hm rfl;have hb:ob=.map (dY E es).toArray clock:=hb;subst hb;have hfi:(dY E es).toArray.findIdx? (λe=>(e.born:Int)==b)=A i:=by have:=g4 E;simpa using this
    have hset:((dY E es).toArray.modify i λe=>{e with val:=u.val E})=(dY E (oh es i k u)).toArray:=by
     rw[vf,tQ];congr 1;have hl:(dY E es)[i]?=A {key:=e.2.1.val E,val:=e.2.2.val E,born:=e.1}:=by simp[dY,W,g2]
     apply cx;intro j;simp only[c5];by_cases hij:i=j
     ·subst hij;simp[hl,g3]
     ·simp[hij]
    have hrun:(execOp ρ ⟨dst,.entryStore t x s v,type,pos,after,guard⟩).run P w=.ok .skip {w with heap:=w.heap.setIfInBounds (E key) (.map (dY E (oh es i k u)).toArray clock)}:=by simp only[execOp,a_,hr x _ hx,hr s _ hst,hr v _ hv,SV.val,D,M hob,C,asInt,asIntOf,F,hfi,J _ hob,hset]
    rw[hrun];exact bt.iG hs hm rfl rfl (B':=.map (oh es i k u) clock) rfl rfl (λv hv=>by cases hv) h
   ·exact h.elim
  ·exact h.elim
 ·exact h.elim
theorem Bu {dst:Option Tmp}{t type:TypeId}{pos:String}{after:Array Edge}{guard:Option (Nat×Bool)}{x s v:Operand} :
  qg P Γ σ m nx ⟨dst,.entryStore t x s v,type,pos,after,guard⟩ (mQ (σ x) (σ s) (σ v) m nx):=by
 intro K E w ρ h hs hw hσ hr;unfold mQ at h;split at h
 ·rename_i hf;obtain⟨hx,hm⟩:=oT hf;obtain⟨sv,u,w',hk,hv,hrun,haft⟩:=Fz (P:=P) (mt:=t) hm h hs;have hex:(execOp ρ ⟨dst,.entryStore t x s v,type,pos,after,guard⟩).run P w=.ok .skip w':=by simp only[execOp,hr x _ hx,hr s _ hk,hr v _ hv,SV.val,D,hrun,C,F]
  rw[hex];exact haft
 exact Bi h hs hr
def z7 (_P:Program)(_ats:Array TypeId)(_x _k:SV)(_m:Mem)(_nx:Nat)(_K:KL):VC:=.fail "delete"
theorem Lh {ats:Array TypeId}{ty:TypeId}{x k:SV}{K:KL}{E:Nat->Nat}{w:World}(h:(z7 P ats x k m nx K).holds)(_hs:aL Γ E m nx w) :
  ∃ r w',(Builtin.delete_ ats ty #[x.val E,k.val E]).run P w=.ok r w'/\bt K Γ E nx r w':=h.elim
def F1 (_P:Program)(_t:TypeId)(_x:Option SV)(_m:Mem)(_nx:Nat)(_K:KL):VC:=.fail "range"
theorem Pu {dst:Option Tmp}{t type:TypeId}{pos:String}{after:Array Edge}{guard:Option (Nat×Bool)}{x:Operand} :
  qg P Γ σ m nx ⟨dst,.range t x,type,pos,after,guard⟩ (F1 P t (σ x) m nx):=λ_ _ _ _ h _ _ _ _=>h.elim
def NJ (_x:Option SV)(_s:Bool)(_m:Mem)(_nx:Nat)(_K:KL):VC:=.fail "next"
theorem TJ {dst:Option Tmp}{type:TypeId}{pos:String}{after:Array Edge}{guard:Option (Nat×Bool)}{x:Operand}{b:Bool} :
  qg P Γ σ m nx ⟨dst,.next x b,type,pos,after,guard⟩ (NJ (σ x) b m nx):=λ_ _ _ _ h _ _ _ _=>h.elim
end
section
variable {P : Program} {Γ : bh} {σ : Operand -> Option SV} {m : Mem} {nx : Nat}
def jA:List SV->List Int
 | .int .u8 _ n::r=>n::jA r
 | _=>[]
def J0:Nat->List SV->Option (Nat×List Int)
 | _,[]=>G
 | a,v::r=>match v with
   | .int .u8 _ n=>A (a,n::jA r)
   | _=>J0 (a+1) r
theorem zA: ∀(cs:List SV) (j:Nat),j<(jA cs).length->∃ b,cs[j]?=A (.int .u8 b (Db (jA cs) j))
 | [],j,h=>by simp[jA] at h
 | v::r,j,h=>by
   unfold jA at h ⊢;split at h
   ·rename_i b n r' e;injection e with e1 e2;subst e1;subst e2;cases j with
    | zero=>exact⟨b,rfl⟩
    | succ j =>obtain⟨b',hb⟩:=zA r j (by simpa using h);exact⟨b',by simpa [Db] using hb⟩
   ·simp at h
theorem EP: ∀(cs:List SV) (a a0:Nat) (zs:List Int),J0 a cs=A (a0,zs)->a<=a0/\a0 - a+zs.length<=cs.length/\∀ j,j<zs.length->∃ b,cs[a0 - a+j]?=A (.int .u8 b (Db zs j))
 | [],a,a0,zs,h=>by cases h
 | v::r,a,a0,zs,h=>by
   have rec':J0 (a+1) r=A (a0,zs)->a<=a0/\a0 - a+zs.length<=(v::r).length/\∀ j,j<zs.length->∃ b,(v::r)[a0 - a+j]?=A (.int .u8 b (Db zs j)):=λh=>by obtain⟨g1,g2,g3⟩:=EP r (a+1) a0 zs h;refine⟨by omega,by simp only[c6];omega,λj hj=> ?_⟩;obtain⟨b,hb⟩:=g3 j hj;exact⟨b,by rw[show a0 - a+j=(a0 - (a+1)+j)+1 by omega];simpa using hb⟩
   unfold J0 at h;split at h
   ·rename_i b n;injection h with h;injection h with h1 h2;subst h1;subst h2;have hf:=zA (.int .u8 b n::r);have e:jA (.int .u8 b n::r)=n::jA r:=rfl;rw[e] at hf;have hl: ∀ l:List SV,(jA l).length<=l.length:=by
     intro l;induction l with
     | nil=>simp[jA]
     | cons v r ih =>
       unfold jA;split
       ·rename_i e;injection e with _ e;subst e;simpa using ih
       ·simp
    refine⟨X _,by have:=hl r;simp only[c6,c9];omega,λj hj=> ?_⟩;rw[c9,bx];exact hf j hj
   ·exact rec' h
def F5 (off cnt:Nat)(s:List UInt8):Nat->List Int->List SV
 | _,[]=>[]
 | j,z::r=>.int .u8 H (if off<=j/\j<off+cnt then((s.getD (j - off) 0).toNat:Int)else z)::F5 off cnt s (j+1) r
theorem vG {off cnt:Nat}{s:List UInt8}: ∀ {l:List Int} {j:Nat},(F5 off cnt s j l).length=l.length
 | [],_=>rfl
 | _::r,j=>by simp[F5,vG (l:=r)]
theorem ID {off cnt:Nat}{s:List UInt8}: ∀ {l:List Int} {j q:Nat} {x:SV},(F5 off cnt s j l)[q]?=A x->x=.int .u8 H (if off<=j+q/\j+q<off+cnt then((s.getD (j+q - off) 0).toNat:Int)else Db l q)
 | [],_,_,_,h=>by simp[F5] at h
 | z::r,j,0,x,h=>by simp[F5] at h;subst h;simp[Db]
 | z::r,j,q+1,x,h=>by simp only[F5,a!] at h;rw[ID h,show j+1+q=j+(q+1)by omega];simp[Db]
def vv (key i n:Nat)(y:SV)(m:Mem)(nx:Nat)(K:KL):VC :=
 match y,m.get key with
 | .str _ s,A (.cells cs tot ty)=>(match J0 0 cs with
   | some (a,zs)=>.and (.atom (a<=i/\i+n<=a+zs.length)) (K (A (.int .i64 H (min s.length n:Nat))) (m.put key (.cells (aT cs a (F5 (i - a) (min s.length n) s 0 zs)) tot ty)) nx)
   | none=>.fail "copy: no bytes")
 | _,_=>.fail "copy: blocks"
theorem AT (P:Program)(w:World)(s:List UInt8)(n:Nat):(Builtin.firstCells 1 n (.string ⟨s.toArray⟩)).run P w=.ok ((s.take n).map λb=>N .u8 b.toNat).toArray w:=by
 have e:((ByteArray.mk s.toArray).extract 0 n)=⟨(s.take n).toArray⟩:=by have:=tn s 0 n;simpa using this
 show Result.ok _ w=_;rw[e];simp
theorem H6 {Γ:bh}{E:Nat->Nat}{w:World}{m:Mem}{nx:Nat}{K:KL}{key i n:Nat}{y:SV}(P:Program)(h:(vv key i n y m nx K).holds)(hs:aL Γ E m nx w) :
  ∃ s,y.val E=.string ⟨List.toArray s⟩/\∃ w',(storeCells ⟨E key,i,G⟩ ((s.take (min s.length n)).map λb=>N .u8 b.toNat)).run P w=.ok () w'/\bt K Γ E nx (.int .i64 ((min s.length n:Nat):Int)) w':=by
 unfold vv at h;split at h
 ·rename_i lt s cs tot ty hk;split at h
  ·rename_i a zs hrun8;obtain⟨⟨ha,hin⟩,h⟩:=h;obtain⟨_,u2,u3⟩:=EP cs 0 a zs hrun8;rw[Nat.sub_zero] at u2;refine⟨s,rfl,?_⟩;obtain⟨ob,ho,c,fr,rfl,h1,h2,h3⟩:=hs.nG key _ hk rfl;generalize hc:min s.length n=cnt at *;have hcs:cnt<=s.length:=by omega
   have hcn:cnt<=n:=by omega
   have hlen:((s.take cnt).map λb=>N .u8 b.toNat).length=cnt:=by rw[List.length_map,List.length_take];omega
   have hcl:cs.length<=c.size:=by
    cases hcs:cs.length with
    | zero=>omega
    | succ q =>have:=h2 q _ (ag (by omega));have:=(Array.getElem?_eq_some_iff.1 this).1;omega
   have hrun:=cX (P:=P) (o:=i) ((s.take cnt).map λb=>N .u8 b.toNat) 0 w c ho h1 (by rw[hlen];omega) (λu hu=>by rw[List.mem_map] at hu;obtain⟨b,_,rfl⟩:=hu;rfl)
   refine⟨_,hrun,E,A (.int .i64 H (cnt:Int)),_,_,λ_ _=>rfl,X _,λv hv=>by injection hv with hv;subst hv;rfl,hs.write hk rfl rfl (B':=.cells (aT cs a (F5 (i - a) cnt s 0 zs)) tot ty) ?_ rfl,h⟩;refine⟨_,fr,rfl,by rw[bG];exact h1,λq u hq=> ?_,by rw[bG];exact h3⟩;have hsa: ∀ v,(if i<=q/\q<i+cnt then((s.take cnt).map λb=>N .u8 b.toNat)[q - i]? else c[q]?)=A v->(eI c (i+0) ((s.take cnt).map λb=>N .u8 b.toNat))[q]?=A v:=by
    intro v hv;rw[← Array.getElem?_toList,gp,Nat.add_zero];have hqs:q<c.size:=by
     split at hv
     ·omega
     ·exact(Array.getElem?_eq_some_iff.1 hv).1
    have hsl:(aT c.toList i ((s.take cnt).map λb=>N .u8 b.toNat)).length=c.size:=by rw[← gp];simp[bG]
    obtain⟨x,hx⟩: ∃ x,(aT c.toList i ((s.take cnt).map λb=>N .u8 b.toNat))[q]?=A x:=⟨_,ag (by rw[hsl];exact hqs)⟩
    rcases pR _ _ _ _ _ hx (by rw[hlen,Array.length_toList];omega)with ⟨g1,g2,g3⟩ | ⟨g1,g2⟩
    ·rw[hlen] at g2;rw[if_pos ⟨g1,g2⟩] at hv;rw[hx,← g3];exact hv
    ·rw[hlen] at g1;rw[if_neg (by omega)] at hv;rw[hx,← g2,Array.getElem?_toList];exact hv
   apply hsa;rcases pR _ _ _ _ _ hq (by rw[vG];omega)with ⟨g1,g2,g3⟩ | ⟨g1,g2⟩
   ·have hu:=ID g3;subst hu;rw[vG] at g2;by_cases e:i<=q/\q<i+cnt
    ·rw[if_pos e,if_pos (by omega),W,List.getElem?_take_of_lt (by omega),ag (by omega)];simp only[Q,SV.val,bx];rw[show q - a - (i - a)=q - i by omega,List.getD_eq_getElem?_getD,ag (by omega)];rfl
    ·rw[if_neg e,if_neg (by omega)];obtain⟨b,hb⟩:=u3 (q - a) (by omega);rw[show a - 0+(q - a)=q by omega] at hb;have:=h2 _ _ hb;exact this
   ·rw[vG] at g1;rw[if_neg (by omega)];exact h2 q u g2
  ·exact h.elim
 ·exact h.elim
def ND (P:Program)(ats:Array TypeId)(x y:SV)(m:Mem)(nx:Nat)(K:KL):VC :=
 match ats[0]? with
 | some t0=>(match P.underlying t0 with
   | some (.slice elem)=>(match sz P elem,x with
     | some s,.slc key o n _ _=>(match gP m s y,m.get key with
       | some (l,n'),A (.cells cs tot ty)=>if(nD (l.take (min n' n*s))&&L (o+(l.take (min n' n*s)).length<=cs.length))=I then
          K (A (.int .i64 I (min n' n:Nat))) (m.put key (.cells (aT cs o (l.take (min n' n*s))) tot ty)) nx else .fail "copy: cells"
       | _,_=>.fail "copy: blocks")
     | some 1,.aZ key 1 H i n _=>vv key i n y m nx K
     | _,_=>.fail "copy: to what")
   | _=>.fail "copy")
 | none=>.fail "copy"
theorem Tj {ats:Array TypeId}{ty:TypeId}{x y:SV}{K:KL}{Γ:bh}{E:Nat->Nat}{w:World}
  (h:(ND P ats x y m nx K).holds) (hs:aL Γ E m nx w) :
  ∃ r w',(Builtin.copy_ ats ty #[x.val E,y.val E]).run P w=.ok r w'/\bt K Γ E nx r w':=by
 unfold ND at h;split at h
 ·rename_i t0 h0;split at h
  ·rename_i elem hd;split at h
   ·rename_i s key o n cl c hsz;split at h
    ·rename_i l n' cs tot ty' hy hk;split at h
     ·rename_i hc;simp only[R,decide_eq_true_eq] at hc;obtain⟨ylen,ycells,ynum⟩:=jx (P:=P) hs hy;have hyc:=ycells (min n' n) (Nat.min_le_left _ _);obtain⟨w',hrun,haft⟩:=bt.write (P:=P) (r:=.int .i64 ((min n' n:Nat):Int)) hs hk (jd hc.1) hc.2 (λv hv=>by injection hv with hv;subst hv;rfl) h;refine⟨_,w',?_,haft⟩;simp only[SV.val,Builtin.copy_,h0,an,bf,a!,D,aF hd,C,ylen,bY hsz];rw[show n'.min n=min n' n from rfl,hyc]
      simp only[C,hrun,F,goInt]
     ·exact h.elim
    ·exact h.elim
   ·rename_i key i n c hsz;obtain⟨s,hy,w',hrun,haft⟩:=H6 P h hs;refine⟨_,w',?_,haft⟩;have hl:(ByteArray.mk s.toArray).size=s.length:=by simp[ByteArray.size]
    rw[hy];simp only[SV.val,Bool.false_and,cond_false,Nat.mul_one,Builtin.copy_,h0,an,bf,a!,D,aF hd,C,Builtin.lenOf,F,bY hsz,hl];rw[show s.length.min n=min s.length n from rfl,AT]
    simp only[C,hrun,goInt]
   ·exact h.elim
  ·exact h.elim
 ·exact h.elim
def Hl:SV->Option aq
 | .int k _ n=>A (.int k λ_=>n)
 | .bool _ b=>A (.bool λ_=>b)
 | .str _ s=>A (.str λ_=>s)
 | _=>G
def nK:List SV->Option (List aq)
 | []=>A []
 | v::r=>(match Hl v,nK r with
   | some c,A l=>A (c::l)
   | _,_=>G)
theorem tq: ∀ {cs:List SV} {ay:List aq},nK cs=A ay->ay.length=cs.length/\∀(k:Nat) (col:aq),ay[k]?=A col->∃ v,cs[k]?=A v/\∀ i E,(col.at i).val E=v.val E
 | [],ay,h=>by simp[nK] at h;subst h;exact⟨rfl,λk c hc=>by simp at hc⟩
 | v::r,ay,h=>by
   simp only[nK] at h;split at h
   ·rename_i c l hc hl;injection h with h;subst h;obtain⟨g1,g2⟩:=tq hl;refine⟨by simp[g1],λk col hk=> ?_⟩;cases k with
    | zero =>simp at hk;subst hk;refine⟨v,rfl,λi E=> ?_⟩;unfold Hl at hc;split at hc<;>first | (injection hc with hc;subst hc;rfl) | cases hc
    | succ k=>exact g2 k col (by simpa using hk)
   ·cases h
theorem JV {zs:List SV}: ∀ {n i k:Nat} {v:SV},i<n->zs[k]?=A v->(times n zs)[i*zs.length+k]?=A v
 | 0,_,_,_,h,_=>absurd h (Nat.not_lt_zero _)
 | n+1,i,k,v,h,hk=>by
   have hkl:=(c4.1 hk).1;simp only[times];cases i with
   | zero=>rw[Nat.zero_mul,bx,cS hkl];exact hk
   | succ i =>rw[c8,Nat.one_mul,List.getElem?_append_right (by omega),show i*zs.length+zs.length+k - zs.length=i*zs.length+k by omega];exact JV (by omega) hk
def y8 (P:Program)(t:TypeId)(x y:SV)(m:Mem)(nx:Nat)(K:KL):VC :=
 match P.underlying t,x,y with
 | some (.slice e),.int .i64 I n,.int .i64 l c=>(match sz P e,fY P e,bytes P e with
   | some s,A z,A by_=>if(z.plain&&L (z.cells.length=s)&&L (s≠0)&&L (0<=n))=I then
      m6 l (n<=c/\by_*c<=140737488355328/\c<=9223372036854775807) (K (A (.slc nx 0 n.toNat l c.toNat)) ((nx,.cells (times (bif l then c.toNat else n.toNat) z.cells) (c.toNat*s) e)::m) (nx+1))else .fail "make: size"
   | _,_,_=>.fail "make")
 | some (.slice e),.int .i64 H n,.int .i64 _ c=>(match sz P e,fY P e,bytes P e with
   | some s,A z,A by_=>(match nK z.cells with
     | some ay=>if(z.plain&&L (z.cells.length=s)&&L (s≠0))=I then
       .and (.atom (c=n/\0<=n/\by_*n<=140737488355328/\n<=9223372036854775807)) (K (A (.aZ nx s H 0 n.toNat n.toNat)) ((nx,.rows H n.toNat ay H (n.toNat*s) e)::m) (nx+1))else .fail "make: size"
     | none=>.fail "make: columns")
   | _,_,_=>.fail "make")
 | _,_,_=>.fail "make: a length that is not known"
theorem D4 {dst:Option Tmp}{t type:TypeId}{pos:String}{after:Array Edge}{guard:Option (Nat×Bool)}{x y:Operand} :
  ∀ {a b:SV},(∀ n,a=.int .i64 H n->False)->∀(K:KL) (E:Nat->Nat) (w:World) (ρ:Operand->Value),(y8 P t a b m nx K).holds->aL Γ E m nx w->Mem.wf nx m=I->ρ x=a.val E->ρ y=b.val E ->
    Out P (bt K Γ E nx) ((execOp ρ ⟨dst,.makeSlice t x y,type,pos,after,guard⟩).run P w):=by
 intro a b hnl K E w ρ h hs hw ha hb;unfold y8 at h;split at h
 ·rename_i e n l c hd;split at h
  ·rename_i s z by_ hsz hz hby;split at h
   ·rename_i hc;simp only[R,decide_eq_true_eq] at hc;obtain⟨⟨⟨h1,h2⟩,h3⟩,h4⟩:=hc;have hk:(n<=c/\by_*c<=140737488355328/\c<=9223372036854775807)/\(K (A (.slc nx 0 n.toNat l c.toNat)) ((nx,.cells (times (bif l then c.toNat else n.toNat) z.cells) (c.toNat*s) e)::m) (nx+1)).holds:=by
     unfold Sx.m6 at h;split at h
     ·split at h
      ·rename_i hh;exact⟨hh,h⟩
      ·exact h.elim
     ·exact h
    obtain⟨⟨k1,k2,k3⟩,hk⟩:=hk;have hwc:IntKind.i64.wrap c=c:=s9 (k:=.i64) ⟨by simp only[lo];omega,by simp only[hi];omega⟩;have hwn:IntKind.i64.wrap n=n:=s9 (k:=.i64) ⟨by simp only[lo];omega,by simp only[hi];omega⟩;have hby': ∃ i,P.info? e=A i/\i.bytes=by_:=by
     unfold bytes at hby;split at hby
     ·rename_i i hi;injection hby with hby;exact⟨i,hi,hby⟩
     ·cases hby
    obtain⟨i,hi,hib⟩:=hby';have hzc:=SV.fh (E:=E) h1;have hzs:(z.val E).cells.size=s:=by rw[hzc];simp[h2]
    have hnl: ¬ (c<0):=by omega
    have hbig: ¬ (((by_:Nat):Int)*c>2^ 48):=by
     have:(2:Int)^ 48=281474976710656:=by decide
     omega
    have hcond:((L (c<0)||decide (((by_:Nat):Int)*c>2^ 48))||decide (n<0)||decide (n>c))=false:=by simp only[Bool.or_eq_false_iff,decide_eq_false_iff_not];exact⟨⟨⟨hnl,hbig⟩,by omega⟩,by omega⟩
    have fin: ∀ z':Array Value,((Array.range (c.toNat*s)).map λi=>z'[i% z'.size]!)=(SV.vals E (times c.toNat z.cells)).toArray ->
      Out P (bt K Γ E nx) (((newRow e ((Array.range (c.toNat*s)).map λi=>z'[i% z'.size]!) >>= λa=>pure (Value.slice (A a) n.toNat c.toNat):Sem Value).run P w).andThen λa w'=>(pure (Next.value a):Sem Next).run P w'):=by
     intro z' hz';rw[hz'];simp only[newRow,D,run_newObj,C,F,Out];have g: ∀ k:Nat,(times k z.cells).length=k*s:=by
      intro k;induction k with
      | zero=>simp[times]
      | succ k ih=>rw[times,List.length_append,ih,h2,c8];omega
     refine bt.alloc hs hw (CE (nI (yJ hz)) _) (λi v hv=> ?_) (by simp[SV.bA,g]) hk (by simp[SV.val])
     ·generalize hq:(bif l then c.toNat else n.toNat)=q at hv
      have hqc:q<=c.toNat:=by cases l<;>simp at hq<;>omega
      have hsplit:times c.toNat z.cells=times q z.cells++times (c.toNat - q) z.cells:=by
       have g: ∀ a b:Nat,times (a+b) z.cells=times a z.cells++times b z.cells:=by
        intro a b;induction a with
        | zero=>simp[times]
        | succ a ih=>rw[show a+1+b=(a+b)+1 by omega,times,ih,times,List.append_assoc]
       rw[← g];congr 1;omega
      have:=(c4.1 hv).1;rw[SV.bA,an,W,hsplit,cS this,hv];rfl
    simp only[execOp,Instr.makeSlice,ha,hb,SV.val,asInt,asIntOf,D,aF hd,C,F,jt hi,hib,hwc,hwn];rw[hcond];simp only[bO,if_false,D,run_askRoom,C,bY hsz,Sem.run_ite];by_cases h0:c.toNat*s=0
    ·rw[if_pos h0];simp only[F,C];refine fin #[] ?_;have:c.toNat=0:=by rcases Nat.mul_eq_zero.1 h0 with h | h;exact h;exact absurd h h3
     rw[this];simp[times,SV.vals]
    ·rw[if_neg h0];simp only[dI (E:=E) hz,F,C];refine fin _ ?_;apply Array.ext';have:=rF (E:=E) (zs:=z.cells) (z:=(z.val E).cells) (by rw[hzc]) (by rw[hzs];exact h3) c.toNat;rw[hzs] at this;rw[SV.bA];simpa [hzs] using this
   ·exact h.elim
  ·exact h.elim
 ·exact(hnl _ rfl).elim
 ·exact h.elim
theorem TI {dst:Option Tmp}{t type:TypeId}{pos:String}{after:Array Edge}{guard:Option (Nat×Bool)}{x y:Operand} :
  qg P Γ σ m nx ⟨dst,.makeSlice t x y,type,pos,after,guard⟩ (λK=>need (σ x) (λa=>need (σ y) (λb=>y8 P t a b m nx K))):=by
 refine qg.need λa ha=>qg.need λb hb=> ?_;intro K E w ρ h hs hw hσ hr;by_cases hl: ∃ n,a=.int .i64 H n
 ·obtain⟨n,rfl⟩:=hl;unfold y8 at h;split at h
  ·rename_i e;cases e
  ·rename_i e n' l' c hd heq;injection heq with _ _ heq;subst heq;split at h
   ·rename_i s z by_ hsz hz hby;split at h
    ·rename_i ay hcols;split at h
     ·rename_i hc;obtain⟨⟨rfl,k1,k2,k3⟩,h⟩:=h;have hc':=hc;simp only[R,decide_eq_true_eq] at hc';obtain⟨⟨h1,h2⟩,h3⟩:=hc';let K0:KL:=λsv m' nx'=>.atom (sv=A (.slc nx 0 c.toNat I c.toNat)/\m'=(nx,.cells (times c.toNat z.cells) (c.toNat*s) e)::m/\nx'=nx+1);have hk0:(y8 P t (.int .i64 I c) (.int .i64 I c) m nx K0).holds:=by simp only[y8,hd,hsz,hz,hby];rw[if_pos (by simp[h1,h2,h3,k1])];simp only[Sx.m6,cond_true];rw[if_pos ⟨Int.le_refl _,k2,k3⟩];exact⟨rfl,rfl,rfl⟩
      have ho:=D4 (P:=P) (Γ:=Γ) (m:=m) (nx:=nx) (dst:=dst) (type:=type) (pos:=pos) (after:=after) (guard:=guard) (t:=t) (x:=x) (y:=y) (a:=.int .i64 I c) (b:=.int .i64 I c) (λ_ h=>by cases h) K0 E w ρ hk0 hs hw (by have:=hr x _ ha;exact this) (by have:=hr y _ hb;exact this);refine ho.mono ?_ (λ_ _ h=>h);rintro r w' ⟨E',sv,m',nx',g1,g2,g3,g4,rfl,rfl,rfl⟩;obtain⟨q1,q2⟩:=tq hcols;refine⟨E',A (.aZ nx s H 0 c.toNat c.toNat),_,_,g1,g2,λv hv=> ?_,?_,h⟩
      ·injection hv with hv;subst hv;rw[g3 _ rfl];simp[SV.val]
      ·
       have hblk: ∀ E' o,bz E' (.cells (times c.toNat z.cells) (c.toNat*s) e) o->bz E' (.rows H c.toNat ay H (c.toNat*s) e) o:=by rintro E' o ⟨c0,fr,rfl,f1,f2,f3⟩;refine⟨c0,fr,rfl,λ_=>f1,by rw[q1,h2,f3];exact X _,f3,λi k col hi hk=> ?_⟩;obtain⟨v,hv1,hv2⟩:=q2 k col hk;rw[hv2,q1];exact f2 _ _ (JV hi hv1)
       exact g4.JP (aa.of rfl rfl λ_=>⟨rfl,λE o ho=>hblk E o ho,id⟩)
     ·exact h.elim
    ·exact h.elim
   ·exact h.elim
  ·exact h.elim
 ·exact D4 (λn e=>hl ⟨n,e⟩) K E w ρ h hs hw (hr x _ ha) (hr y _ hb)
abbrev PT:=List SV->Mem->Nat->(SV->Mem->Nat->VC)->VC
def lift (K:SV->Mem->Nat->VC):KL:=λv m nx=>match v with
 | some v=>K v m nx
 | none=>.fail "a call's result that is not known"
def az (P:Program)(f:FuncId)(pt:PT):Prop :=
 ∀ args m nx K,(pt args m nx K).holds->Mem.wf nx m=I->SV.fH nx args=I->∀ Γ E w,aL Γ E m nx w ->
   Out P (bt (lift K) Γ E nx) ((callFunc f (SV.vals E args).toArray).run P w)
inductive nB where
 | fn (f:FuncId)
 | yield (key:Nat)
 | panic
def nB.sem (E:Nat->Nat):nB->Array Value->Sem Next
 | .fn f,args=>callFunc f args
 | .yield key,args=>b! (E key) args
 | .panic,args=>do pure (.value (← Instr.panic (args.getD 0 undef)))
def p9 (P:Program)(Γ:bh)(KP:PK)(c:nB)(pt:PT):Prop :=
 ∀ Δ,Γ.le Δ->∀ args m nx K,(pt args m nx K).holds->Mem.wf nx m=I->SV.fH nx args=I->∀ E w,aL Δ E m nx w ->
   Out P (bt (lift K) Δ E nx) ((c.sem E (SV.vals E args).toArray).run P w) (jG KP Δ E nx)
theorem az.cok {P:Program}{f:FuncId}{pt:PT}(h:az P f pt)(Γ:bh)(KP:PK):p9 P Γ KP (.fn f) pt:=λΔ _ args m nx K h1 h2 h3 E w hs=>(h args m nx K h1 h2 h3 Δ E w hs).tc
theorem p9.mono {P:Program}{Γ Δ:bh}{KP:PK}{c:nB}{pt:PT}(h:p9 P Γ KP c pt)(hle:Γ.le Δ):p9 P Δ KP c pt:=λΘ h'=>h Θ (bh.le_trans hle h')
def VL (P:Program)(Γ:bh)(KP:PK)(σ:Operand->Option SV)(m:Mem)(nx:Nat)(o:Oper)(t:KL->VC):Prop :=∀ K E w ρ,(t K).holds->aL Γ E m nx w->Mem.wf nx m=I->WfS nx σ->Reads E σ ρ->Out P (bt K Γ E nx) ((execOp ρ o).run P w) (jG KP Γ E nx)
theorem qg.tc {P:Program}{Γ:bh}{KP:PK}{σ:Operand->Option SV}{m:Mem}{nx:Nat}{o:Oper}{t:KL->VC}(h:qg P Γ σ m nx o t):VL P Γ KP σ m nx o t:=λK E w ρ h1 h2 h3 h4 h5=>(h K E w ρ h1 h2 h3 h4 h5).tc
def FH:TypeDesc->Bool
 | .pointer _=>I
 | _=>H
def Fv (P:Program)(t:TypeId)(v:SV)(name:String):Option (FuncId×SV) :=
 match P.info? t with
 | some i=>(match i.methods.find? (·.name==name)with
   | some mt=>(match mt.func,mt.path.toList with
     | some (g,p),[]=>(match P.underlying t with
       | some d=>if FH d=p then A (g,v)else G
       | none=>G)
     | some (g,p),[s]=>(match s.deref,P.underlying s.struct,v with
       | false,A (.struct fs),.agg cs=>(match fs[s.index]? with
         | some f=>(match partOf P f.type cs f.offset,P.underlying f.type with
           | some u,A d=>if FH d=p then A (g,u)else G
           | _,_=>G)
         | none=>G)
       | _,_,_=>G)
     | _,_=>G)
   | none=>G)
 | none=>G
def y7 (P:Program)(call:nB->PT)(σ:Operand->Option SV)(c:Call)(m:Mem)(nx:Nat)(K:KL):VC :=
 match c.callee,Fq σ c.args.toList with
 | .value f,A args=>(match σ f with
   | some (.func (.func g) first captured)=>call (.fn g) (first++args++captured) m nx (λv m nx=>K (A v) m nx)
   | some (.yield key)=>call (.yield key) args m nx (λv m nx=>K (A v) m nx)
   | _=>.fail "call: of what")
 | .invoke r name,A args=>(match σ r with
   | some (.iface t v)=>(match Fv P t v name with
     | some (g,u)=>(match u.wf nx with
       | true=>call (.fn g) (u::args) m nx (λv m nx=>K (A v) m nx)
       | false=>.fail "call: receiver")
     | none=>.fail "call: no such method")
   | _=>.fail "call: of what")
 | .builtin .append,A [x,y]=>vu P c.argTypes x y m nx K
 | .builtin .copy,A [x,y]=>ND P c.argTypes x y m nx K
 | .builtin .delete,A [x,y]=>z7 P c.argTypes x y m nx K
 | _,_=>.fail "call"
theorem bt.Gf {K:KL}{Γ:bh}{E:Nat->Nat}{r:Value}{w:World}(h:bt (lift λv m nx=>K (A v) m nx) Γ E nx r w):bt K Γ E nx r w:=by
 obtain⟨E',sv,m',nx',h1,h2,h3,h4,h5⟩:=h;cases sv with
 | none=>exact h5.elim
 | some v=>exact⟨E',A v,m',nx',h1,h2,h3,h4,h5⟩
def xR (call:nB->PT)(x:Option SV)(m:Mem)(nx:Nat):VC :=
 match x with
 | some (.iface t v)=>call .panic [.iface t v] m nx (λ_ _ _=>.fail "a panic")
 | _=>.fail "a panic of what"
theorem Pt {KP:PK}{call:nB->PT}(hcall: ∀ c,p9 P Γ KP c (call c)){dst:Option Tmp}{type:TypeId}{pos:String}{after:Array Edge}{guard:Option (Nat×Bool)}{x:Operand} :
  VL P Γ KP σ m nx ⟨dst,.panic x,type,pos,after,guard⟩ (λ_=>xR call (σ x) m nx):=by
 intro K E w ρ h hs hw hσ hr;unfold xR at h;split at h
 ·rename_i t v hx;have hv:=hσ _ _ hx;have:=hcall .panic Γ Γ.le_refl [.iface t v] m nx _ h hw (by simp only[SV.fH,hv,Bool.and_self]) E w hs;have hrun:(execOp ρ ⟨dst,.panic x,type,pos,after,guard⟩).run P w=((nB.panic).sem E (SV.vals E [.iface t v]).toArray).run P w:=by simp only[execOp,hr x _ hx,nB.sem,SV.vals];rfl
  rw[hrun];refine this.mono (λr w' hh=> ?_) (λ_ _ h=>h);obtain⟨E',sv,m',nx',h1,h2,h3,h4,h5⟩:=hh;cases sv<;>exact h5.elim
 ·exact h.elim
theorem Fs {nx:Nat}{σ:Operand->Option SV}(hσ:WfS nx σ): ∀ {xs:List Operand} {l:List SV},Fq σ xs=A l->SV.fH nx l=I
 | [],l,h=>by simp[Fq] at h;subst h;rfl
 | x::r,l,h=>by
   simp only[Fq] at h;split at h
   ·rename_i v l' hv hl;injection h with h;subst h;simp only[SV.fH,R];exact⟨hσ x v hv,Fs hσ hl⟩
   ·cases h
theorem HG {E:Nat->Nat}{w:World}{t:TypeId}{v u:SV}{name:String}{g:FuncId}(h:Fv P t v name=A (g,u))(fuel:Nat) :
  (method (fuel+1) t (v.val E) name).run P w=.ok (g,u.val E) w:=by
 unfold Fv at h;split at h
 ·rename_i i hi;split at h
  ·rename_i mt hm;split at h
   ·rename_i g' p hfn hpl;split at h
    ·rename_i d hd;split at h
     ·rename_i hp;injection h with h;injection h with e1 e2;subst e1;subst e2;simp only[method,D,jt hi,C,hm,hpl,follow,F,hfn];cases d<;>simp only[FH] at hp<;>subst hp<;>simp only[receiverAt,D,aF hd,C,Place.get,F]
     ·cases h
    ·cases h
   ·rename_i g' p s hfn hpl;split at h
    ·rename_i fs cs hder hst;split at h
     ·rename_i f hf;split at h
      ·rename_i u' d hu hd;split at h
       ·rename_i hp;injection h with h;injection h with e1 e2;subst e1;subst e2;simp only[method,D,jt hi,C,hm,hpl,follow,aF hst,hf,hder,bO,if_false,SV.val,gK hu,F,hfn];cases d<;>simp only[FH] at hp<;>subst hp<;>simp only[receiverAt,D,aF hd,C,Place.get,F]
       ·cases h
      ·cases h
     ·cases h
    ·cases h
   ·cases h
  ·cases h
 ·cases h
theorem mZ (E:Nat->Nat)(a b:List SV):SV.vals E (a++b)=SV.vals E a++SV.vals E b:=by simp[SV.bA]
theorem Ti {KP:PK}{call:nB->PT}(hcall: ∀ c,p9 P Γ KP c (call c)){dst:Option Tmp}{type:TypeId}{pos:String}{after:Array Edge}{guard:Option (Nat×Bool)}{c:Call} :
  VL P Γ KP σ m nx ⟨dst,.call c,type,pos,after,guard⟩ (y7 P call σ c m nx):=by
 intro K E w ρ h hs hw hσ hr;obtain⟨callee,args,ats⟩:=c;unfold y7 at h;split at h
 ·rename_i f avs hca hargs;simp only at hca;subst hca;split at h
  ·rename_i g first captured hf
   have hfw:=hσ _ _ hf;simp only[SV.wf,R] at hfw;have:=hcall (.fn g) Γ Γ.le_refl (first++avs++captured) m nx _ h hw (eZ (eZ hfw.1 (Fs hσ hargs)) hfw.2) E w hs
   have hrun:(execOp ρ ⟨dst,.call ⟨.value f,args,ats⟩,type,pos,after,guard⟩).run P w=(callFunc g (SV.vals E (first++avs++captured)).toArray).run P w:=by simp only[execOp,resolve,hr _ _ hf,SV.val,Deferred.ofValue,D,F,C,invoke];rw[mM hr hargs,mZ,mZ];simp
   rw[hrun];exact this.mono (λr w' h=>h.Gf) (λ_ _ h=>h)
  ·rename_i key hf;have:=hcall (.yield key) Γ Γ.le_refl avs m nx _ h hw (Fs hσ hargs) E w hs;have hrun:(execOp ρ ⟨dst,.call ⟨.value f,args,ats⟩,type,pos,after,guard⟩).run P w=(b! (E key) (SV.vals E avs).toArray).run P w:=by simp only[execOp,resolve,hr _ _ hf,SV.val,Deferred.ofValue,D,F,C,invoke];rw[mM hr hargs];simp
   rw[hrun];exact this.mono (λr w' h=>h.Gf) (λ_ _ h=>h)
  ·exact h.elim
 ·rename_i r name avs hca hargs;simp only at hca;subst hca;split at h
  ·rename_i t v hrv;split at h
   ·rename_i g u hm;split at h
    ·rename_i huw;have:=hcall (.fn g) Γ Γ.le_refl (u::avs) m nx _ h hw (by simp only[SV.fH,R];exact⟨huw,Fs hσ hargs⟩) E w hs;have hrun:(execOp ρ ⟨dst,.call ⟨.invoke r name,args,ats⟩,type,pos,after,guard⟩).run P w=(callFunc g (SV.vals E (u::avs)).toArray).run P w:=by
      simp only[execOp,resolve,hr _ _ hrv,SV.val,D,F,C,invoke];rw[mM hr hargs];simp only[Array.getElem?_append_left,List.size_toArray,List.length_singleton,Nat.lt_one_iff,an,bf,callMethod,D,run_program,C];have hfm:=HG (E:=E) (w:=w) hm (P.types.size+Z - 1);have hpos:0<Z:=by decide
      rw[show P.types.size+Z - 1+1=P.types.size+Z by omega] at hfm;rw[hfm];simp only[C];congr 2;simp[SV.vals]
     rw[hrun];exact this.mono (λr w' h=>h.Gf) (λ_ _ h=>h)
    ·exact h.elim
   ·exact h.elim
  ·exact h.elim
 ·rename_i x y hca hargs;simp only at hca;subst hca;obtain⟨r,w',hrun,haft⟩:=HY (P:=P) (ty:=type) h hs hw;rw[aM,BigFrame.builtin_append,mM hr hargs];simp only[SV.vals,D];rw[hrun];exact haft
 ·rename_i x y hca hargs;simp only at hca;subst hca;obtain⟨r,w',hrun,haft⟩:=Tj (P:=P) (ty:=type) h hs;rw[aM,BigFrame.builtin_copy,mM hr hargs];simp only[SV.vals,D];rw[hrun];exact haft
 ·rename_i x y hca hargs;simp only at hca;subst hca;obtain⟨r,w',hrun,haft⟩:=Lh (P:=P) (ty:=type) h hs;rw[aM,BigFrame.builtin_delete,mM hr hargs];simp only[SV.vals,D];rw[hrun];exact haft
 ·exact h.elim
end
end
end Go.Proofs.YtoibaecagklkaaaGreatDoor.Sx
