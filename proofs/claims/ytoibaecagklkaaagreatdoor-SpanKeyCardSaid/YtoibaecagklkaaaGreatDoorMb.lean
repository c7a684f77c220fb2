/-
  The framework's second part: operations that leave the world alone.
-/
import Derived.Test.YtoibaecagklkaaaGreatDoorMa
import Derived.Laws.StructEq
import Derived.ChangeKeysEq
import Derived.Laws.Build
open Bool renaming and_eq_true->bf,false->G,false_eq_true->a_,not_false->ef,not_true->bD,true->C
open ByteArray renaming data_append->eB,ext->eC,mk->T,size->cR
open Decidable renaming decide->N
open Go.Instr renaming extract->ei,field->ej,fieldAt->X,index->a!,indexAt->Q,loadAt->I,sureAddr->H
open Go.IntKind renaming bits->c4,signed->b_,wrap->ek
open Go.Op renaming bytesLess->c5,eqFields->b!,eqItems->c_,equal->ct,equalIn->M,intArith->cx,intBits->Y,intCmp->en,intDiv->Z,maxDepth->ag,shift->c!,stringOp->cy
open Go.Result renaming andThen_ok->L
open Go.Sem renaming run_bind->J,run_ite->ep,run_pure->S
open List renaming foldr_cons->er,getElem?_eq_getElem->V,getElem?_map->O,length_cons->d_,length_map->an,length_nil->eu,range->ez
open Nat renaming add_assoc->W,add_mul->d!,add_zero->eA,beq->R,mul_one->cQ,zero_add->ec
open Option renaming none->F,some->A
namespace Go.Proofs.YtoibaecagklkaaaGreatDoor
open Go Sx
variable {s:(Operand->Value)->Sem Value}{c:Array Value}{op:BinOp}{l l':Bool}{b n:Int}{E:Nat->Nat}{fr:Nat×Nat}{x:Operand}{σ:Operand->Option SV}{P:Program}{a:SV}{t ty:TypeId}{w:World}
namespace Sx
open Go
theorem aE {d:TypeDesc}(h:P.underlying t=A d):(underlying t).run P w=.ok d w:=by simp[underlying,h]
theorem jx {i:TypeInfo}(h:P.info? t=A i):(typeInfo t).run P w=.ok i w:=by simp[typeInfo,h]
def sz (P:Program)(t:TypeId):Option Nat:=match P.info? t with | some i=>A i.size | none=>F
theorem cg {n:Nat}(h:sz P t=A n):(sizeOf t).run P w=.ok n w:=by
 unfold sz at h;split at h
 ·rename_i i hi;injection h with h;subst h;simp[sizeOf,jx hi]
 ·cases h
def fG:TypeDesc->Bool
 | .struct _=>C
 | .array _ _=>C
 | _=>G
theorem cI {d:TypeDesc}(h:P.underlying t=A d):(isAgg t).run P w=.ok (fG d) w:=by cases d<;>simp[isAgg,aE h,fG]
theorem cP (b o n:Nat):(⟨b,o,F⟩:Addr).add n=⟨b,o+n,F⟩:=by unfold Addr.add;split<;>simp_all
theorem cell_of {b o:Nat}(h:w.heap[b]?=A (.cells c ty fr)) :
  w.cell? ⟨b,o,F⟩=c[o]?:=by
 simp[World.cell?,h]
theorem run_loadCellsFrom {b:Nat}(h:w.heap[b]?=A (.cells c ty fr))(o:Nat) :
  ∀(vs:List Value) (i:Nat) (acc:Array Value),(∀ j v,vs[j]?=A v->c[o+i+j]?=A v) ->
   (loadCellsFrom ⟨b,o,F⟩ i vs.length acc).run P w=.ok (acc++vs.toArray) w:=by
 intro vs;induction vs with
 | nil=>intro i acc _;simp[loadCellsFrom]
 | cons v r ih =>
   intro i acc hv;have h0:=hv 0 v rfl;simp only[d_,loadCellsFrom,J,run_load,cP,cell_of h];rw[show o+i+0=o+i from rfl] at h0
   rw[h0];simp only[L];rw[ih (i+1) (acc.push v) (λj u hu=>by have:=hv (j+1) u (by simpa using hu);rw[← this];congr 1;omega)];simp
theorem run_loadCells {b:Nat}(h:w.heap[b]?=A (.cells c ty fr))(o:Nat)
  (vs:List Value) (hv: ∀(j:Nat) v,vs[j]?=A v->c[o+j]?=A v) :
  (loadCells ⟨b,o,F⟩ vs.length).run P w=.ok vs.toArray w:=by
 have:=run_loadCellsFrom (P:=P) h o vs 0 #[] (λj v hj=>by simpa using hv j v hj);simpa [loadCells] using this
def gP (cs:List SV)(o n:Nat):Option (List SV) :=
 match o,cs with
 | 0,cs=>(match n,cs with
   | 0,_=>A []
   | n+1,x::r=>(match gP r 0 n with | some l=>A (x::l) | none=>F)
   | _+1,[]=>F)
 | o+1,_::r=>gP r o n
 | _+1,[]=>F
termination_by structural cs
theorem cN: ∀ {cs:List SV} {o n:Nat} {l:List SV},gP cs o n=A l->l.length=n/\∀ j v,l[j]?=A v->cs[o+j]?=A v
 | cs,0,0,l,h=>by cases cs<;>simp[gP] at h<;>subst h<;>simp
 | [],0,n+1,l,h=>by simp[gP] at h
 | x::r,0,n+1,l,h=>by
   simp only[gP] at h;split at h
   ·rename_i l' hl;injection h with h;subst h;have:=cN hl;refine⟨by simp[this.1],λj v hj=> ?_⟩;cases j with
    | zero=>simpa using hj
    | succ j=>have:=this.2 j v (by simpa using hj);simpa using this
   ·cases h
 | [],o+1,n,l,h=>by simp[gP] at h
 | x::r,o+1,n,l,h=>by simp only[gP] at h;have:=cN h;refine⟨this.1,λj v hj=> ?_⟩;have:=this.2 j v hj;rw[show o+1+j=(o+j)+1 by omega];simpa using this
abbrev QT:=(Option SV->VC)->VC
abbrev lA:=Nat->Option SB
def Compat (E:Nat->Nat)(look:lA)(w:World):Prop:=(∀ k B,look k=A B->B.no=G->∃ o,w.heap[E k]?=A o/\bF E B o)/\qt w/\∀ k B a,look k=A B->B.gb (E k) a->∃ o,w.heap[a]?=A o/\bF E (B.el a) o
def Reads (E:Nat->Nat)(σ:Operand->Option SV)(ρ:Operand->Value):Prop:=∀ x v,σ x=A v->ρ x=v.val E
def aR (P:Program)(look:lA)(σ:Operand->Option SV)(s:(Operand->Value)->Sem Value)(t:QT):Prop :=
 ∃(obl:Prop) (sv:Option SV),(∀ K,(t K).holds↔obl/\(K sv).holds) /\
  (∀ E w ρ,Compat E look w->Reads E σ ρ->obl->∃ r,(s ρ).run P w=.ok r w/\∀ v,sv=A v->r=v.val E)
section
variable {P : Program} {look : lA} {σ : Operand -> Option SV} {s : (Operand -> Value) -> Sem Value}
theorem aR.fail (why:String):aR P look σ s (λ_=>.fail why) :=⟨False,F,λ_K=>⟨λh=>h.elim,λh=>h.1.elim⟩,λ_ _ _ _ _ h=>h.elim⟩
theorem aR.k (sv:Option SV)(h: ∀ E w ρ,Compat E look w->Reads E σ ρ->∃ r,(s ρ).run P w=.ok r w/\∀ v,sv=A v->r=v.val E) :
  aR P look σ s (λK=>K sv) :=
 ⟨True,sv,λ_K=>⟨λh=>⟨trivial,h⟩,λh=>h.2⟩,λE w ρ hc hr _=>h E w ρ hc hr⟩
theorem aR.v (v:SV)(h: ∀ E w ρ,Compat E look w->Reads E σ ρ->(s ρ).run P w=.ok (v.val E) w):aR P look σ s (λK=>K (A v)) :=aR.k _ λE w ρ hc hr=>⟨_,h E w ρ hc hr,λv' hv=>by injection hv with hv;rw[hv]⟩
theorem aR.atom {p:Prop}{t:QT}(h:p->aR P look σ s t):aR P look σ s (λK=>.and (.atom p) (t K)):=by
 by_cases hp:p
 ·obtain⟨obl,sv,h1,h2⟩:=h hp;exact⟨obl,sv,λK=>⟨λx=>(h1 K).1 x.2,λx=>⟨hp,(h1 K).2 x⟩⟩,h2⟩
 ·exact⟨False,F,λK=>⟨λx=>(hp x.1).elim,λx=>x.1.elim⟩,λ_ _ _ _ _ h=>h.elim⟩
theorem aR.fork {b:Bool}{t:Bool->QT}(h:aR P look σ s (t b)):aR P look σ s (λK=>Sx.fork b (λc=>t c K)):=by obtain⟨obl,sv,h1,h2⟩:=h;exact⟨obl,sv,λK=>by rw[cH];exact h1 K,h2⟩
theorem aR.ite {c:Prop}[Decidable c]{t u:QT}(h:c->aR P look σ s t)(h': ¬ c->aR P look σ s u) :
  aR P look σ s (λK=>if c then t K else u K):=by
 by_cases hc:c
 ·simp only[hc,if_true];exact h hc
 ·simp only[hc,if_false];exact h' hc
end
def lo:IntKind->Int
 | .i8=> -128 | .i16=> -32768 | .i32=> -2147483648 | .i64=> -9223372036854775808
 | _=>0
def hi:IntKind->Int
 | .i8=>127 | .i16=>32767 | .i32=>2147483647 | .i64=>9223372036854775807
 | .u8=>255 | .u16=>65535 | .u32=>4294967295 | .u64=>18446744073709551615
def md:IntKind->Int
 | .i8 | .u8=>256 | .i16 | .u16=>65536 | .i32 | .u32=>4294967296 | .i64 | .u64=>18446744073709551616
theorem tc {k:IntKind}(h:lo k<=n/\n<=hi k):k.wrap n=n:=by obtain⟨h1,h2⟩:=h;cases k<;>simp only[lo,hi] at h1 h2<;>simp only[ek,c4,b_]<;>simp<;>(try split)<;>omega
theorem YP {k:IntKind}(hs:k.signed=G)(n:Int):k.wrap n=n% md k:=by cases k<;>simp[b_] at hs<;>simp[ek,c4,b_,md]
def uk (k:IntKind):List SV->Option (List Int)
 | []=>A []
 | .int k' _ n::r=>if k=k' then(match uk k r with
   | some l=>A (n::l)
   | none=>F)else F
 | _::_=>F
def TN:List SV->IntKind
 | .int k _ _::_=>k
 | _=>.i64
def De (l:List Int)(i:Nat):Int:=l.getD i 0
theorem pz {k:IntKind}: ∀ {cs:List SV} {l:List Int},uk k cs=A l->l.length=cs.length/\∀(i:Nat) (v:SV),cs[i]?=A v->∃ b,v=.int k b (De l i)
 | [],l,h=>by simp[uk] at h;subst h;exact⟨rfl,λi v hv=>by simp at hv⟩
 | .int k' b n::r,l,h=>by
   simp only[uk] at h;split at h
   ·rename_i e;subst e;split at h
    ·rename_i l' hl;injection h with h;subst h;obtain⟨h1,h2⟩:=pz hl;refine⟨by simp[h1],λi v hv=> ?_⟩;cases i with
     | zero=>simp at hv;subst hv;exact⟨b,rfl⟩
     | succ i=>obtain⟨b',hb⟩:=h2 i v (by simpa using hv);exact⟨b',by rw[hb];rfl⟩
    ·cases h
   ·cases h
def nO:List SV->Option (List (List UInt8))
 | []=>A []
 | .str _ s::r=>(match nO r with
   | some l=>A (s::l)
   | none=>F)
 | _::_=>F
def bT (l:List (List UInt8))(i:Nat):List UInt8:=l.getD i []
theorem mM: ∀ {cs:List SV} {l:List (List UInt8)},nO cs=A l->∀(i:Nat) (v:SV),cs[i]?=A v->∃ b,v=.str b (bT l i)
 | [],l,h,i,v,hv=>by simp at hv
 | .str b s::r,l,h,i,v,hv=>by
   simp only[nO] at h;split at h
   ·rename_i l' hl;injection h with h;subst h;cases i with
    | zero=>simp at hv;subst hv;exact⟨b,rfl⟩
    | succ i=>obtain⟨b',hb⟩:=mM hl i v (by simpa using hv);exact⟨b',by rw[hb];rfl⟩
   ·cases h
theorem uO: ∀ {cs:List SV} {l:List (List UInt8)},nO cs=A l->l.length=cs.length
 | [],l,h=>by simp[nO] at h;subst h;rfl
 | .str b s::r,l,h=>by
   simp only[nO] at h;split at h
   ·rename_i l' hl;injection h with h;subst h;simp[uO hl]
   ·cases h
def kW (ax:List ak)(i k n:Nat):Option (List SV):=gP (ax.map (ak.at i)) k n
noncomputable def FR (g:Nat):List (Nat×Array Value)->Option (Array Value)
 | []=>F
 | e::r=>if e.1=g then A e.2 else FR g r
theorem ue {g:Nat}: ∀ {l:List (Nat×Array Value)} {cs:Array Value},FR g l=A cs->(g,cs)∈ l
 | [],_,h=>by cases h
 | e::r,cs,h=>by
   simp only[FR] at h;split at h
   ·rename_i he;injection h with h;subst h;subst he;exact List.mem_cons_self ..
   ·exact List.mem_cons_of_mem _ (ue h)
def SV.L5:Value->Option SV
 | .iface t (.agg cs)=>A (.iface t (.agg (cs.toList.map SV.raw)))
 | v=>SV.uB v
theorem SV.L6 {v:Value}{x:SV}(h:SV.L5 v=A x):x.val E=v:=by
 unfold SV.L5 at h;split at h
 ·injection h with h;subst h;have: ∀ l:List Value,SV.vals E (l.map SV.raw)=l:=by
   intro l;induction l with
   | nil=>rfl
   | cons a r ih=>simp only[List.map_cons,SV.vals,SV.val,ih]
  simp[SV.val,this]
 ·exact SV.uC h
def wH (k:IntKind):List Value->Option (List Int)
 | []=>A []
 | .int k' n::r=>if k=k' then(match wH k r with
   | some l=>A (n::l)
   | none=>F)else F
 | _::_=>F
def Ym:List Value->Option IntKind
 | .int k _::_::_=>A k
 | _=>F
theorem zA {k:IntKind}: ∀ {cs:List Value} {l:List Int},wH k cs=A l->l.length=cs.length/\∀(i:Nat),i<l.length->cs[i]?=A (.int k (De l i))
 | [],l,h=>by simp[wH] at h;subst h;exact⟨rfl,λi hi=>absurd hi (Nat.not_lt_zero _)⟩
 | v::r,l,h=>by
   unfold wH at h;split at h
   ·rename_i e;cases e
   ·rename_i k' n r' e;injection e with e1 e2;subst e1;subst e2;split at h
    ·rename_i e;subst e;split at h
     ·rename_i l' hl;injection h with h;subst h;obtain⟨h1,h2⟩:=zA hl;refine⟨by simp[h1],λi hi=> ?_⟩;cases i with
      | zero=>rfl
      | succ i=>simpa [De] using h2 i (by simpa using hi)
     ·cases h
    ·cases h
   ·cases h
def gq (c:ak)(o:Nat):Nat->List SV
 | 0=>[]
 | n+1=>c.at o::gq c (o+1) n
theorem mW (c:ak): ∀(n o:Nat),(gq c o n).length=n
 | 0,_=>rfl
 | n+1,o=>by simp[gq,mW c n (o+1)]
theorem qG (c:ak): ∀(n o j:Nat) (v:SV),(gq c o n)[j]?=A v->j<n/\v=c.at (o+j)
 | 0,_,j,v,h=>by simp[gq] at h
 | n+1,o,0,v,h=>by simp[gq] at h;exact⟨Nat.succ_pos _,h.symm⟩
 | n+1,o,j+1,v,h=>by simp only[gq,List.getElem?_cons_succ] at h;obtain⟨h1,h2⟩:=qG c n (o+1) j v h;exact⟨by omega,by rw[h2];congr 1;omega⟩
noncomputable def Oh (P:Program)(look:lA)(t:TypeId)(a:Option SV)(K:Option SV->VC):VC :=
 match P.underlying t with
 | none=>.fail "load: no type"
 | some d =>
   match a with
   | some (.ptr key C o)=>(match look key with
     | some (.cells cs _ _)=>(match fG d with
       | true=>(match sz P t with
         | some n=>(match gP cs o n with
           | some l=>K (A (.agg l))
           | none=>.fail "load: not so many cells")
         | none=>.fail "load: no size")
       | false=>(match cs[o]? with
         | some v=>K (A v)
         | none=>.fail "load: no such cell"))
     | some (.rows G n [c] _ _ _)=>(match fG d with
       | true=>(match sz P t with
         | some m=>.and (.atom (o+m<=n)) (K (A (.agg (gq c o m))))
         | none=>.fail "load: no size")
       | false=>.and (.atom (o<n)) (K (A (c.at o))))
     | _=>.fail "load: no such block")
   | some (.k6 key w i k)=>(match look key with
     | some (.rows _z n ax _ro _tot _ty)=>(if ax.length=w then(match fG d with
       | true=>(match sz P t with
         | some m=>(match kW ax i k m with
           | some l=>.and (.atom (i<n)) (K (A (.agg l)))
           | none=>.fail "load: not so many columns")
         | none=>.fail "load: no size")
       | false=>(match ax[k]? with
         | some c=>.and (.atom (i<n)) (K (A (c.at i)))
         | none=>.fail "load: no such column"))else .fail "load: another row")
     | _=>.fail "load: not a row")
   | some (.iI key w o i k)=>(match look key with
     | some (.view _z o' n ax)=>(if ax.length=w then(match fG d with
       | true=>(match sz P t with
         | some m=>(match kW ax i k m with
           | some l=>.and (.atom (o'=o/\i<n)) (K (A (.agg l)))
           | none=>.fail "load: not so many columns")
         | none=>.fail "load: no size")
       | false=>(match ax[k]? with
         | some c=>.and (.atom (o'=o/\i<n)) (K (A (c.at i)))
         | none=>.fail "load: no such column"))else .fail "load: another row")
     | _=>.fail "load: not a view")
   | some (.oP key base n i)=>(match look key with
     | some (.cells cs _ _)=>(match fG d,gP cs base n with
       | false,A l=>(match uk (TN l) l with
         | some zs=>.and (.atom (i<n)) (K (A (.int (TN l) G (De zs i))))
         | none=>(match nO l with
           | some ss=>.and (.atom (i<n)) (K (A (.str G (bT ss i))))
           | none=>.fail "load: no integers"))
       | _,_=>.fail "load: not so many cells")
     | some (.rows G nb [c] _ _ _)=>(match fG d with
       | false=>.and (.atom (i<n/\base+i<nb)) (K (A (c.at (base+i))))
       | true=>.fail "load: not so many cells")
     | _=>.fail "load: no such block")
   | some (.raw (.pointer (A ⟨g,o,F⟩)))=>(match fG d,FR g qP with
     | false,A cs=>(match Ym cs.toList with
       | some k=>(match wH k cs.toList with
         | some zs=>.and (.atom (o<zs.length)) (K (A (.int k G (De zs o))))
         | none=>.fail "load: what a variable holds")
       | none=>(match o with
         | 0=>(match cs[0]? with
           | some v=>(match SV.L5 v with
             | some x=>K (A x)
             | none=>.fail "load: what a variable holds")
           | none=>.fail "load: no cell")
         | _+1=>.fail "load: a variable's element"))
     | _,_=>.fail "load: a variable that is not listed")
   | some (.fP key a o)=>(match look key with
     | some (.dV D cs _ _ _)=>(match fG d with
       | true=>(match sz P t with
         | some m=>(match kW cs a o m with
           | some l=>.and (.atom (D a=C)) (K (A (.agg l)))
           | none=>.fail "load: not so many columns")
         | none=>.fail "load: no size")
       | false=>(match cs[o]? with
         | some c=>.and (.atom (D a=C)) (K (A (c.at a)))
         | none=>.fail "load: no such column"))
     | _=>.fail "load: no family")
   | some (.nv key w a i k)=>(match look key with
     | some (.dG D n ax _)=>(if(ax.map (b9.at a)).length=w then(match fG d with
       | true=>(match sz P t with
         | some m=>(match kW (ax.map (b9.at a)) i k m with
           | some l=>.and (.atom (D a=C/\i<n a)) (K (A (.agg l)))
           | none=>.fail "load: not so many columns")
         | none=>.fail "load: no size")
       | false=>(match(ax.map (b9.at a))[k]? with
         | some c=>.and (.atom (D a=C/\i<n a)) (K (A (c.at i)))
         | none=>.fail "load: no such column"))else .fail "load: another row")
     | _=>.fail "load: no family")
   | _=>.fail "load: no pointer"
theorem UX {look:lA}(t:TypeId)(x:Operand) :
  aR P look σ (λρ=>I t (ρ x)) (Oh P look t (σ x)):=by
 unfold Oh;cases hd:P.underlying t with
 | none=>exact aR.fail _
 | some d =>
   simp only;split
   ·rename_i key o hx;split
    ·rename_i cs tot ty hk;cases ha:fG d with
     | true =>
       simp only;cases hn:sz P t with
       | none=>exact aR.fail _
       | some n =>
         simp only;cases hl:gP cs o n with
         | none=>exact aR.fail _
         | some l =>
           refine aR.v _ λE w ρ hc hr=> ?_;obtain⟨ob,ho,c,fr,rfl,_,h2,_⟩:=hc.1 key _ hk rfl;have hg:=cN hl;have hll:=run_loadCells (P:=P) ho o (l.map (SV.val E)) (λj v hj=>by
            rw[O] at hj;cases hjl:l[j]? with
            | none=>rw[hjl] at hj;cases hj
            | some u=>rw[hjl] at hj;injection hj with hj;subst hj;exact h2 _ _ (hg.2 j u hjl))
           rw[an,hg.1] at hll;simp[I,hr x _ hx,SV.val,H,loadVar,cI hd,ha,cg hn,hll,SV.bG]
     | false =>
       simp only;cases hv:cs[o]? with
       | none=>exact aR.fail _
       | some v =>refine aR.v _ λE w ρ hc hr=> ?_;obtain⟨ob,ho,c,fr,rfl,_,h2,_⟩:=hc.1 key _ hk rfl;simp[I,hr x _ hx,SV.val,H,loadVar,cI hd,ha,cell_of ho,h2 _ _ hv]
    ·rename_i n col ro tot ty hk;cases ha:fG d with
     | true =>
       simp only;cases hn:sz P t with
       | none=>exact aR.fail _
       | some m =>
         refine aR.atom λhi=>aR.v _ λE w ρ hc hr=> ?_;obtain⟨ob,ho,c,fr,rfl,_,_,_,h2⟩:=hc.1 key _ hk rfl;have hll:=run_loadCells (P:=P) ho o ((gq col o m).map (SV.val E)) (λj v hj=>by
          rw[O] at hj;cases hjl:(gq col o m)[j]? with
          | none=>rw[hjl] at hj;cases hj
          | some u =>rw[hjl] at hj;injection hj with hj;subst hj;obtain⟨g1,g2⟩:=qG col m o j u hjl;subst g2;have:=h2 (o+j) 0 col (by omega) rfl;simpa using this)
         rw[an,mW] at hll;simp[I,hr x _ hx,SV.val,H,loadVar,cI hd,ha,cg hn,hll,SV.bG]
     | false =>refine aR.atom λhi=>aR.v _ λE w ρ hc hr=> ?_;obtain⟨ob,ho,c,fr,rfl,_,_,_,h2⟩:=hc.1 key _ hk rfl;have h3:=h2 o 0 col hi rfl;simp only[d_,eu,ec,cQ,eA] at h3;simp[I,hr x _ hx,SV.val,H,loadVar,cI hd,ha,cell_of ho,h3]
    ·exact aR.fail _
   ·rename_i key w i k hx;split
    ·rename_i z n ax ro tot ty hk;refine aR.ite (λhw=> ?_) (λ_=>aR.fail _);subst hw;cases ha:fG d with
     | true =>
       simp only;cases hn:sz P t with
       | none=>exact aR.fail _
       | some m =>
         simp only;cases hl:kW ax i k m with
         | none=>exact aR.fail _
         | some l =>
           refine aR.atom λhi=>aR.v _ λE w ρ hc hr=> ?_;obtain⟨ob,ho,c,fr,rfl,_,h1,_,h2⟩:=hc.1 key _ hk (SB.iN hi);have hg:=cN hl;have hll:=run_loadCells (P:=P) ho (i*ax.length+k) (l.map (SV.val E)) (λj v hj=>by
            rw[O] at hj;cases hjl:l[j]? with
            | none=>rw[hjl] at hj;cases hj
            | some u =>
              rw[hjl] at hj;injection hj with hj;subst hj;have:=hg.2 j u hjl;rw[O] at this;cases hcl:ax[k+j]? with
              | none=>rw[hcl] at this;cases this
              | some col =>rw[hcl] at this;injection this with this;subst this;rw[W];exact h2 i (k+j) col hi hcl)
           rw[an,hg.1] at hll;simp[I,hr x _ hx,SV.val,H,loadVar,cI hd,ha,cg hn,hll,SV.bG]
     | false =>
       simp only;cases hv:ax[k]? with
       | none=>exact aR.fail _
       | some col =>refine aR.atom λhi=>aR.v _ λE w ρ hc hr=> ?_;obtain⟨ob,ho,c,fr,rfl,_,h1,_,h2⟩:=hc.1 key _ hk (SB.iN hi);simp[I,hr x _ hx,SV.val,H,loadVar,cI hd,ha,cell_of ho,h2 _ _ _ hi hv]
    ·exact aR.fail _
   ·rename_i key w o i k hx;split
    ·rename_i z o' n ax hk;refine aR.ite (λhw=> ?_) (λ_=>aR.fail _);subst hw;cases ha:fG d with
     | true =>
       simp only;cases hn:sz P t with
       | none=>exact aR.fail _
       | some m =>
         simp only;cases hl:kW ax i k m with
         | none=>exact aR.fail _
         | some l =>
           refine aR.atom λhlh=>aR.v _ λE w ρ hc hr=> ?_;obtain⟨rfl,hi⟩:=hlh;obtain⟨ob,ho,c,ty,fr,rfl,h2⟩:=hc.1 key _ hk (SB.Ab hi);have hg:=cN hl;have hll:=run_loadCells (P:=P) ho (o'+i*ax.length+k) (l.map (SV.val E)) (λj v hj=>by
            rw[O] at hj;cases hjl:l[j]? with
            | none=>rw[hjl] at hj;cases hj
            | some u =>
              rw[hjl] at hj;injection hj with hj;subst hj;have:=hg.2 j u hjl;rw[O] at this;cases hcl:ax[k+j]? with
              | none=>rw[hcl] at this;cases this
              | some col =>rw[hcl] at this;injection this with this;subst this;rw[W];exact h2 i (k+j) col hi hcl)
           rw[an,hg.1] at hll;simp[I,hr x _ hx,SV.val,H,loadVar,cI hd,ha,cg hn,hll,SV.bG]
     | false =>
       simp only;cases hv:ax[k]? with
       | none=>exact aR.fail _
       | some col =>refine aR.atom λhlh=>aR.v _ λE w ρ hc hr=> ?_;obtain⟨rfl,hi⟩:=hlh;obtain⟨ob,ho,c,ty,fr,rfl,h2⟩:=hc.1 key _ hk (SB.Ab hi);simp[I,hr x _ hx,SV.val,H,loadVar,cI hd,ha,cell_of ho,h2 _ _ _ hi hv]
    ·exact aR.fail _
   ·rename_i key base n i hx;split
    ·rename_i cs tot ty hk;split
     ·rename_i l ha hl;split
      ·rename_i zs hz;refine aR.atom λhi=>aR.v _ λE w ρ hc hr=> ?_;obtain⟨ob,ho,c,fr,rfl,_,h2,_⟩:=hc.1 key _ hk rfl;have hg:=cN hl;have hzg:=pz hz;have hil:i<l.length:=by rw[hg.1];exact hi
       obtain⟨b,hb⟩:=hzg.2 i l[i] (V hil);have:=h2 _ _ (hg.2 i l[i] (V hil));rw[hb] at this;simp[I,hr x _ hx,SV.val,H,loadVar,cI hd,ha,cell_of ho,this]
      ·split
       ·rename_i ss hz;refine aR.atom λhi=>aR.v _ λE w ρ hc hr=> ?_;obtain⟨ob,ho,c,fr,rfl,_,h2,_⟩:=hc.1 key _ hk rfl;have hg:=cN hl;have hil:i<l.length:=by rw[hg.1];exact hi
        obtain⟨b,hb⟩:=mM hz i l[i] (V hil);have:=h2 _ _ (hg.2 i l[i] (V hil));rw[hb] at this;simp[I,hr x _ hx,SV.val,H,loadVar,cI hd,ha,cell_of ho,this]
       ·exact aR.fail _
     ·exact aR.fail _
    ·rename_i nb col ro tot ty hk;split
     ·rename_i ha;refine aR.atom λhi=>aR.v _ λE w ρ hc hr=> ?_;obtain⟨ob,ho,c,fr,rfl,_,_,_,h2⟩:=hc.1 key _ hk rfl;have h3:=h2 (base+i) 0 col hi.2 rfl;simp only[d_,eu,ec,cQ,eA] at h3;simp[I,hr x _ hx,SV.val,H,loadVar,cI hd,ha,cell_of ho,h3]
     ·exact aR.fail _
    ·exact aR.fail _
   ·rename_i g o hx;split
    ·rename_i cs ha hcs;split
     ·rename_i k hk;split
      ·rename_i zs hz;refine aR.atom λho=>aR.v _ λE w ρ hc hr=> ?_;obtain⟨c,ty,fr,hg,hgc⟩:=hc.2.1 _ (ue hcs);have hv:=(zA hz).2 o ho;rw[Array.getElem?_toList] at hv;have hv:=hgc _ _ hv;simp[I,hr x _ hx,SV.val,H,loadVar,cI hd,ha,cell_of hg,hv]
      ·exact aR.fail _
     ·split
      ·split
       ·rename_i v hv;split
        ·rename_i y hy;refine aR.v _ λE w ρ hc hr=> ?_;obtain⟨c,ty,fr,hg,hgc⟩:=hc.2.1 _ (ue hcs);simp[I,hr x _ hx,SV.val,H,loadVar,cI hd,ha,cell_of hg,hgc _ _ hv,SV.L6 hy]
        ·exact aR.fail _
       ·exact aR.fail _
      ·exact aR.fail _
    ·exact aR.fail _
   ·rename_i key a o hx;split
    ·rename_i D cs tot ty ro hk;cases ha:fG d with
     | true =>
       simp only;cases hn:sz P t with
       | none=>exact aR.fail _
       | some m =>
         simp only;cases hl:kW cs a o m with
         | none=>exact aR.fail _
         | some l =>
           refine aR.atom λhD=>aR.v _ λE w ρ hc hr=> ?_;obtain⟨ob,ho,c,fr,rfl,_,h2,_⟩:=hc.2.2 key _ a hk hD;have hg:=cN hl;have hll:=run_loadCells (P:=P) ho o (l.map (SV.val E)) (λj v hj=>by
            rw[O] at hj;cases hjl:l[j]? with
            | none=>rw[hjl] at hj;cases hj
            | some u=>rw[hjl] at hj;injection hj with hj;subst hj;exact h2 _ _ (hg.2 j u hjl))
           rw[an,hg.1] at hll;simp[I,hr x _ hx,SV.val,H,loadVar,cI hd,ha,cg hn,hll,SV.bG]
     | false =>
       simp only;cases hv:cs[o]? with
       | none=>exact aR.fail _
       | some col =>refine aR.atom λhD=>aR.v _ λE w ρ hc hr=> ?_;obtain⟨ob,ho,c,fr,rfl,_,h2,_⟩:=hc.2.2 key _ a hk hD;simp[I,hr x _ hx,SV.val,H,loadVar,cI hd,ha,cell_of ho,h2 o (col.at a) (by rw[O,hv];rfl)]
    ·exact aR.fail _
   ·rename_i key w a i k hx;split
    ·rename_i D n ax ro hk;have hel:SB.el (.dG D n ax ro) a=.view G 0 (n a) (ax.map (b9.at a)):=rfl;generalize ax.map (b9.at a)=cl at hel ⊢;refine aR.ite (λhw=> ?_) (λ_=>aR.fail _);subst hw;cases ha:fG d with
     | true =>
       simp only;cases hn:sz P t with
       | none=>exact aR.fail _
       | some m =>
         simp only;cases hl:kW cl i k m with
         | none=>exact aR.fail _
         | some l =>
           refine aR.atom λhD=>aR.v _ λE w ρ hc hr=> ?_;obtain⟨ob,ho,hb⟩:=hc.2.2 key _ a hk hD.1;rw[hel] at hb;obtain⟨c,ty,fr,rfl,h2⟩:=hb;have hg:=cN hl;have hll:=run_loadCells (P:=P) ho (i*cl.length+k) (l.map (SV.val E)) (λj v hj=>by
            rw[O] at hj;cases hjl:l[j]? with
            | none=>rw[hjl] at hj;cases hj
            | some u =>
              rw[hjl] at hj;injection hj with hj;subst hj;have:=hg.2 j u hjl;rw[O] at this;cases hcl:cl[k+j]? with
              | none=>rw[hcl] at this;cases this
              | some col =>rw[hcl] at this;injection this with this;subst this;have:=h2 i (k+j) col hD.2 hcl;rw[W,← this];congr 1;omega)
           rw[an,hg.1] at hll;simp[I,hr x _ hx,SV.val,H,loadVar,cI hd,ha,cg hn,hll,SV.bG]
     | false =>
       simp only;cases hv:cl[k]? with
       | none=>exact aR.fail _
       | some col =>refine aR.atom λhD=>aR.v _ λE w ρ hc hr=> ?_;obtain⟨ob,ho,hb⟩:=hc.2.2 key _ a hk hD.1;rw[hel] at hb;obtain⟨c,ty,fr,rfl,h2⟩:=hb;have:=h2 i k col hD.2 hv;rw[ec] at this;simp[I,hr x _ hx,SV.val,H,loadVar,cI hd,ha,cell_of ho,this]
    ·exact aR.fail _
   ·exact aR.fail _
def abf (f:Field)(P:Program):Option Nat:=match sz P f.type with
 | some (_n+1)=>A f.offset
 | _=>F
def uD (P:Program)(s:TypeId)(x:Option SV)(f:Nat)(K:Option SV->VC):VC :=
 match P.underlying s with
 | some (.struct fs)=>(match fs[f]? with
   | some fd=>(match abf fd P with
     | some o=>(match x with
       | some (.ptr key ol a)=>K (A (.ptr key ol (a+o)))
       | some (.k6 key w i k)=>K (A (.k6 key w i (k+o)))
       | some (.iI key w b i k)=>K (A (.iI key w b i (k+o)))
       | some (.fP key b i)=>K (A (.fP key b (i+o)))
       | some (.nv key w b i k)=>K (A (.nv key w b i (k+o)))
       | _=>.fail "fieldAddr: no pointer")
     | none=>.fail "fieldAddr: a field without cells")
   | none=>.fail "fieldAddr: no such field")
 | _=>.fail "fieldAddr: no struct"
theorem C8 {look:lA}(s:TypeId)(x:Operand)(f:Nat) :
  aR P look σ (λρ=>X s (ρ x) f) (uD P s (σ x) f):=by
 unfold uD;split
 ·rename_i fs hd;split
  ·rename_i fd hf;cases ho:abf fd P with
   | none=>exact aR.fail _
   | some o =>
     have hsz: ∃ n,sz P fd.type=A (n+1)/\fd.offset=o:=by
      unfold abf at ho;split at ho
      ·rename_i n hn;injection ho with ho;exact⟨n,hn,ho⟩
      ·cases ho
     obtain⟨n,hn,rfl⟩:=hsz;simp only;split
     ·rename_i key ol a hx;refine aR.v _ λE w ρ hc hr=> ?_;simp[X,hr x _ hx,SV.val,H,aE hd,hf,fieldPlace,cg hn,cP]
     ·rename_i key w i k hx;refine aR.v _ λE w ρ hc hr=> ?_;simp[X,hr x _ hx,SV.val,H,aE hd,hf,fieldPlace,cg hn,cP,W]
     ·rename_i key w b i k hx;refine aR.v _ λE w ρ hc hr=> ?_;simp[X,hr x _ hx,SV.val,H,aE hd,hf,fieldPlace,cg hn,cP,W]
     ·rename_i key b i hx;refine aR.v _ λE w ρ hc hr=> ?_;simp[X,hr x _ hx,SV.val,H,aE hd,hf,fieldPlace,cg hn,cP]
     ·rename_i key w b i k hx;refine aR.v _ λE w ρ hc hr=> ?_;simp[X,hr x _ hx,SV.val,H,aE hd,hf,fieldPlace,cg hn,cP,W]
     ·exact aR.fail _
  ·exact aR.fail _
 ·exact aR.fail _
def places (i:Int)(t:Nat->VC):Nat->VC
 | 0=>.tt
 | n+1=>.and (places i t n) (.imp (i=n) (t n))
theorem BZ {i:Int}{t:Nat->VC}: ∀ {n:Nat},0<=i->i<n->((places i t n).holds↔(t i.toNat).holds)
 | 0,h,h'=>by omega
 | n+1,h,h'=>by
   simp only[places,VC.holds];by_cases e:i=n
   ·subst e;simp only[Int.toNat_natCast];constructor
    ·intro x;exact x.2 trivial
    ·intro x;refine⟨?_,λ_=>x⟩;have: ∀ m,m<=n->(places (n:Int) t m).holds:=by
      intro m;induction m with
      | zero=>intro _;exact trivial
      | succ m ih=>intro hm;exact⟨ih (by omega),λe=>by omega⟩
     exact this n (Nat.le_refl _)
   ·have:=BZ (i:=i) (t:=t) (n:=n) h (by omega);rw[this];exact⟨λx=>x.1,λx=>⟨x,λe'=>absurd e' e⟩⟩
def s9 (l:Bool)(i:Int)(n:Nat)(t:Nat->VC):VC :=
 match l with
 | true=>if 0<=i/\i<n then t i.toNat else .fail "index out of range"
 | false=>.and (.atom (0<=i/\i<n)) (places i t n)
theorem aR.index {look:lA}{i:Int}{n:Nat}{t:Nat->QT}
  (h:0<=i->i<n->aR P look σ s (t i.toNat)):aR P look σ s (λK=>s9 l i n (λj=>t j K)):=by
 unfold s9;cases l with
 | true=>exact aR.ite (λhc=>h hc.1 hc.2) (λ_=>aR.fail _)
 | false =>refine aR.atom λhc=> ?_;obtain⟨obl,sv,h1,h2⟩:=h hc.1 hc.2;exact⟨obl,sv,λK=>by rw[BZ hc.1 hc.2];exact h1 K,h2⟩
def uE (P:Program)(t:TypeId)(x i:Option SV)(K:Option SV->VC):VC :=
 match P.underlying t,i with
 | some (.array len elem),A (.int _ l n)=>(match sz P elem,x with
   | some m,A (.ptr key C o)=>(match l|| !Nat.beq m 1 with
     | true=>s9 l n len (λj=>K (A (.ptr key C (o+j*m))))
     | false=>.and (.atom (0<=n/\n<len)) (K (A (.oP key o len n.toNat))))
   | some 1,A (.raw (.pointer (A ⟨g,0,F⟩)))=>.and (.atom (0<=n/\n<len)) (K (A (.raw (.pointer (A ⟨g,n.toNat,F⟩)))))
   | _,_=>.fail "indexAddr: array")
 | some (.slice elem),A (.int _ l n)=>(match sz P elem,x with
   | some m,A (.slc key o len _ _)=>(match l|| !Nat.beq m 1||Nat.blt len 16 with
     | true=>s9 l n len (λj=>K (A (.ptr key C (o+j*m))))
     | false=>.and (.atom (0<=n/\n<len)) (K (A (.oP key o len n.toNat))))
   | some m,A (.bx key w _z i0 len _)=>if m=w then .and (.atom (0<=n/\n<len)) (K (A (.k6 key w (i0+n.toNat) 0)))else .fail "indexAddr: another row"
   | some m,A (.bH key w _z b i0 len _)=>if m=w then .and (.atom (0<=n/\n<len)) (K (A (.iI key w b (i0+n.toNat) 0)))else .fail "indexAddr: another row"
   | some m,A (.b7 key w _z b i0 len _)=>if m=w then .and (.atom (0<=n/\n<len)) (K (A (.nv key w b (i0+n.toNat) 0)))else .fail "indexAddr: another row"
   | _,_=>.fail "indexAddr: slice")
 | _,_=>.fail "indexAddr"
theorem C9 {look:lA}(t:TypeId)(x i:Operand) :
  aR P look σ (λρ=>Q t (ρ x) (ρ i)) (uE P t (σ x) (σ i)):=by
 unfold uE;split
 ·rename_i len elem k l n hd hi;split
  ·rename_i m key o hm hx;split
   ·refine aR.index λh0 h1=>aR.v _ λE w ρ hc hr=> ?_;simp[Q,hr x _ hx,hr i _ hi,SV.val,asIntOf,H,aE hd,cg hm,h0,h1,cP]
   ·rename_i hcond;have hm1:m=1:=by simp at hcond;exact hcond.2
    refine aR.atom λh0=>aR.v _ λE w ρ hc hr=> ?_;simp[Q,hr x _ hx,hr i _ hi,SV.val,asIntOf,H,aE hd,cg hm,h0.1,h0.2,cP,hm1]
  ·rename_i g hm hx;refine aR.atom λh0=>aR.v _ λE w ρ hc hr=> ?_;simp[Q,hr x _ hx,hr i _ hi,SV.val,asIntOf,H,aE hd,cg hm,h0.1,h0.2,cP]
  ·exact aR.fail _
 ·rename_i elem k l n hd hi;split
  ·rename_i m key o len cl c hm hx;split
   ·refine aR.index λh0 h1=>aR.v _ λE w ρ hc hr=> ?_;simp[Q,hr x _ hx,hr i _ hi,SV.val,asIntOf,aE hd,cg hm,h0,h1,cP]
   ·rename_i hcond;have hm1:m=1:=by simp at hcond;exact hcond.1.2
    refine aR.atom λh0=>aR.v _ λE w ρ hc hr=> ?_;simp[Q,hr x _ hx,hr i _ hi,SV.val,asIntOf,aE hd,cg hm,h0.1,h0.2,cP,hm1]
  ·rename_i m key w z i0 len c hm hx;refine aR.ite (λe=> ?_) (λ_=>aR.fail _);subst e;refine aR.atom λh0=>aR.v _ λE w ρ hc hr=> ?_
   have hne:R len 0=false:=by cases len with
    | zero=>omega
    | succ n=>rfl
   simp[Q,hr x _ hx,hr i _ hi,SV.val,asIntOf,aE hd,cg hm,h0.1,h0.2,cP,d!,hne]
  ·rename_i m key w z b i0 len c hm hx;refine aR.ite (λe=> ?_) (λ_=>aR.fail _);subst e;refine aR.atom λh0=>aR.v _ λE w ρ hc hr=> ?_
   have hne:R len 0=false:=by cases len with
    | zero=>omega
    | succ n=>rfl
   simp[Q,hr x _ hx,hr i _ hi,SV.val,asIntOf,aE hd,cg hm,h0.1,h0.2,cP,d!,hne,W]
  ·rename_i m key w z b i0 len c hm hx;refine aR.ite (λe=> ?_) (λ_=>aR.fail _);subst e;refine aR.atom λh0=>aR.v _ λE w ρ hc hr=> ?_
   have hne:R len 0=false:=by cases len with
    | zero=>omega
    | succ n=>rfl
   simp[Q,hr x _ hx,hr i _ hi,SV.val,asIntOf,aE hd,cg hm,h0.1,h0.2,cP,d!,hne]
  ·exact aR.fail _
 ·exact aR.fail _
section
variable {P : Program} {look : lA} {σ : Operand -> Option SV}
def ru (k:IntKind)(l:Bool)(n:Int)(K:Option SV->VC):VC :=
 match l with
 | true=>K (A (.int k C (k.wrap n)))
 | false=>match k.signed with
   | true=>.and (.atom (lo k<=n/\n<=hi k)) (K (A (.int k G n)))
   | false=>K (A (.int k G (n% md k)))
theorem lW {k:IntKind}
  (h: ∀ E w ρ,Compat E look w->Reads E σ ρ->(s ρ).run P w=.ok (.int k (k.wrap n)) w):aR P look σ s (ru k l n):=by
 unfold ru;cases l with
 | true=>exact aR.v _ λE w ρ hc hr=>h E w ρ hc hr
 | false =>
   simp only;cases hs:k.signed with
   | true=>exact aR.atom λhb=>aR.v _ λE w ρ hc hr=>by rw[h E w ρ hc hr,tc hb];rfl
   | false=>exact aR.v _ λE w ρ hc hr=>by rw[h E w ρ hc hr,YP hs];rfl
def XX (rem:Bool)(k:IntKind)(l:Bool)(a:Int)(l':Bool)(b:Int)(K:Option SV->VC):VC :=
 match l&&l' with
 | true=>if b=0 then .fail "division by zero" else(match rem with
   | true=>K (A (.int k C (a.tmod b)))
   | false=>K (A (.int k C (k.wrap (a.tdiv b)))))
 | false=>.and (.atom (0<=a/\a<=hi k/\0<b)) (match rem with
   | true=>K (A (.int k G (a% b)))
   | false=>K (A (.int k G (a / b))))
theorem Eb (k:IntKind):lo k<=0:=by cases k<;>simp[lo]
theorem Oe {rem:Bool}{k:IntKind}{a:Int}
  (h: ∀ E w ρ,Compat E look w->Reads E σ ρ->(s ρ).run P w=(Z (if rem then .rem else .quo) k a b).run P w):aR P look σ s (XX rem k l a l' b):=by
 unfold XX;cases (l&&l')with
 | true =>
   refine aR.ite (λ_=>aR.fail _) λhb=> ?_;cases rem with
   | true=>exact aR.v _ λE w ρ hc hr=>by rw[h E w ρ hc hr];simp[Z,hb,SV.val]
   | false=>exact aR.v _ λE w ρ hc hr=>by rw[h E w ρ hc hr];simp[Z,hb,SV.val]
 | false =>
   refine aR.atom fun⟨h0,h1,h2⟩=> ?_;have hb:b≠0:=by omega
   cases rem with
   | true=>exact aR.v _ λE w ρ hc hr=>by rw[h E w ρ hc hr];simp[Z,hb,SV.val,Int.tmod_eq_emod_of_nonneg h0]
   | false =>
     refine aR.v _ λE w ρ hc hr=> ?_;have e:k.wrap (a.tdiv b)=a / b:=by rw[Int.tdiv_eq_ediv_of_nonneg h0];have:a / b<=a:=Int.ediv_le_self b h0;have:0<=a / b:=Int.ediv_nonneg h0 (by omega);exact tc ⟨by have:=Eb k;omega,by omega⟩
     rw[h E w ρ hc hr];simp[Z,hb,SV.val,e]
def GF (left:Bool)(k:IntKind)(l:Bool)(a:Int)(l':Bool)(b:Int)(K:Option SV->VC):VC :=
 match l' with
 | true=>if b<0 then .fail "negative shift" else(match left with
   | true=>ru k l (a*(2^ (min b.toNat k.bits):Nat)) K
   | false=>K (A (.int k l (a / (2^ (min b.toNat k.bits):Nat)))))
 | false=>.fail "shift by a number that is not known"
theorem EB {left:Bool}{k yk:IntKind}{a:Int}
  (h: ∀ E w ρ,Compat E look w->Reads E σ ρ->(s ρ).run P w=(c! (if left then .shl else .shr) k a yk b).run P w):aR P look σ s (GF left k l a l' b):=by
 unfold GF;cases l' with
 | false=>exact aR.fail _
 | true =>
   refine aR.ite (λ_=>aR.fail _) λhb=> ?_;cases left with
   | true=>exact lW λE w ρ hc hr=>by rw[h E w ρ hc hr];simp[c!,hb]
   | false =>refine aR.v _ λE w ρ hc hr=> ?_;rw[h E w ρ hc hr];simp only[c!,hb,if_false,a_,S,SV.val];rw[Int.fdiv_eq_ediv_of_nonneg _ (Int.pow_nonneg (by decide))];simp
def bitsOf (op:BinOp)(a b:Int):Int :=
 match op with
 | .and=>Int.ofNat (a.toNat &&& b.toNat)
 | .or=>Int.ofNat (a.toNat ||| b.toNat)
 | _=>Int.ofNat (a.toNat ^^^ b.toNat)
def EA (op:BinOp)(k:IntKind)(l:Bool)(a b:Int)(K:Option SV->VC):VC :=
 match l with
 | true=>if 0<=a/\a<=hi k/\0<=b/\b<=hi k then K (A (.int k C (bitsOf op a b)))else .fail "bits: below zero"
 | false=>.and (.atom (0<=a/\a<=hi k/\0<=b/\b<=hi k)) (K (A (.int k G (bitsOf op a b))))
theorem hi_lt (k:IntKind):hi k<2^ k.bits:=by cases k<;>decide
theorem toNat_ofInt {w:Nat}{a:Int}(h0:0<=a)(h1:a<2^ w):(BitVec.ofInt w a).toNat=a.toNat:=by rw[BitVec.toNat_ofInt];congr 1;exact Int.emod_eq_of_lt h0 (by exact_mod_cast h1)
theorem Hp (hop:op=.and∨op=.or∨op=.xor){k:IntKind}{a:Int}(h:0<=a/\a<=hi k/\0<=b/\b<=hi k)(w:World) :
  (Y op k a b).run P w=.ok (.int k (bitsOf op a b)) w:=by
 obtain⟨a0,a1,b0,b1⟩:=h;have hk:=hi_lt k;have ea:=toNat_ofInt (w:=k.bits) a0 (by omega);have eb:=toNat_ofInt (w:=k.bits) b0 (by omega)
 have la:a.toNat<2^ k.bits:=by have:(a.toNat:Int)<((2^ k.bits:Nat):Int):=by rw[Int.toNat_of_nonneg a0];push_cast;omega
                               exact_mod_cast this
 have lb:b.toNat<2^ k.bits:=by have:(b.toNat:Int)<((2^ k.bits:Nat):Int):=by rw[Int.toNat_of_nonneg b0];push_cast;omega
                               exact_mod_cast this
 have hh:(hi k).toNat+1=2^ k.bits∨(hi k).toNat+1=2^ (k.bits - 1):=by cases k<;>simp[hi,c4]
 have key: ∀ n:Nat,n<=(hi k).toNat->k.wrap (n:Int)=n:=λn hn=>tc ⟨by have:=Eb k;omega,by
  have:0<=hi k:=by cases k<;>simp[hi]
  omega⟩
 have ba:a.toNat<=(hi k).toNat:=by omega
 have bb:b.toNat<=(hi k).toNat:=by omega
 have hand:a.toNat &&& b.toNat<=(hi k).toNat:=Nat.le_trans Nat.and_le_left ba;have two: ∃ m,(hi k).toNat+1=2^ m:=by rcases hh with h | h<;>exact⟨_,h⟩
 obtain⟨m,hm⟩:=two;have hor:a.toNat ||| b.toNat<=(hi k).toNat:=by have:=Nat.or_lt_two_pow (x:=a.toNat) (y:=b.toNat) (n:=m) (by omega) (by omega);omega
 have hxor:a.toNat ^^^ b.toNat<=(hi k).toNat:=by have:=Nat.xor_lt_two_pow (x:=a.toNat) (y:=b.toNat) (n:=m) (by omega) (by omega);omega
 rcases hop with rfl | rfl | rfl
 ·simp only[Y,bitsOf,S,BitVec.toNat_and,ea,eb];rw[key _ hand];rfl
 ·simp only[Y,bitsOf,S,BitVec.toNat_or,ea,eb];rw[key _ hor];rfl
 ·simp only[Y,bitsOf,S,BitVec.toNat_xor,ea,eb];rw[key _ hxor];rfl
theorem vR (hop:op=.and∨op=.or∨op=.xor){k:IntKind}{a:Int}
  (h: ∀ E w ρ,Compat E look w->Reads E σ ρ->(s ρ).run P w=(Y op k a b).run P w):aR P look σ s (EA op k l a b):=by
 unfold EA;cases l with
 | true=>exact aR.ite (λhb=>aR.v _ λE w ρ hc hr=>by rw[h E w ρ hc hr,Hp hop hb];rfl) (λ_=>aR.fail _)
 | false=>exact aR.atom λhb=>aR.v _ λE w ρ hc hr=>by rw[h E w ρ hc hr,Hp hop hb];rfl
def abm (op:BinOp)(k:IntKind)(l:Bool)(a:Int)(l':Bool)(b:Int)(K:Option SV->VC):VC :=
 match op with
 | .add=>ru k (l&&l') (a+b) K
 | .sub=>ru k (l&&l') (a - b) K
 | .mul=>ru k (l&&l') (a*b) K
 | .quo=>XX G k l a l' b K
 | .rem=>XX C k l a l' b K
 | .and=>EA .and k (l&&l') a b K
 | .or=>EA .or k (l&&l') a b K
 | .xor=>EA .xor k (l&&l') a b K
 | .eql=>K (A (.bool (l&&l') (N (a=b))))
 | .neq=>K (A (.bool (l&&l') (!decide (a=b))))
 | .lss=>K (A (.bool (l&&l') (N (a<b))))
 | .leq=>K (A (.bool (l&&l') (N (a<=b))))
 | .gtr=>K (A (.bool (l&&l') (N (b<a))))
 | .geq=>K (A (.bool (l&&l') (N (b<=a))))
 | _=>.fail "binOp: integers"
def Um:Int:=9223372036854775807
def cat (a b:List UInt8):List UInt8:=a++b
def abp (op:BinOp)(l:Bool)(a b:List UInt8)(K:Option SV->VC):VC :=
 match op with
 | .add=>match l with
   | true=>if(a.length:Int)+b.length<=Um then K (A (.str C (a++b)))else .fail "a text that is too long"
   | false=>.and (.atom ((a.length:Int)+b.length<=9223372036854775807)) (K (A (.str G (cat a b))))
 | .eql=>K (A (.bool l (N (a=b))))
 | .neq=>K (A (.bool l (!decide (a=b))))
 | .lss=>K (A (.bool l (c5 a b)))
 | .leq=>K (A (.bool l (c5 a b||decide (a=b))))
 | .gtr=>K (A (.bool l (!(c5 a b||decide (a=b)))))
 | .geq=>K (A (.bool l (!Op.bytesLess a b)))
 | _=>.fail "binOp: texts"
theorem Fo (a b:List UInt8):(T a.toArray)++(T b.toArray)=T (a++b).toArray:=by apply eC;rw[eB];simp
theorem imax:IntKind.i64.max=9223372036854775807:=by decide
theorem X3 {a b:List UInt8}
  (h: ∀ E w ρ,Compat E look w->Reads E σ ρ->(s ρ).run P w=(cy op ⟨a.toArray⟩ ⟨b.toArray⟩).run P w):aR P look σ s (abp op l a b):=by
 have he:(a==b)=N (a=b):=by by_cases e:a=b<;>simp[e]
 have sa:(T a.toArray).size=a.length:=by simp[cR]
 have sb:(T b.toArray).size=b.length:=by simp[cR]
 unfold abp;cases op
 case add =>
  have go:(a.length:Int)+b.length<=9223372036854775807->∀ w,(cy .add ⟨a.toArray⟩ ⟨b.toArray⟩).run P w=.ok (.string ⟨(a++b).toArray⟩) w:=λhb w=>by simp only[cy,sa,sb,imax,Fo];rw[if_neg (by omega)];rfl
  cases l with
  | true=>exact aR.ite (λhb=>aR.v _ λE w ρ hc hr=>by rw[h E w ρ hc hr,go hb];rfl) (λ_=>aR.fail _)
  | false=>exact aR.atom λhb=>aR.v _ λE w ρ hc hr=>by rw[h E w ρ hc hr,go hb];rfl
 all_goals first
  | exact aR.fail _
  | (refine aR.v _ λE w ρ hc hr=> ?_;rw[h E w ρ hc hr];simp[cy,SV.val,he])
end
def nq (x:Bool×Bool)(y:Option (Bool×Bool)):Option (Bool×Bool) :=
 match x with
 | (C,G)=>A (C,G)
 | (l,b)=>match y with
   | some (l',b')=>A (l&&l',b&&b')
   | none=>F
def partOf (P:Program)(t:TypeId)(cs:List SV)(off:Nat):Option SV :=
 match P.underlying t with
 | none=>F
 | some d=>match fG d with
   | true=>match sz P t with
     | some n=>match gP cs off n with
       | some l=>A (.agg l)
       | none=>F
     | none=>F
   | false=>cs[off]?
theorem gV {cs:List SV}{off:Nat}{v:SV}(h:partOf P t cs off=A v) :
  (part t (SV.vals E cs).toArray off).run P w=.ok (v.val E) w:=by
 unfold partOf at h;split at h
 ·cases h
 ·rename_i d hd;split at h
  ·rename_i ha;split at h
   ·rename_i n hn;split at h
    ·rename_i l hl;injection h with h;subst h;have hg:=cN hl;simp only[part,J,cI hd,ha,L,if_true,cg hn,S,SV.val,SV.bG];congr 2;apply Array.ext';simp only[Array.toList_extract,List.toList_toArray,List.extract_eq_take_drop];rw[show off+n - off=n by omega,List.map_drop.symm,List.map_take.symm];congr 1;apply List.ext_getElem?;intro j;rw[List.getElem?_take];split
     ·rename_i hj;rw[List.getElem?_drop];obtain⟨u,hu⟩: ∃ u,l[j]?=A u:=⟨l[j]'(by omega),V _⟩
      rw[hu,hg.2 j u hu]
     ·rw[List.getElem?_eq_none (by omega)]
    ·cases h
   ·cases h
  ·rename_i ha;simp only[part,J,cI hd,ha,L,SV.bG];simp[h]
def eqv (P:Program):Nat->TypeId->SV->SV->Option (Bool×Bool)
 | 0,_,_,_=>F
 | d+1,t,x,y =>
   match P.underlying t,x,y with
   | some .bool,.bool l a,.bool l' b=>A (l&&l',a==b)
   | some (.int _),.int k l a,.int k' l' b=>if k=k' then A (l&&l',N (a=b))else F
   | some .string,.str l a,.str l' b=>A (l&&l',N (a=b))
   | some (.pointer _),.bW,.bW=>A (C,C)
   | some (.pointer _),.bW,.ptr .. =>A (C,G)
   | some (.pointer _),.ptr ..,.bW=>A (C,G)
   | some (.pointer _),.bW,.k6 .. =>A (C,G)
   | some (.pointer _),.k6 ..,.bW=>A (C,G)
   | some (.pointer e),.ptr key ol o,.ptr key' ol' o'=>match sz P e with
     | some (_+1)=>if key=key' then A (ol&&ol',N (o=o'))else F
     | _=>F
   | some (.interface _),.ay,.ay=>A (C,C)
   | some (.interface _),.ay,.iface .. =>A (C,G)
   | some (.interface _),.iface ..,.ay=>A (C,G)
   | some (.interface _),.iface tx vx,.iface ty vy=>if tx=ty then(match P.info? tx with
      | some i=>if i.comparable then eqv P d tx vx vy else F
      | none=>F)else A (C,G)
   | some (.slice _),.aP,.aP=>A (C,C)
   | some (.slice _),.aP,.slc .. =>A (C,G)
   | some (.slice _),.slc ..,.aP=>A (C,G)
   | some (.slice _),.aP,.bx _ _ z _ n _=>A (!z,z&&R n 0)
   | some (.slice _),.bx _ _ z _ n _,.aP=>A (!z,z&&R n 0)
   | some (.map _ _),.fI,.fI=>A (C,C)
   | some (.map _ _),.map _,.fI=>A (C,G)
   | some (.func _ _ _),.fE,.fE=>A (C,C)
   | some (.func _ _ _),.fE,.func .. =>A (C,G)
   | some (.func _ _ _),.func ..,.fE=>A (C,G)
   | some (.struct fs),.agg xs,.agg ys=>if P.stoodInHeld t then F else
      fs.toList.foldr (λf acc=>if f.name= "_" then acc else match partOf P f.type xs f.offset,partOf P f.type ys f.offset with
       | some u,A v=>match eqv P d f.type u v with
         | some r=>nq r acc
         | none=>F
       | _,_=>F) (A (C,C))
   | some (.array len elem),.agg xs,.agg ys=>match sz P elem with
     | some n=>(ez len).foldr (λi acc=>match partOf P elem xs (i*n),partOf P elem ys (i*n)with
        | some u,A v=>match eqv P d elem u v with
          | some r=>nq r acc
          | none=>F
        | _,_=>F) (A (C,C))
     | none=>F
   | some (.pointer _),.bW,.iI .. =>A (C,G)
   | some (.pointer _),.iI ..,.bW=>A (C,G)
   | some (.slice _),.aP,.bH _ _ z _ _ n _=>A (G,z&&R n 0)
   | some (.slice _),.bH _ _ z _ _ n _,.aP=>A (G,z&&R n 0)
   | some (.pointer _),.bW,.fP .. =>A (C,G)
   | some (.pointer _),.fP ..,.bW=>A (C,G)
   | _,_,_=>F
theorem FD {d d':Nat}{xs ys:List SV}
  (ih: ∀ t x y l b,eqv P d t x y=A (l,b)->(M d' t (x.val E) (y.val E)).run P w=.ok b w/\(l=C->True)) :
  ∀(fs:List Field) (l b:Bool),fs.foldr (λf acc=>if f.name= "_" then acc else match partOf P f.type xs f.offset,partOf P f.type ys f.offset with
      | some u,A v=>match eqv P d f.type u v with
        | some r=>nq r acc
        | none=>F
      | _,_=>F) (A (C,C))=A (l,b) ->
   (b! d' (SV.vals E xs).toArray (SV.vals E ys).toArray fs).run P w=.ok b w:=by
 intro fs;induction fs with
 | nil=>intro l b h;simp at h;obtain⟨rfl,rfl⟩:=h;simp[b!]
 | cons f r ihl =>
   intro l b h;simp only[er] at h;by_cases hn:f.name= "_"
   ·rw[if_pos hn] at h;simp only[b!];rw[if_neg (by simp[hn])];exact ihl l b h
   ·rw[if_neg hn] at h;simp only[b!];rw[if_pos hn];split at h
    ·rename_i u v hu hv;split at h
     ·rename_i q hq;obtain⟨ql,qb⟩:=q;have hr:=(ih _ _ _ _ _ hq).1;simp only[J,gV hu,gV hv,L,hr,ep];cases qb with
      | false =>
        simp only[ef,if_true,S];unfold nq at h;split at h
        ·injection h with h;injection h with _ h;rw[h]
        ·rename_i l0 b0 _ heq;injection heq with e1 e2;subst e1;subst e2;split at h
         ·injection h with h;injection h with _ h;simp at h;rw[h]
         ·cases h
      | true =>
        simp only[bD,a_,if_false];unfold nq at h;split at h
        ·rename_i heq;cases heq
        ·rename_i l0 b0 _ heq;injection heq with e1 e2;subst e1;subst e2;split at h
         ·rename_i l' b' hacc;injection h with h;injection h with _ h;simp at h;subst h;exact ihl _ _ hacc
         ·cases h
     ·cases h
    ·cases h
theorem HO {d d' n:Nat}{xs ys:List SV}
  (ih: ∀ t x y l b,eqv P d t x y=A (l,b)->(M d' t (x.val E) (y.val E)).run P w=.ok b w) :
  ∀(fs:List Nat) (l b:Bool),fs.foldr (λi acc=>match partOf P t xs (i*n),partOf P t ys (i*n)with
      | some u,A v=>match eqv P d t u v with
        | some r=>nq r acc
        | none=>F
      | _,_=>F) (A (C,C))=A (l,b) ->
   (c_ d' t n (SV.vals E xs).toArray (SV.vals E ys).toArray fs).run P w=.ok b w:=by
 intro fs;induction fs with
 | nil=>intro l b h;simp at h;obtain⟨rfl,rfl⟩:=h;simp[c_]
 | cons f r ihl =>
   intro l b h;simp only[er] at h;simp only[c_];split at h
   ·rename_i u v hu hv;split at h
    ·rename_i q hq;obtain⟨ql,qb⟩:=q;have hr:=ih _ _ _ _ _ hq;simp only[J,gV hu,gV hv,L,hr,ep];cases qb with
     | false =>
       simp only[ef,if_true,S];unfold nq at h;split at h
       ·injection h with h;injection h with _ h;rw[h]
       ·rename_i l0 b0 _ heq;injection heq with e1 e2;subst e1;subst e2;split at h
        ·injection h with h;injection h with _ h;simp at h;rw[h]
        ·cases h
     | true =>
       simp only[bD,a_,if_false];unfold nq at h;split at h
       ·rename_i heq;cases heq
       ·rename_i l0 b0 _ heq;injection heq with e1 e2;subst e1;subst e2;split at h
        ·rename_i l' b' hacc;injection h with h;injection h with _ h;simp at h;subst h;exact ihl _ _ hacc
        ·cases h
    ·cases h
   ·cases h
set_option maxHeartbeats 2000000 in
theorem NA : ∀(d:Nat) (t:TypeId) (x y:SV) (l b:Bool),eqv P d t x y=A (l,b)->∀ e,(M (d+e) t (x.val E) (y.val E)).run P w=.ok b w:=by
 intro d;induction d with
 | zero=>intro t x y l b h;simp[eqv] at h
 | succ d ih =>
   intro t x y l b h e;rw[show d+1+e=(d+e)+1 by omega];unfold eqv at h;split at h
   case h_1=>rename_i hd;injection h with h;injection h with _ h;subst h;simp[M,aE hd,SV.val]
   case h_2 =>
    rename_i k l0 a k' l1 b1 hd;split at h
    ·rename_i hk;subst hk;injection h with h;injection h with _ h;subst h;simp[M,aE hd,SV.val];by_cases e:a=b1<;>simp[e]
    ·cases h
   case h_3 =>rename_i l0 a l1 b1 hd;injection h with h;injection h with _ h;subst h;simp[M,aE hd,SV.val,beq_toListBytes];by_cases e:a=b1<;>simp[e]
   case h_9 =>
    rename_i el key ol o key' ol' o' hd;split at h
    ·rename_i n hn;split at h
     ·rename_i hk;subst hk;injection h with h;injection h with _ h;subst h;simp[M,aE hd,SV.val,cg hn,sameAddr];by_cases e:o=o'<;>simp[e]
     ·cases h
    ·cases h
   case h_13 =>
    rename_i ms tx vx ty vy hd;split at h
    ·rename_i ht;subst ht;split at h
     ·rename_i i hi;split at h
      ·rename_i hcmp;simp only[M,J,aE hd,SV.val,L,ne_eq,not_true_eq_false,if_false,jx hi,hcmp,bD,a_];exact ih _ _ _ _ _ h e
      ·cases h
     ·cases h
    ·rename_i ht;injection h with h;injection h with _ h;subst h;simp[M,aE hd,SV.val,ht]
   case h_24 =>
    rename_i fs xs ys hd;split at h
    ·cases h
    ·rename_i hs;have hf:P.fieldsOf t=fs:=by simp[Program.fieldsOf,hd]
     have:=run_equalIn_struct (P:=P) w (d+e) t (SV.vals E xs).toArray (SV.vals E ys).toArray (by rw[hf];exact hd) (by simpa using hs);simp only[SV.val];rw[this,hf];exact FD (λt x y l b hq=>⟨ih t x y l b hq e,λ_=>trivial⟩) fs.toList l b h
   case h_25 =>
    rename_i len elem xs ys hd;split at h
    ·rename_i n hn;have hn': ∃ i,P.info? elem=A i/\P.cellsOf elem=n:=by
      unfold sz at hn;split at hn
      ·rename_i i hi;injection hn with hn;exact⟨i,hi,by simp[Program.cellsOf,hi,hn]⟩
      ·cases hn
     obtain⟨i,hi,hc⟩:=hn';simp only[SV.val];rw[run_equalIn_array w (d+e) (SV.vals E xs).toArray (SV.vals E ys).toArray hd hi,hc];exact HO (λt x y l b hq=>ih t x y l b hq e) (ez len) l b h
    ·cases h
   all_goals first
    | (cases h;done)
    | (rename_i z _ n _ hd;cases hz:z&&R n 0<;>rw[hz] at h<;>injection h with h<;>injection h with _ h<;>subst h<;>simp only[M,J,aE hd,SV.val,L,hz,cond_true,cond_false]<;>rfl)
    | (rename_i z _ _ n _ hd;cases hz:z&&R n 0<;>rw[hz] at h<;>injection h with h<;>injection h with _ h<;>subst h<;>simp only[M,J,aE hd,SV.val,L,hz,cond_true,cond_false]<;>rfl)
    | (rename_i hd;injection h with h;injection h with _ h;subst h;simp only[M,J,aE hd,SV.val,L];rfl)
    | (rename_i hd;injection h with h;injection h with _ h;subst h;simp[M,aE hd,SV.val];done)
section
variable {P : Program} {look : lA} {σ : Operand -> Option SV}
def isConst:Operand->Bool
 | .const _=>C
 | _=>G
def SV.gen:SV->Bool
 | .int .. | .str .. | .raw _=>G
 | _=>C
def lS (P:Program)(t:TypeId)(c:Bool)(x y:SV):Bool :=
 x.gen&&y.gen&&(match x,y with
 | .ay,.ay=>c
 | .agg _,.agg _=>!P.eqGuardType P.depth t
 | _,_=>C)
theorem tD {y:Operand}{b:SV}(h:lS P t (isConst x||isConst y) a b=C) :
  (eqGuard op t x y (a.val E) (b.val E)).run P w=.ok () w:=by
 unfold eqGuard lS at *;cases op
 all_goals try rfl
 all_goals
  simp only[bD,a_,if_false];split at h
  ·simp only[bf] at h;have:=h.2;simp only[SV.val];cases x<;>cases y<;>simp_all [isConst]
  ·simp only[bf] at h;have:=h.2;simp only[SV.val];simp at this;simp[this]
  ·rename_i h1 h2
   cases a<;>cases b<;>simp only[SV.val]<;>first
    | rfl
    | (exact(h1 rfl rfl).elim)
    | (exact(h2 _ _ rfl rfl).elim)
    | (simp[SV.gen] at h;done)
theorem binOp_eql {b:SV}(ha:a.gen=C)(_hb:b.gen=C) :
  binOp .eql t (a.val E) (b.val E)=(do pure (.bool (← ct t (a.val E) (b.val E))):Sem Value) /\
  binOp .neq t (a.val E) (b.val E)=(do pure (.bool (!(← ct t (a.val E) (b.val E)))):Sem Value):=by
 cases a<;>first | (simp[SV.gen] at ha;done) | (simp only[SV.val];exact⟨rfl,rfl⟩)
def abk (P:Program)(op:BinOp)(t:TypeId)(c:Bool)(x y:SV)(K:Option SV->VC):VC :=
 match op,x,y with
 | .shl,.int k l a,.int _ l' b=>GF C k l a l' b K
 | .shr,.int k l a,.int _ l' b=>GF G k l a l' b K
 | op,.int k l a,.int k' l' b=>if k=k' then abm op k l a l' b K else .fail "binOp: kinds"
 | op,.str l a,.str l' b=>abp op (l&&l') a b K
 | .eql,x,y=>if lS P t c x y then(match eqv P 50 t x y with
    | some (l,b)=>K (A (.bool l b))
    | none=>.fail "eql")else .fail "eql: guard"
 | .neq,x,y=>if lS P t c x y then(match eqv P 50 t x y with
    | some (l,b)=>K (A (.bool l (!b)))
    | none=>.fail "neq")else .fail "neq: guard"
 | _,_,_=>.fail "binOp"
theorem XY {k:IntKind}{a:Int}(h1:op≠.shl)(h2:op≠.shr)
  (h: ∀ E w ρ,Compat E look w->Reads E σ ρ->(s ρ).run P w=(binOp op 0 (.int k a) (.int k b)).run P w):aR P look σ s (abm op k l a l' b):=by
 unfold abm
 have hb: ∀ w,(binOp op 0 (.int k a) (.int k b)).run P w=(match op with
   | .add | .sub | .mul=>cx op k a b
   | .quo | .rem=>Z op k a b
   | .and | .or | .xor | .andNot=>Y op k a b
   | _=>en op a b:Sem Value).run P w:=by
  intro w;cases op<;>first | (exact absurd rfl h1) | (exact absurd rfl h2) | simp[binOp]
 cases op
 case add=>exact lW λE w ρ hc hr=>by rw[h E w ρ hc hr,hb];simp[cx]
 case sub=>exact lW λE w ρ hc hr=>by rw[h E w ρ hc hr,hb];simp[cx]
 case mul=>exact lW λE w ρ hc hr=>by rw[h E w ρ hc hr,hb];simp[cx]
 case quo=>exact Oe (rem:=G) λE w ρ hc hr=>by rw[h E w ρ hc hr,hb];rfl
 case rem=>exact Oe (rem:=C) λE w ρ hc hr=>by rw[h E w ρ hc hr,hb];rfl
 case and=>exact vR (.inl rfl) λE w ρ hc hr=>by rw[h E w ρ hc hr,hb]
 case or=>exact vR (.inr (.inl rfl)) λE w ρ hc hr=>by rw[h E w ρ hc hr,hb]
 case xor=>exact vR (.inr (.inr rfl)) λE w ρ hc hr=>by rw[h E w ρ hc hr,hb]
 case shl=>exact absurd rfl h1
 case shr=>exact absurd rfl h2
 case andNot=>exact aR.fail _
 all_goals (refine aR.v _ λE w ρ hc hr=> ?_;rw[h E w ρ hc hr,hb];simp[en,SV.val])
 all_goals (by_cases e:a=b<;>simp[e])
theorem KC {u:TypeId}{k k':IntKind}{a:Int}:binOp op t (.int k a) (.int k' b)=binOp op u (.int k a) (.int k' b):=by cases op<;>rfl
theorem XV {_yt:TypeId}{y:Operand}{b:SV}(hx:σ x=A a)(hy:σ y=A b) :
  aR P look σ (λρ=>do eqGuard op t x y (ρ x) (ρ y);binOp op t (ρ x) (ρ y)) (abk P op t (isConst x||isConst y) a b):=by
 have hi: ∀ {k k':IntKind} {n m:Int} {w:World},(do eqGuard op t x y (.int k n) (.int k' m);binOp op t (.int k n) (.int k' m):Sem Value).run P w=(binOp op t (.int k n) (.int k' m)).run P w:=by
  intro k k' n m w;simp only[J];have:(eqGuard op t x y (.int k n) (.int k' m)).run P w=.ok () w:=by unfold eqGuard;split<;>simp
  rw[this];rfl
 unfold abk;split
 ·rename_i k l n k' l' m;exact EB (left:=C) (yk:=k') λE w ρ hc hr=>by rw[hr x _ hx,hr y _ hy];simp only[SV.val];rw[hi];rfl
 ·rename_i k l n k' l' m;exact EB (left:=G) (yk:=k') λE w ρ hc hr=>by rw[hr x _ hx,hr y _ hy];simp only[SV.val];rw[hi];rfl
 ·rename_i op' k l n k' l' m h1 h2;refine aR.ite (λe=> ?_) (λ_=>aR.fail _);subst e;exact XY h1 h2 λE w ρ hc hr=>by rw[hr x _ hx,hr y _ hy];simp only[SV.val];rw[hi,KC]
 ·rename_i op' l n l' m;refine X3 λE w ρ hc hr=> ?_;rw[hr x _ hx,hr y _ hy];simp only[SV.val,J];have:(eqGuard op t x y (.string ⟨n.toArray⟩) (.string ⟨m.toArray⟩)).run P w=.ok () w:=by unfold eqGuard;split<;>simp
  rw[this];cases op<;>rfl
 ·rename_i a' b' _ _;refine aR.ite (λhg=> ?_) (λ_=>aR.fail _);split
  ·rename_i l v he;refine aR.v _ λE w ρ hc hr=> ?_;have hq:=NA (E:=E) (w:=w) 50 t a b l v he (ag - 50);have hg':=hg;unfold lS at hg';simp only[bf] at hg';rw[hr x _ hx,hr y _ hy];simp only[J,tD hg,L];rw[(binOp_eql hg'.1.1 hg'.1.2).1];simp only[J,ct];rw[show ag=50+(ag - 50)from rfl,hq];rfl
  ·exact aR.fail _
 ·rename_i a' b' _ _;refine aR.ite (λhg=> ?_) (λ_=>aR.fail _);split
  ·rename_i l v he;refine aR.v _ λE w ρ hc hr=> ?_;have hq:=NA (E:=E) (w:=w) 50 t a b l v he (ag - 50);have hg':=hg;unfold lS at hg';simp only[bf] at hg';rw[hr x _ hx,hr y _ hy];simp only[J,tD hg,L];rw[(binOp_eql hg'.1.1 hg'.1.2).2];simp only[J,ct];rw[show ag=50+(ag - 50)from rfl,hq];rfl
  ·exact aR.fail _
 ·exact aR.fail _
def qun (op:UnOp)(x:SV)(K:Option SV->VC):VC :=
 match op,x with
 | .not,.bool l b=>K (A (.bool l (!b)))
 | .neg,.int k l n=>ru k l (0 - n) K
 | .xor,.int k l n=>(match k.signed with
   | false=>EA .xor k l (hi k) n K
   | true=>.fail "unOp")
 | _,_=>.fail "unOp"
theorem aa6 {k:IntKind}(h:k.signed=G):k.max=hi k:=by cases k<;>first | rfl | (simp[b_] at h;done)
theorem abq {op:UnOp}(hx:σ x=A a):aR P look σ (λρ=>Op.unary op (ρ x)) (qun op a):=by
 unfold qun;split
 ·exact aR.v _ λE w ρ hc hr=>by rw[hr x _ hx];rfl
 ·exact lW λE w ρ hc hr=>by rw[hr x _ hx];rfl
 ·rename_i k l n;cases hs:k.signed with
  | true=>exact aR.fail _
  | false =>refine vR (.inr (.inr rfl)) λE w ρ hc hr=> ?_;rw[hr x _ hx];simp only[SV.val,Op.unary,hs,aa6 hs];rfl
 ·exact aR.fail _
def fits:IntKind->IntKind->Bool
 | .u8,.u16 | .u8,.u32 | .u8,.u64 | .u16,.u32 | .u16,.u64 | .u32,.u64=>C
 | a,b=>decide (a=b)
def UT (P:Program)(src dst:TypeId)(x:SV)(K:Option SV->VC):VC :=
 match P.underlying src,P.underlying dst,x with
 | some (.int j),A (.int k),.int _ l n=>match l|| !fits j k with
   | true=>ru k l n K
   | false=>.and (.atom (lo k<=n/\n<=hi k)) (K (A (.int k G n)))
 | some .string,A .string,.str l s=>K (A (.str l s))
 | _,_,_=>.fail "convert"
theorem UU {src dst:TypeId}(hx:σ x=A a):aR P look σ (λρ=>convert src dst (ρ x)) (UT P src dst a):=by
 unfold UT;split
 ·rename_i j k k' l n hs hd;have hrun: ∀ w,(convert src dst (.int k' n)).run P w=.ok (.int k (k.wrap n)) w:=λw=>by simp only[convert,J,aE hs,aE hd,L];rfl
  split
  ·exact lW λE w ρ hc hr=>by rw[hr x _ hx];exact hrun w
  ·exact aR.atom λhb=>aR.v _ λE w ρ hc hr=>by rw[hr x _ hx];simp only[SV.val];rw[hrun w,tc hb]
 ·rename_i l s hs hd;exact aR.v _ λE w ρ hc hr=>by rw[hr x _ hx];simp only[SV.val,convert,J,aE hs,aE hd,L];rfl
 ·exact aR.fail _
def uF (P:Program)(t:TypeId)(x:SV)(K:Option SV->VC):VC :=
 match P.concrete t with
 | true=>K (A (.iface t x))
 | false=>.fail "makeInterface"
theorem C' (hx:σ x=A a):aR P look σ (λρ=>Instr.makeInterface t (ρ x)) (uF P t a):=by
 unfold uF;split
 ·rename_i h;exact aR.v _ λE w ρ hc hr=>by rw[hr x _ hx,run_makeInterface w t _ h];rfl
 ·exact aR.fail _
def FF (σ:Operand->Option SV):List Operand->Option (List SV)
 | []=>A []
 | x::r=>match σ x,FF σ r with
   | some v,A l=>A (v::l)
   | _,_=>F
theorem NB {σ:Operand->Option SV}{E:Nat->Nat}{ρ:Operand->Value}(hr:Reads E σ ρ): ∀ {xs:List Operand} {l:List SV},FF σ xs=A l->xs.map ρ=SV.vals E l
 | [],l,h=>by simp[FF] at h;subst h;rfl
 | x::r,l,h=>by
   simp only[FF] at h;split at h
   ·rename_i v l' hv hl;injection h with h;subst h;simp[SV.vals,hr x v hv,NB hr hl]
   ·cases h
theorem mY {ρ:Operand->Value}(hr:Reads E σ ρ){xs:Array Operand}{l:List SV}(h:FF σ xs.toList=A l) :
  xs.map ρ=(SV.vals E l).toArray:=by
 rw[← NB hr h];apply Array.ext';simp
def x6 (fn:Fn)(a b:Option (List SV))(K:Option SV->VC):VC :=
 match a,b with
 | some a,A b=>K (A (.func fn a b))
 | _,_=>.fail "makeFunc"
theorem GD {fn:Fn}{xs ys:Array Operand}:aR P look σ (λρ=>Instr.makeFunc fn (xs.map ρ) (ys.map ρ)) (x6 fn (FF σ xs.toList) (FF σ ys.toList)):=by
 unfold x6;split
 ·rename_i a b ha hb;exact aR.v _ λE w ρ hc hr=>by rw[mY hr ha,mY hr hb];rfl
 ·exact aR.fail _
def B6 (x:SV)(i:Nat)(K:Option SV->VC):VC :=
 match x with
 | .aO vs=>(match vs[i]? with
   | some v=>K (A v)
   | none=>.fail "extract")
 | _=>.fail "extract: no tuple"
theorem Jp {i:Nat}(hx:σ x=A a):aR P look σ (λρ=>ei (ρ x) i) (B6 a i):=by
 unfold B6;split
 ·rename_i vs;split
  ·rename_i v hv;refine aR.v _ λE w ρ hc hr=> ?_;rw[hr x _ hx];simp[SV.val,ei,SV.bG,hv]
  ·exact aR.fail _
 ·exact aR.fail _
def Mf (P:Program)(t:TypeId)(x:SV)(f:Nat)(K:Option SV->VC):VC :=
 match P.underlying t,x with
 | some (.struct fs),.agg cs=>(match fs[f]? with
   | some fd=>(match partOf P fd.type cs fd.offset with
     | some v=>K (A v)
     | none=>.fail "field: no such part")
   | none=>.fail "field: no such field")
 | _,_=>.fail "field"
theorem Qp {f:Nat}(hx:σ x=A a):aR P look σ (λρ=>ej t (ρ x) f) (Mf P t a f):=by
 unfold Mf;split
 ·rename_i fs cs hd;split
  ·rename_i fd hf;split
   ·rename_i v hv;refine aR.v _ λE w ρ hc hr=> ?_;rw[hr x _ hx];simp[SV.val,ej,aE hd,hf,asAgg,gV hv]
   ·exact aR.fail _
  ·exact aR.fail _
 ·exact aR.fail _
def ah (s:List UInt8)(i:Int):Int:=((s.getD i.toNat 0).toNat:Int)
def Mg (P:Program)(t:TypeId)(x i:SV)(K:Option SV->VC):VC :=
 match P.underlying t,x,i with
 | some .string,.str l s,.int _ l' n=>(match l&&l' with
   | true=>if 0<=n/\n<s.length then K (A (.int .u8 C (ah s n)))else .fail "index out of range"
   | false=>.and (.atom (0<=n/\n<s.length)) (K (A (.int .u8 G (ah s n)))))
 | some (.array len e),.agg cs,.int _ C n=>(match sz P e with
   | some m=>if 0<=n/\n<len then(match partOf P e cs (n.toNat*m)with
     | some v=>K (A v)
     | none=>.fail "index: no such part")else .fail "index out of range"
   | none=>.fail "index")
 | some (.array len e),.agg cs,.int _ G n=>(match sz P e,P.underlying e with
   | some 1,A .string=>(match nO cs with
     | some ss=>.and (.atom (0<=n/\n<len/\n<ss.length)) (K (A (.str G (bT ss n.toNat))))
     | none=>.fail "index: no texts")
   | _,_=>.fail "index")
 | _,_,_=>.fail "index"
theorem wz (hd:P.underlying t=A .string){s:List UInt8}{k:IntKind}(h:0<=n/\n<s.length) :
  (a! t ((SV.str l s).val E) ((SV.int k l' n).val E)).run P w=.ok (.int .u8 (ah s n)) w:=by
 have hn:n.toNat<s.length:=by omega
 simp only[SV.val,a!,asIntOf,J,S,L,aE hd,h.1,if_true];have e:(T s.toArray)[n.toNat]?=A s[n.toNat]:=by rw[getElem?_pos (T s.toArray) n.toNat (by simpa [cR] using hn)];rfl
 rw[e];simp[ah,List.getD_eq_getElem?_getD,hn]
theorem Qq {i:Operand}{b:SV}(hx:σ x=A a)(hi:σ i=A b):aR P look σ (λρ=>a! t (ρ x) (ρ i)) (Mg P t a b):=by
 unfold Mg;split
 ·rename_i l s k l' n hd;split
  ·exact aR.ite (λh=>aR.v _ λE w ρ hc hr=>by rw[hr x _ hx,hr i _ hi];exact wz hd h) (λ_=>aR.fail _)
  ·exact aR.atom λh=>aR.v _ λE w ρ hc hr=>by rw[hr x _ hx,hr i _ hi];exact wz hd h
 ·rename_i len e cs k n hd;split
  ·rename_i m hm;refine aR.ite (λh=> ?_) (λ_=>aR.fail _);split
   ·rename_i v hv;refine aR.v _ λE w ρ hc hr=> ?_;rw[hr x _ hx,hr i _ hi];simp[SV.val,a!,asIntOf,aE hd,h.1,h.2,cg hm,gV hv]
   ·exact aR.fail _
  ·exact aR.fail _
 ·rename_i len e cs k n hd;split
  ·rename_i hm he;split
   ·rename_i ss hss;refine aR.atom λh=>aR.v _ λE w ρ hc hr=> ?_;have hl:n.toNat<cs.length:=by rw[← uO hss];omega
    obtain⟨b,hb⟩:=mM hss n.toNat _ (V hl);have hv:partOf P e cs (n.toNat*1)=A (.str b (bT ss n.toNat)):=by simp only[partOf,he,fG,cQ];rw[V hl,hb]
    have hp:=gV (E:=E) (w:=w) hv;rw[hr x _ hx,hr i _ hi];rw[cQ] at hp;simp[SV.val,a!,asIntOf,aE hd,h.1,h.2.1,cg hm,hp]
   ·exact aR.fail _
  ·exact aR.fail _
 ·exact aR.fail _
end
end Sx
end Go.Proofs.YtoibaecagklkaaaGreatDoor
