/- A part of the proof. -/
import Derived.Test.YtoibaecagklkaaaGreatDoorMa
import Derived.Laws.StructEq
import Derived.ChangeKeysEq
import Derived.Laws.Build
open Bool renaming and_eq_true->a!,false->G,false_eq_true->aW,not_false->c!,not_true->bf,true->C
open ByteArray renaming data_append->ep,ext->er,mk->T,size->cx
open Decidable renaming decide->N
open Go.Instr renaming extract->dm,field->d_,fieldAt->X,index->a_,indexAt->Q,loadAt->I,sureAddr->H
open Go.IntKind renaming bits->cy,signed->b5,wrap->d!
open Go.Op renaming bytesLess->cT,eqFields->b6,eqItems->c4,equal->b9,equalIn->M,intArith->b_,intBits->Y,intCmp->ec,intDiv->Z,maxDepth->ag,shift->c5,stringOp->b!
open Go.Result renaming andThen_ok->L
open Go.Sem renaming run_bind->J,run_ite->ef,run_pure->S
open List renaming foldr_cons->ei,getElem?_eq_getElem->V,getElem?_map->O,length_cons->c6,length_map->an,length_nil->ej,range->ek
open Nat renaming add_assoc->W,add_mul->c7,add_zero->en,beq->R,mul_one->ct,zero_add->c_
open Option renaming none->F,some->A
namespace Go.Proofs.YtoibaecagklkaaaGreatDoor
open Go Sx
variable {s:(Operand->Value)->Sem Value}{c:Array Value}{op:BinOp}{l l':Bool}{b n:Int}{E:Nat->Nat}{fr:Nat×Nat}{x:Operand}{σ:Operand->Option SV}{P:Program}{a:SV}{t ty:TypeId}{w:World}
namespace Sx
open Go
theorem aI {d:TypeDesc}(h:P.underlying t=A d):(underlying t).run P w=.ok d w:=by simp[underlying,h]
theorem jU {i:TypeInfo}(h:P.info? t=A i):(typeInfo t).run P w=.ok i w:=by simp[typeInfo,h]
def sz (P:Program)(t:TypeId):Option Nat:=match P.info? t with | some i=>A i.size | none=>F
theorem cj {n:Nat}(h:sz P t=A n):(sizeOf t).run P w=.ok n w:=by
 unfold sz at h;split at h
 ·rename_i i hi;cases h;simp[sizeOf,jU hi]
 ·cases h
def fS:TypeDesc->Bool
 | .struct _=>C
 | .array _ _=>C
 | _=>G
theorem cO {d:TypeDesc}(h:P.underlying t=A d):(isAgg t).run P w=.ok (fS d) w:=by cases d<;>simp[isAgg,aI h,fS]
theorem cW (b o n:Nat):(⟨b,o,F⟩:Addr).add n=⟨b,o+n,F⟩:=by unfold Addr.add;split<;>simp_all
theorem cell_of {b o:Nat}(h:w.heap[b]?=A (.cells c ty fr)) :
  w.cell? ⟨b,o,F⟩=c[o]?:=by
 simp[World.cell?,h]
theorem run_loadCellsFrom {b:Nat}(h:w.heap[b]?=A (.cells c ty fr))(o:Nat) :
  ∀(vs:List Value) (i:Nat) (acc:Array Value),(∀ j v,vs[j]?=A v->c[o+i+j]?=A v) ->
   (loadCellsFrom ⟨b,o,F⟩ i vs.length acc).run P w=.ok (acc++vs.toArray) w:=by
 intro vs;induction vs with
 | nil=>intro i acc _;simp[loadCellsFrom]
 | cons v r ih =>
   intro i acc hv;have h0:=hv 0 v rfl;simp only[c6,loadCellsFrom,J,run_load,cW,cell_of h];rw[show o+i+0=o+i from rfl] at h0
   rw[h0];simp only[L];rw[ih (i+1) (acc.push v) (λj u hu=>by have:=hv (j+1) u (by simpa using hu);rw[← this];congr 1;omega)];simp
theorem run_loadCells {b:Nat}(h:w.heap[b]?=A (.cells c ty fr))(o:Nat)
  (vs:List Value) (hv: ∀(j:Nat) v,vs[j]?=A v->c[o+j]?=A v) :
  (loadCells ⟨b,o,F⟩ vs.length).run P w=.ok vs.toArray w:=by
 have:=run_loadCellsFrom (P:=P) h o vs 0 #[] (λj v hj=>by simpa using hv j v hj);simpa [loadCells] using this
def ic (cs:List SV)(o n:Nat):Option (List SV) :=
 match o,cs with
 | 0,cs=>(match n,cs with
   | 0,_=>A []
   | n+1,x::r=>(match ic r 0 n with | some l=>A (x::l) | none=>F)
   | _+1,[]=>F)
 | o+1,_::r=>ic r o n
 | _+1,[]=>F
termination_by structural cs
theorem cV: ∀ {cs:List SV} {o n:Nat} {l:List SV},ic cs o n=A l->l.length=n/\∀ j v,l[j]?=A v->cs[o+j]?=A v
 | cs,0,0,l,h=>by cases cs<;>simp[ic] at h<;>subst h<;>simp
 | [],0,n+1,l,h=>by simp[ic] at h
 | x::r,0,n+1,l,h=>by
   simp only[ic] at h;split at h
   ·rename_i l' hl;cases h;have:=cV hl;refine⟨by simp[this.1],λj v hj=> ?_⟩;cases j with
    | zero=>simpa using hj
    | succ j=>have:=this.2 j v (by simpa using hj);simpa using this
   ·cases h
 | [],o+1,n,l,h=>by simp[ic] at h
 | x::r,o+1,n,l,h=>by simp only[ic] at h;have:=cV h;refine⟨this.1,λj v hj=> ?_⟩;have:=this.2 j v hj;rw[show o+1+j=(o+j)+1 by omega];simpa using this
abbrev QT:=(Option SV->VC)->VC
abbrev l8:=Nat->Option SB
def Compat (E:Nat->Nat)(look:l8)(w:World):Prop:=(∀ k B,look k=A B->B.no=G->∃ o,w.heap[E k]?=A o/\bK E B o)/\rD w/\∀ k B a,look k=A B->B.gB (E k) a->∃ o,w.heap[a]?=A o/\bK E (B.el a) o
def Reads (E:Nat->Nat)(σ:Operand->Option SV)(ρ:Operand->Value):Prop:=∀ x v,σ x=A v->ρ x=v.val E
def aR (P:Program)(look:l8)(σ:Operand->Option SV)(s:(Operand->Value)->Sem Value)(t:QT):Prop :=
 ∃(obl:Prop) (sv:Option SV),(∀ K,(t K).holds↔obl/\(K sv).holds) /\
  (∀ E w ρ,Compat E look w->Reads E σ ρ->obl->∃ r,(s ρ).run P w=.ok r w/\∀ v,sv=A v->r=v.val E)
section
variable {P : Program} {look : l8} {σ : Operand -> Option SV} {s : (Operand -> Value) -> Sem Value}
theorem aR.fail (why:String):aR P look σ s (λ_=>.fail why) :=⟨False,F,λ_K=>⟨λh=>h.elim,λh=>h.1.elim⟩,λ_ _ _ _ _ h=>h.elim⟩
theorem aR.k (sv:Option SV)(h: ∀ E w ρ,Compat E look w->Reads E σ ρ->∃ r,(s ρ).run P w=.ok r w/\∀ v,sv=A v->r=v.val E) :
  aR P look σ s (λK=>K sv) :=
 ⟨True,sv,λ_K=>⟨λh=>⟨trivial,h⟩,λh=>h.2⟩,λE w ρ hc hr _=>h E w ρ hc hr⟩
theorem aR.v (v:SV)(h: ∀ E w ρ,Compat E look w->Reads E σ ρ->(s ρ).run P w=.ok (v.val E) w):aR P look σ s (λK=>K (A v)) :=aR.k _ λE w ρ hc hr=>⟨_,h E w ρ hc hr,λv' hv=>by injection hv with hv;rw[hv]⟩
theorem aR.atom {p:Prop}{t:QT}(h:p->aR P look σ s t):aR P look σ s (λK=>.and (.atom p) (t K)):=by
 by_cases hp:p
 ·obtain⟨obl,sv,h1,h2⟩:=h hp;exact⟨obl,sv,λK=>⟨λx=>(h1 K).1 x.2,λx=>⟨hp,(h1 K).2 x⟩⟩,h2⟩
 ·exact⟨False,F,λK=>⟨λx=>(hp x.1).elim,λx=>x.1.elim⟩,λ_ _ _ _ _ h=>h.elim⟩
theorem aR.fork {b:Bool}{t:Bool->QT}(h:aR P look σ s (t b)):aR P look σ s (λK=>Sx.fork b (λc=>t c K)):=by obtain⟨obl,sv,h1,h2⟩:=h;exact⟨obl,sv,λK=>by rw[bP];exact h1 K,h2⟩
theorem aR.ite {c:Prop}[Decidable c]{t u:QT}(h:c->aR P look σ s t)(h': ¬ c->aR P look σ s u) :
  aR P look σ s (λK=>if c then t K else u K):=by
 by_cases hc:c
 ·simp only[hc,if_true];exact h hc
 ·simp only[hc,if_false];exact h' hc
end
def lo:IntKind->Int
 | .i8=> -128 | .i16=> -32768 | .i32=> -2147483648 | .i64=> -9223372036854775808
 | _=>0
def hi:IntKind->Int
 | .i8=>127 | .i16=>32767 | .i32=>2147483647 | .i64=>9223372036854775807
 | .u8=>255 | .u16=>65535 | .u32=>4294967295 | .u64=>18446744073709551615
def md:IntKind->Int
 | .i8 | .u8=>256 | .i16 | .u16=>65536 | .i32 | .u32=>4294967296 | .i64 | .u64=>18446744073709551616
theorem uA {k:IntKind}(h:lo k<=n/\n<=hi k):k.wrap n=n:=by obtain⟨h1,h2⟩:=h;cases k<;>simp only[lo,hi] at h1 h2<;>simp only[d!,cy,b5]<;>simp<;>(try split)<;>omega
theorem abO {k:IntKind}(hs:k.signed=G)(n:Int):k.wrap n=n% md k:=by cases k<;>simp[b5] at hs<;>simp[d!,cy,b5,md]
def vD (k:IntKind):List SV->Option (List Int)
 | []=>A []
 | .int k' _ n::r=>if k=k' then(match vD k r with
   | some l=>A (n::l)
   | none=>F)else F
 | _::_=>F
def Wv:List SV->IntKind
 | .int k _ _::_=>k
 | _=>.i64
def EI (l:List Int)(i:Nat):Int:=l.getD i 0
theorem qi {k:IntKind}: ∀ {cs:List SV} {l:List Int},vD k cs=A l->l.length=cs.length/\∀(i:Nat) (v:SV),cs[i]?=A v->∃ b,v=.int k b (EI l i)
 | [],l,h=>by simp[vD] at h;subst h;exact⟨rfl,λi v hv=>by simp at hv⟩
 | .int k' b n::r,l,h=>by
   simp only[vD] at h;split at h
   ·rename_i e;subst e;split at h
    ·rename_i l' hl;cases h;obtain⟨h1,h2⟩:=qi hl;refine⟨by simp[h1],λi v hv=> ?_⟩;cases i with
     | zero=>simp at hv;subst hv;exact⟨b,rfl⟩
     | succ i=>obtain⟨b',hb⟩:=h2 i v (by simpa using hv);exact⟨b',by rw[hb];rfl⟩
    ·cases h
   ·cases h
def oz:List SV->Option (List f_)
 | []=>A []
 | .str _ s::r=>(match oz r with
   | some l=>A (s::l)
   | none=>F)
 | _::_=>F
def ck (l:List f_)(i:Nat):f_:=l.getD i []
theorem nw: ∀ {cs:List SV} {l:List f_},oz cs=A l->∀(i:Nat) (v:SV),cs[i]?=A v->∃ b,v=.str b (ck l i)
 | [],l,h,i,v,hv=>by simp at hv
 | .str b s::r,l,h,i,v,hv=>by
   simp only[oz] at h;split at h
   ·rename_i l' hl;cases h;cases i with
    | zero=>simp at hv;subst hv;exact⟨b,rfl⟩
    | succ i=>obtain⟨b',hb⟩:=nw hl i v (by simpa using hv);exact⟨b',by rw[hb];rfl⟩
   ·cases h
theorem v7: ∀ {cs:List SV} {l:List f_},oz cs=A l->l.length=cs.length
 | [],l,h=>by simp[oz] at h;subst h;rfl
 | .str b s::r,l,h=>by
   simp only[oz] at h;split at h
   ·rename_i l' hl;cases h;simp[v7 hl]
   ·cases h
def lN (az:List av)(i k n:Nat):Option (List SV):=ic (az.map (av.at i)) k n
noncomputable def HK (g:Nat):List (Nat×Array Value)->Option (Array Value)
 | []=>F
 | e::r=>if e.1=g then A e.2 else HK g r
theorem vv {g:Nat}: ∀ {l:List (Nat×Array Value)} {cs:Array Value},HK g l=A cs->(g,cs)∈ l
 | [],_,h=>by cases h
 | e::r,cs,h=>by
   simp only[HK] at h;split at h
   ·rename_i he;cases h;subst he;exact List.mem_cons_self ..
   ·exact List.mem_cons_of_mem _ (vv h)
def SV.N8:Value->Option SV
 | .iface t (.agg cs)=>A (.iface t (.agg (cs.toList.map SV.raw)))
 | v=>SV.vM v
theorem SV.N9 {v:Value}{x:SV}(h:SV.N8 v=A x):x.val E=v:=by
 unfold SV.N8 at h;split at h
 ·cases h;have: ∀ l:List Value,SV.vals E (l.map SV.raw)=l:=by
   intro l;induction l with
   | nil=>rfl
   | cons a r ih=>simp only[List.map_cons,SV.vals,SV.val,ih]
  simp[SV.val,this]
 ·exact SV.vN h
def x7 (k:IntKind):List Value->Option (List Int)
 | []=>A []
 | .int k' n::r=>if k=k' then(match x7 k r with
   | some l=>A (n::l)
   | none=>F)else F
 | _::_=>F
def abk:List Value->Option IntKind
 | .int k _::_::_=>A k
 | _=>F
theorem AV {k:IntKind}: ∀ {cs:List Value} {l:List Int},x7 k cs=A l->l.length=cs.length/\∀(i:Nat),i<l.length->cs[i]?=A (.int k (EI l i))
 | [],l,h=>by simp[x7] at h;subst h;exact⟨rfl,λi hi=>absurd hi (Nat.not_lt_zero _)⟩
 | v::r,l,h=>by
   unfold x7 at h;split at h
   ·rename_i e;cases e
   ·rename_i k' n r' e;injection e with e1 e2;subst e1;subst e2;split at h
    ·rename_i e;subst e;split at h
     ·rename_i l' hl;cases h;obtain⟨h1,h2⟩:=AV hl;refine⟨by simp[h1],λi hi=> ?_⟩;cases i with
      | zero=>rfl
      | succ i=>simpa [EI] using h2 i (by simpa using hi)
     ·cases h
    ·cases h
   ·cases h
def gI (c:av)(o:Nat):Nat->List SV
 | 0=>[]
 | n+1=>c.at o::gI c (o+1) n
theorem nH (c:av): ∀(n o:Nat),(gI c o n).length=n
 | 0,_=>rfl
 | n+1,o=>by simp[gI,nH c n (o+1)]
theorem rR (c:av): ∀(n o j:Nat) (v:SV),(gI c o n)[j]?=A v->j<n/\v=c.at (o+j)
 | 0,_,j,v,h=>by simp[gI] at h
 | n+1,o,0,v,h=>by simp[gI] at h;exact⟨Nat.succ_pos _,h.symm⟩
 | n+1,o,j+1,v,h=>by simp only[gI,List.getElem?_cons_succ] at h;obtain⟨h1,h2⟩:=rR c n (o+1) j v h;exact⟨by omega,by rw[h2];congr 1;omega⟩
noncomputable def QY (P:Program)(look:l8)(t:TypeId)(a:Option SV)(K:Option SV->VC):VC :=
 match P.underlying t with
 | none=>.fail "load: no type"
 | some d =>
   match a with
   | some (.ptr key C o)=>(match look key with
     | some (.cells cs _ _)=>(match fS d with
       | true=>(match sz P t with
         | some n=>(match ic cs o n with
           | some l=>K (A (.agg l))
           | none=>.fail "load: not so many cells")
         | none=>.fail "load: no size")
       | false=>(match cs[o]? with
         | some v=>K (A v)
         | none=>.fail "load: no such cell"))
     | some (.rows G n [c] _ _ _)=>(match fS d with
       | true=>(match sz P t with
         | some m=>.and (.atom (o+m<=n)) (K (A (.agg (gI c o m))))
         | none=>.fail "load: no size")
       | false=>.and (.atom (o<n)) (K (A (c.at o))))
     | _=>.fail "load: no such block")
   | some (.lS key w i k)=>(match look key with
     | some (.rows _z n az _ro _tot _ty)=>(if az.length=w then(match fS d with
       | true=>(match sz P t with
         | some m=>(match lN az i k m with
           | some l=>.and (.atom (i<n)) (K (A (.agg l)))
           | none=>.fail "load: not so many columns")
         | none=>.fail "load: no size")
       | false=>(match az[k]? with
         | some c=>.and (.atom (i<n)) (K (A (c.at i)))
         | none=>.fail "load: no such column"))else .fail "load: another row")
     | _=>.fail "load: not a row")
   | some (.i9 key w o i k)=>(match look key with
     | some (.view _z o' n az)=>(if az.length=w then(match fS d with
       | true=>(match sz P t with
         | some m=>(match lN az i k m with
           | some l=>.and (.atom (o'=o/\i<n)) (K (A (.agg l)))
           | none=>.fail "load: not so many columns")
         | none=>.fail "load: no size")
       | false=>(match az[k]? with
         | some c=>.and (.atom (o'=o/\i<n)) (K (A (c.at i)))
         | none=>.fail "load: no such column"))else .fail "load: another row")
     | _=>.fail "load: not a view")
   | some (.pT key base n i)=>(match look key with
     | some (.cells cs _ _)=>(match fS d,ic cs base n with
       | false,A l=>(match vD (Wv l) l with
         | some zs=>.and (.atom (i<n)) (K (A (.int (Wv l) G (EI zs i))))
         | none=>(match oz l with
           | some ss=>.and (.atom (i<n)) (K (A (.str G (ck ss i))))
           | none=>.fail "load: no integers"))
       | _,_=>.fail "load: not so many cells")
     | some (.rows G nb [c] _ _ _)=>(match fS d with
       | false=>.and (.atom (i<n/\base+i<nb)) (K (A (c.at (base+i))))
       | true=>.fail "load: not so many cells")
     | _=>.fail "load: no such block")
   | some (.raw (.pointer (A ⟨g,o,F⟩)))=>(match fS d,HK g rX with
     | false,A cs=>(match abk cs.toList with
       | some k=>(match x7 k cs.toList with
         | some zs=>.and (.atom (o<zs.length)) (K (A (.int k G (EI zs o))))
         | none=>.fail "load: what a variable holds")
       | none=>(match o with
         | 0=>(match cs[0]? with
           | some v=>(match SV.N8 v with
             | some x=>K (A x)
             | none=>.fail "load: what a variable holds")
           | none=>.fail "load: no cell")
         | _+1=>.fail "load: a variable's element"))
     | _,_=>.fail "load: a variable that is not listed")
   | some (.ga key a o)=>(match look key with
     | some (.eD D cs _ _ _)=>(match fS d with
       | true=>(match sz P t with
         | some m=>(match lN cs a o m with
           | some l=>.and (.atom (D a=C)) (K (A (.agg l)))
           | none=>.fail "load: not so many columns")
         | none=>.fail "load: no size")
       | false=>(match cs[o]? with
         | some c=>.and (.atom (D a=C)) (K (A (c.at a)))
         | none=>.fail "load: no such column"))
     | _=>.fail "load: no family")
   | some (.n7 key w a i k)=>(match look key with
     | some (.dQ D n az _)=>(if(az.map (cg.at a)).length=w then(match fS d with
       | true=>(match sz P t with
         | some m=>(match lN (az.map (cg.at a)) i k m with
           | some l=>.and (.atom (D a=C/\i<n a)) (K (A (.agg l)))
           | none=>.fail "load: not so many columns")
         | none=>.fail "load: no size")
       | false=>(match(az.map (cg.at a))[k]? with
         | some c=>.and (.atom (D a=C/\i<n a)) (K (A (c.at i)))
         | none=>.fail "load: no such column"))else .fail "load: another row")
     | _=>.fail "load: no family")
   | _=>.fail "load: no pointer"
theorem XO {look:l8}(t:TypeId)(x:Operand) :
  aR P look σ (λρ=>I t (ρ x)) (QY P look t (σ x)):=by
 unfold QY;cases hd:P.underlying t with
 | none=>exact aR.fail _
 | some d =>
   simp only;split
   ·rename_i key o hx;split
    ·rename_i cs tot ty hk;cases ha:fS d with
     | true =>
       simp only;cases hn:sz P t with
       | none=>exact aR.fail _
       | some n =>
         simp only;cases hl:ic cs o n with
         | none=>exact aR.fail _
         | some l =>
           refine aR.v _ λE w ρ hc hr=> ?_;obtain⟨ob,ho,c,fr,rfl,_,h2,_⟩:=hc.1 key _ hk rfl;have hg:=cV hl;have hll:=run_loadCells (P:=P) ho o (l.map (SV.val E)) (λj v hj=>by
            rw[O] at hj;cases hjl:l[j]? with
            | none=>rw[hjl] at hj;cases hj
            | some u=>rw[hjl] at hj;cases hj;exact h2 _ _ (hg.2 j u hjl))
           rw[an,hg.1] at hll;simp[I,hr x _ hx,SV.val,H,loadVar,cO hd,ha,cj hn,hll,SV.bM]
     | false =>
       simp only;cases hv:cs[o]? with
       | none=>exact aR.fail _
       | some v =>refine aR.v _ λE w ρ hc hr=> ?_;obtain⟨ob,ho,c,fr,rfl,_,h2,_⟩:=hc.1 key _ hk rfl;simp[I,hr x _ hx,SV.val,H,loadVar,cO hd,ha,cell_of ho,h2 _ _ hv]
    ·rename_i n col ro tot ty hk;cases ha:fS d with
     | true =>
       simp only;cases hn:sz P t with
       | none=>exact aR.fail _
       | some m =>
         refine aR.atom λhi=>aR.v _ λE w ρ hc hr=> ?_;obtain⟨ob,ho,c,fr,rfl,_,_,_,h2⟩:=hc.1 key _ hk rfl;have hll:=run_loadCells (P:=P) ho o ((gI col o m).map (SV.val E)) (λj v hj=>by
          rw[O] at hj;cases hjl:(gI col o m)[j]? with
          | none=>rw[hjl] at hj;cases hj
          | some u =>rw[hjl] at hj;cases hj;obtain⟨g1,g2⟩:=rR col m o j u hjl;subst g2;have:=h2 (o+j) 0 col (by omega) rfl;simpa using this)
         rw[an,nH] at hll;simp[I,hr x _ hx,SV.val,H,loadVar,cO hd,ha,cj hn,hll,SV.bM]
     | false =>refine aR.atom λhi=>aR.v _ λE w ρ hc hr=> ?_;obtain⟨ob,ho,c,fr,rfl,_,_,_,h2⟩:=hc.1 key _ hk rfl;have h3:=h2 o 0 col hi rfl;simp only[c6,ej,c_,ct,en] at h3;simp[I,hr x _ hx,SV.val,H,loadVar,cO hd,ha,cell_of ho,h3]
    ·exact aR.fail _
   ·rename_i key w i k hx;split
    ·rename_i z n az ro tot ty hk;refine aR.ite (λhw=> ?_) (λ_=>aR.fail _);subst hw;cases ha:fS d with
     | true =>
       simp only;cases hn:sz P t with
       | none=>exact aR.fail _
       | some m =>
         simp only;cases hl:lN az i k m with
         | none=>exact aR.fail _
         | some l =>
           refine aR.atom λhi=>aR.v _ λE w ρ hc hr=> ?_;obtain⟨ob,ho,c,fr,rfl,_,h1,_,h2⟩:=hc.1 key _ hk (SB.jd hi);have hg:=cV hl;have hll:=run_loadCells (P:=P) ho (i*az.length+k) (l.map (SV.val E)) (λj v hj=>by
            rw[O] at hj;cases hjl:l[j]? with
            | none=>rw[hjl] at hj;cases hj
            | some u =>
              rw[hjl] at hj;cases hj;have:=hg.2 j u hjl;rw[O] at this;cases hcl:az[k+j]? with
              | none=>rw[hcl] at this;cases this
              | some col =>rw[hcl] at this;cases this;rw[W];exact h2 i (k+j) col hi hcl)
           rw[an,hg.1] at hll;simp[I,hr x _ hx,SV.val,H,loadVar,cO hd,ha,cj hn,hll,SV.bM]
     | false =>
       simp only;cases hv:az[k]? with
       | none=>exact aR.fail _
       | some col =>refine aR.atom λhi=>aR.v _ λE w ρ hc hr=> ?_;obtain⟨ob,ho,c,fr,rfl,_,h1,_,h2⟩:=hc.1 key _ hk (SB.jd hi);simp[I,hr x _ hx,SV.val,H,loadVar,cO hd,ha,cell_of ho,h2 _ _ _ hi hv]
    ·exact aR.fail _
   ·rename_i key w o i k hx;split
    ·rename_i z o' n az hk;refine aR.ite (λhw=> ?_) (λ_=>aR.fail _);subst hw;cases ha:fS d with
     | true =>
       simp only;cases hn:sz P t with
       | none=>exact aR.fail _
       | some m =>
         simp only;cases hl:lN az i k m with
         | none=>exact aR.fail _
         | some l =>
           refine aR.atom λhlh=>aR.v _ λE w ρ hc hr=> ?_;obtain⟨rfl,hi⟩:=hlh;obtain⟨ob,ho,c,ty,fr,rfl,h2⟩:=hc.1 key _ hk (SB.Bu hi);have hg:=cV hl;have hll:=run_loadCells (P:=P) ho (o'+i*az.length+k) (l.map (SV.val E)) (λj v hj=>by
            rw[O] at hj;cases hjl:l[j]? with
            | none=>rw[hjl] at hj;cases hj
            | some u =>
              rw[hjl] at hj;cases hj;have:=hg.2 j u hjl;rw[O] at this;cases hcl:az[k+j]? with
              | none=>rw[hcl] at this;cases this
              | some col =>rw[hcl] at this;cases this;rw[W];exact h2 i (k+j) col hi hcl)
           rw[an,hg.1] at hll;simp[I,hr x _ hx,SV.val,H,loadVar,cO hd,ha,cj hn,hll,SV.bM]
     | false =>
       simp only;cases hv:az[k]? with
       | none=>exact aR.fail _
       | some col =>refine aR.atom λhlh=>aR.v _ λE w ρ hc hr=> ?_;obtain⟨rfl,hi⟩:=hlh;obtain⟨ob,ho,c,ty,fr,rfl,h2⟩:=hc.1 key _ hk (SB.Bu hi);simp[I,hr x _ hx,SV.val,H,loadVar,cO hd,ha,cell_of ho,h2 _ _ _ hi hv]
    ·exact aR.fail _
   ·rename_i key base n i hx;split
    ·rename_i cs tot ty hk;split
     ·rename_i l ha hl;split
      ·rename_i zs hz;refine aR.atom λhi=>aR.v _ λE w ρ hc hr=> ?_;obtain⟨ob,ho,c,fr,rfl,_,h2,_⟩:=hc.1 key _ hk rfl;have hg:=cV hl;have hzg:=qi hz;have hil:i<l.length:=by rw[hg.1];exact hi
       obtain⟨b,hb⟩:=hzg.2 i l[i] (V hil);have:=h2 _ _ (hg.2 i l[i] (V hil));rw[hb] at this;simp[I,hr x _ hx,SV.val,H,loadVar,cO hd,ha,cell_of ho,this]
      ·split
       ·rename_i ss hz;refine aR.atom λhi=>aR.v _ λE w ρ hc hr=> ?_;obtain⟨ob,ho,c,fr,rfl,_,h2,_⟩:=hc.1 key _ hk rfl;have hg:=cV hl;have hil:i<l.length:=by rw[hg.1];exact hi
        obtain⟨b,hb⟩:=nw hz i l[i] (V hil);have:=h2 _ _ (hg.2 i l[i] (V hil));rw[hb] at this;simp[I,hr x _ hx,SV.val,H,loadVar,cO hd,ha,cell_of ho,this]
       ·exact aR.fail _
     ·exact aR.fail _
    ·rename_i nb col ro tot ty hk;split
     ·rename_i ha;refine aR.atom λhi=>aR.v _ λE w ρ hc hr=> ?_;obtain⟨ob,ho,c,fr,rfl,_,_,_,h2⟩:=hc.1 key _ hk rfl;have h3:=h2 (base+i) 0 col hi.2 rfl;simp only[c6,ej,c_,ct,en] at h3;simp[I,hr x _ hx,SV.val,H,loadVar,cO hd,ha,cell_of ho,h3]
     ·exact aR.fail _
    ·exact aR.fail _
   ·rename_i g o hx;split
    ·rename_i cs ha hcs;split
     ·rename_i k hk;split
      ·rename_i zs hz;refine aR.atom λho=>aR.v _ λE w ρ hc hr=> ?_;obtain⟨c,ty,fr,hg,hgc⟩:=hc.2.1 _ (vv hcs);have hv:=(AV hz).2 o ho;rw[Array.getElem?_toList] at hv;have hv:=hgc _ _ hv;simp[I,hr x _ hx,SV.val,H,loadVar,cO hd,ha,cell_of hg,hv]
      ·exact aR.fail _
     ·split
      ·split
       ·rename_i v hv;split
        ·rename_i y hy;refine aR.v _ λE w ρ hc hr=> ?_;obtain⟨c,ty,fr,hg,hgc⟩:=hc.2.1 _ (vv hcs);simp[I,hr x _ hx,SV.val,H,loadVar,cO hd,ha,cell_of hg,hgc _ _ hv,SV.N9 hy]
        ·exact aR.fail _
       ·exact aR.fail _
      ·exact aR.fail _
    ·exact aR.fail _
   ·rename_i key a o hx;split
    ·rename_i D cs tot ty ro hk;cases ha:fS d with
     | true =>
       simp only;cases hn:sz P t with
       | none=>exact aR.fail _
       | some m =>
         simp only;cases hl:lN cs a o m with
         | none=>exact aR.fail _
         | some l =>
           refine aR.atom λhD=>aR.v _ λE w ρ hc hr=> ?_;obtain⟨ob,ho,c,fr,rfl,_,h2,_⟩:=hc.2.2 key _ a hk hD;have hg:=cV hl;have hll:=run_loadCells (P:=P) ho o (l.map (SV.val E)) (λj v hj=>by
            rw[O] at hj;cases hjl:l[j]? with
            | none=>rw[hjl] at hj;cases hj
            | some u=>rw[hjl] at hj;cases hj;exact h2 _ _ (hg.2 j u hjl))
           rw[an,hg.1] at hll;simp[I,hr x _ hx,SV.val,H,loadVar,cO hd,ha,cj hn,hll,SV.bM]
     | false =>
       simp only;cases hv:cs[o]? with
       | none=>exact aR.fail _
       | some col =>refine aR.atom λhD=>aR.v _ λE w ρ hc hr=> ?_;obtain⟨ob,ho,c,fr,rfl,_,h2,_⟩:=hc.2.2 key _ a hk hD;simp[I,hr x _ hx,SV.val,H,loadVar,cO hd,ha,cell_of ho,h2 o (col.at a) (by rw[O,hv];rfl)]
    ·exact aR.fail _
   ·rename_i key w a i k hx;split
    ·rename_i D n az ro hk;have hel:SB.el (.dQ D n az ro) a=.view G 0 (n a) (az.map (cg.at a)):=rfl;generalize az.map (cg.at a)=cl at hel ⊢;refine aR.ite (λhw=> ?_) (λ_=>aR.fail _);subst hw;cases ha:fS d with
     | true =>
       simp only;cases hn:sz P t with
       | none=>exact aR.fail _
       | some m =>
         simp only;cases hl:lN cl i k m with
         | none=>exact aR.fail _
         | some l =>
           refine aR.atom λhD=>aR.v _ λE w ρ hc hr=> ?_;obtain⟨ob,ho,hb⟩:=hc.2.2 key _ a hk hD.1;rw[hel] at hb;obtain⟨c,ty,fr,rfl,h2⟩:=hb;have hg:=cV hl;have hll:=run_loadCells (P:=P) ho (i*cl.length+k) (l.map (SV.val E)) (λj v hj=>by
            rw[O] at hj;cases hjl:l[j]? with
            | none=>rw[hjl] at hj;cases hj
            | some u =>
              rw[hjl] at hj;cases hj;have:=hg.2 j u hjl;rw[O] at this;cases hcl:cl[k+j]? with
              | none=>rw[hcl] at this;cases this
              | some col =>rw[hcl] at this;cases this;have:=h2 i (k+j) col hD.2 hcl;rw[W,← this];congr 1;omega)
           rw[an,hg.1] at hll;simp[I,hr x _ hx,SV.val,H,loadVar,cO hd,ha,cj hn,hll,SV.bM]
     | false =>
       simp only;cases hv:cl[k]? with
       | none=>exact aR.fail _
       | some col =>refine aR.atom λhD=>aR.v _ λE w ρ hc hr=> ?_;obtain⟨ob,ho,hb⟩:=hc.2.2 key _ a hk hD.1;rw[hel] at hb;obtain⟨c,ty,fr,rfl,h2⟩:=hb;have:=h2 i k col hD.2 hv;rw[c_] at this;simp[I,hr x _ hx,SV.val,H,loadVar,cO hd,ha,cell_of ho,this]
    ·exact aR.fail _
   ·exact aR.fail _
def aeq (f:Field)(P:Program):Option Nat:=match sz P f.type with
 | some (_n+1)=>A f.offset
 | _=>F
def vS (P:Program)(s:TypeId)(x:Option SV)(f:Nat)(K:Option SV->VC):VC :=
 match P.underlying s with
 | some (.struct fs)=>(match fs[f]? with
   | some fd=>(match aeq fd P with
     | some o=>(match x with
       | some (.ptr key ol a)=>K (A (.ptr key ol (a+o)))
       | some (.lS key w i k)=>K (A (.lS key w i (k+o)))
       | some (.i9 key w b i k)=>K (A (.i9 key w b i (k+o)))
       | some (.ga key b i)=>K (A (.ga key b (i+o)))
       | some (.n7 key w b i k)=>K (A (.n7 key w b i (k+o)))
       | _=>.fail "fieldAddr: no pointer")
     | none=>.fail "fieldAddr: a field without cells")
   | none=>.fail "fieldAddr: no such field")
 | _=>.fail "fieldAddr: no struct"
theorem EB {look:l8}(s:TypeId)(x:Operand)(f:Nat) :
  aR P look σ (λρ=>X s (ρ x) f) (vS P s (σ x) f):=by
 unfold vS;split
 ·rename_i fs hd;split
  ·rename_i fd hf;cases ho:aeq fd P with
   | none=>exact aR.fail _
   | some o =>
     have hsz: ∃ n,sz P fd.type=A (n+1)/\fd.offset=o:=by
      unfold aeq at ho;split at ho
      ·rename_i n hn;injection ho with ho;exact⟨n,hn,ho⟩
      ·cases ho
     obtain⟨n,hn,rfl⟩:=hsz;simp only;split
     ·rename_i key ol a hx;refine aR.v _ λE w ρ hc hr=> ?_;simp[X,hr x _ hx,SV.val,H,aI hd,hf,fieldPlace,cj hn,cW]
     ·rename_i key w i k hx;refine aR.v _ λE w ρ hc hr=> ?_;simp[X,hr x _ hx,SV.val,H,aI hd,hf,fieldPlace,cj hn,cW,W]
     ·rename_i key w b i k hx;refine aR.v _ λE w ρ hc hr=> ?_;simp[X,hr x _ hx,SV.val,H,aI hd,hf,fieldPlace,cj hn,cW,W]
     ·rename_i key b i hx;refine aR.v _ λE w ρ hc hr=> ?_;simp[X,hr x _ hx,SV.val,H,aI hd,hf,fieldPlace,cj hn,cW]
     ·rename_i key w b i k hx;refine aR.v _ λE w ρ hc hr=> ?_;simp[X,hr x _ hx,SV.val,H,aI hd,hf,fieldPlace,cj hn,cW,W]
     ·exact aR.fail _
  ·exact aR.fail _
 ·exact aR.fail _
def places (i:Int)(t:Nat->VC):Nat->VC
 | 0=>.tt
 | n+1=>.and (places i t n) (.imp (i=n) (t n))
theorem Dm {i:Int}{t:Nat->VC}: ∀ {n:Nat},0<=i->i<n->((places i t n).holds↔(t i.toNat).holds)
 | 0,h,h'=>by omega
 | n+1,h,h'=>by
   simp only[places,VC.holds];by_cases e:i=n
   ·subst e;simp only[Int.toNat_natCast];constructor
    ·intro x;exact x.2 trivial
    ·intro x;refine⟨?_,λ_=>x⟩;have: ∀ m,m<=n->(places (n:Int) t m).holds:=by
      intro m;induction m with
      | zero=>intro _;exact trivial
      | succ m ih=>intro hm;exact⟨ih (by omega),λe=>by omega⟩
     exact this n (Nat.le_refl _)
   ·have:=Dm (i:=i) (t:=t) (n:=n) h (by omega);rw[this];exact⟨λx=>x.1,λx=>⟨x,λe'=>absurd e' e⟩⟩
def uz (l:Bool)(i:Int)(n:Nat)(t:Nat->VC):VC :=
 match l with
 | true=>if 0<=i/\i<n then t i.toNat else .fail "index out of range"
 | false=>.and (.atom (0<=i/\i<n)) (places i t n)
theorem aR.index {look:l8}{i:Int}{n:Nat}{t:Nat->QT}
  (h:0<=i->i<n->aR P look σ s (t i.toNat)):aR P look σ s (λK=>uz l i n (λj=>t j K)):=by
 unfold uz;cases l with
 | true=>exact aR.ite (λhc=>h hc.1 hc.2) (λ_=>aR.fail _)
 | false =>refine aR.atom λhc=> ?_;obtain⟨obl,sv,h1,h2⟩:=h hc.1 hc.2;exact⟨obl,sv,λK=>by rw[Dm hc.1 hc.2];exact h1 K,h2⟩
def vT (P:Program)(t:TypeId)(x i:Option SV)(K:Option SV->VC):VC :=
 match P.underlying t,i with
 | some (.array len elem),A (.int _ l n)=>(match sz P elem,x with
   | some m,A (.ptr key C o)=>(match l|| !Nat.beq m 1 with
     | true=>uz l n len (λj=>K (A (.ptr key C (o+j*m))))
     | false=>.and (.atom (0<=n/\n<len)) (K (A (.pT key o len n.toNat))))
   | some 1,A (.raw (.pointer (A ⟨g,0,F⟩)))=>.and (.atom (0<=n/\n<len)) (K (A (.raw (.pointer (A ⟨g,n.toNat,F⟩)))))
   | _,_=>.fail "indexAddr: array")
 | some (.slice elem),A (.int _ l n)=>(match sz P elem,x with
   | some m,A (.slc key o len _ _)=>(match l|| !Nat.beq m 1||Nat.blt len 16 with
     | true=>uz l n len (λj=>K (A (.ptr key C (o+j*m))))
     | false=>.and (.atom (0<=n/\n<len)) (K (A (.pT key o len n.toNat))))
   | some m,A (.aX key w _z i0 len _)=>if m=w then .and (.atom (0<=n/\n<len)) (K (A (.lS key w (i0+n.toNat) 0)))else .fail "indexAddr: another row"
   | some m,A (.bE key w _z b i0 len _)=>if m=w then .and (.atom (0<=n/\n<len)) (K (A (.i9 key w b (i0+n.toNat) 0)))else .fail "indexAddr: another row"
   | some m,A (.b7 key w _z b i0 len _)=>if m=w then .and (.atom (0<=n/\n<len)) (K (A (.n7 key w b (i0+n.toNat) 0)))else .fail "indexAddr: another row"
   | _,_=>.fail "indexAddr: slice")
 | _,_=>.fail "indexAddr"
theorem EC {look:l8}(t:TypeId)(x i:Operand) :
  aR P look σ (λρ=>Q t (ρ x) (ρ i)) (vT P t (σ x) (σ i)):=by
 unfold vT;split
 ·rename_i len elem k l n hd hi;split
  ·rename_i m key o hm hx;split
   ·refine aR.index λh0 h1=>aR.v _ λE w ρ hc hr=> ?_;simp[Q,hr x _ hx,hr i _ hi,SV.val,asIntOf,H,aI hd,cj hm,h0,h1,cW]
   ·rename_i hcond;have hm1:m=1:=by simp at hcond;exact hcond.2
    refine aR.atom λh0=>aR.v _ λE w ρ hc hr=> ?_;simp[Q,hr x _ hx,hr i _ hi,SV.val,asIntOf,H,aI hd,cj hm,h0.1,h0.2,cW,hm1]
  ·rename_i g hm hx;refine aR.atom λh0=>aR.v _ λE w ρ hc hr=> ?_;simp[Q,hr x _ hx,hr i _ hi,SV.val,asIntOf,H,aI hd,cj hm,h0.1,h0.2,cW]
  ·exact aR.fail _
 ·rename_i elem k l n hd hi;split
  ·rename_i m key o len cl c hm hx;split
   ·refine aR.index λh0 h1=>aR.v _ λE w ρ hc hr=> ?_;simp[Q,hr x _ hx,hr i _ hi,SV.val,asIntOf,aI hd,cj hm,h0,h1,cW]
   ·rename_i hcond;have hm1:m=1:=by simp at hcond;exact hcond.1.2
    refine aR.atom λh0=>aR.v _ λE w ρ hc hr=> ?_;simp[Q,hr x _ hx,hr i _ hi,SV.val,asIntOf,aI hd,cj hm,h0.1,h0.2,cW,hm1]
  ·rename_i m key w z i0 len c hm hx;refine aR.ite (λe=> ?_) (λ_=>aR.fail _);subst e;refine aR.atom λh0=>aR.v _ λE w ρ hc hr=> ?_
   have hne:R len 0=false:=by cases len with
    | zero=>omega
    | succ n=>rfl
   simp[Q,hr x _ hx,hr i _ hi,SV.val,asIntOf,aI hd,cj hm,h0.1,h0.2,cW,c7,hne]
  ·rename_i m key w z b i0 len c hm hx;refine aR.ite (λe=> ?_) (λ_=>aR.fail _);subst e;refine aR.atom λh0=>aR.v _ λE w ρ hc hr=> ?_
   have hne:R len 0=false:=by cases len with
    | zero=>omega
    | succ n=>rfl
   simp[Q,hr x _ hx,hr i _ hi,SV.val,asIntOf,aI hd,cj hm,h0.1,h0.2,cW,c7,hne,W]
  ·rename_i m key w z b i0 len c hm hx;refine aR.ite (λe=> ?_) (λ_=>aR.fail _);subst e;refine aR.atom λh0=>aR.v _ λE w ρ hc hr=> ?_
   have hne:R len 0=false:=by cases len with
    | zero=>omega
    | succ n=>rfl
   simp[Q,hr x _ hx,hr i _ hi,SV.val,asIntOf,aI hd,cj hm,h0.1,h0.2,cW,c7,hne]
  ·exact aR.fail _
 ·exact aR.fail _
section
variable {P : Program} {look : l8} {σ : Operand -> Option SV}
def sH (k:IntKind)(l:Bool)(n:Int)(K:Option SV->VC):VC :=
 match l with
 | true=>K (A (.int k C (k.wrap n)))
 | false=>match k.signed with
   | true=>.and (.atom (lo k<=n/\n<=hi k)) (K (A (.int k G n)))
   | false=>K (A (.int k G (n% md k)))
theorem mG {k:IntKind}
  (h: ∀ E w ρ,Compat E look w->Reads E σ ρ->(s ρ).run P w=.ok (.int k (k.wrap n)) w):aR P look σ s (sH k l n):=by
 unfold sH;cases l with
 | true=>exact aR.v _ λE w ρ hc hr=>h E w ρ hc hr
 | false =>
   simp only;cases hs:k.signed with
   | true=>exact aR.atom λhb=>aR.v _ λE w ρ hc hr=>by rw[h E w ρ hc hr,uA hb];rfl
   | false=>exact aR.v _ λE w ρ hc hr=>by rw[h E w ρ hc hr,abO hs];rfl
def aaX (rem:Bool)(k:IntKind)(l:Bool)(a:Int)(l':Bool)(b:Int)(K:Option SV->VC):VC :=
 match l&&l' with
 | true=>if b=0 then .fail "division by zero" else(match rem with
   | true=>K (A (.int k C (a.tmod b)))
   | false=>K (A (.int k C (k.wrap (a.tdiv b)))))
 | false=>.and (.atom (0<=a/\a<=hi k/\0<b)) (match rem with
   | true=>K (A (.int k G (a% b)))
   | false=>K (A (.int k G (a / b))))
theorem FQ (k:IntKind):lo k<=0:=by cases k<;>simp[lo]
theorem QW {rem:Bool}{k:IntKind}{a:Int}
  (h: ∀ E w ρ,Compat E look w->Reads E σ ρ->(s ρ).run P w=(Z (if rem then .rem else .quo) k a b).run P w):aR P look σ s (aaX rem k l a l' b):=by
 unfold aaX;cases (l&&l')with
 | true =>
   refine aR.ite (λ_=>aR.fail _) λhb=> ?_;cases rem with
   | true=>exact aR.v _ λE w ρ hc hr=>by rw[h E w ρ hc hr];simp[Z,hb,SV.val]
   | false=>exact aR.v _ λE w ρ hc hr=>by rw[h E w ρ hc hr];simp[Z,hb,SV.val]
 | false =>
   refine aR.atom fun⟨h0,h1,h2⟩=> ?_;have hb:b≠0:=by omega
   cases rem with
   | true=>exact aR.v _ λE w ρ hc hr=>by rw[h E w ρ hc hr];simp[Z,hb,SV.val,Int.tmod_eq_emod_of_nonneg h0]
   | false =>
     refine aR.v _ λE w ρ hc hr=> ?_;have e:k.wrap (a.tdiv b)=a / b:=by rw[Int.tdiv_eq_ediv_of_nonneg h0];have:a / b<=a:=Int.ediv_le_self b h0;have:0<=a / b:=Int.ediv_nonneg h0 (by omega);exact uA ⟨by have:=FQ k;omega,by omega⟩
     rw[h E w ρ hc hr];simp[Z,hb,SV.val,e]
def IN (left:Bool)(k:IntKind)(l:Bool)(a:Int)(l':Bool)(b:Int)(K:Option SV->VC):VC :=
 match l' with
 | true=>if b<0 then .fail "negative shift" else(match left with
   | true=>sH k l (a*(2^ (min b.toNat k.bits):Nat)) K
   | false=>K (A (.int k l (a / (2^ (min b.toNat k.bits):Nat)))))
 | false=>.fail "shift by a number that is not known"
theorem Gg {left:Bool}{k yk:IntKind}{a:Int}
  (h: ∀ E w ρ,Compat E look w->Reads E σ ρ->(s ρ).run P w=(c5 (if left then .shl else .shr) k a yk b).run P w):aR P look σ s (IN left k l a l' b):=by
 unfold IN;cases l' with
 | false=>exact aR.fail _
 | true =>
   refine aR.ite (λ_=>aR.fail _) λhb=> ?_;cases left with
   | true=>exact mG λE w ρ hc hr=>by rw[h E w ρ hc hr];simp[c5,hb]
   | false =>refine aR.v _ λE w ρ hc hr=> ?_;rw[h E w ρ hc hr];simp only[c5,hb,if_false,aW,S,SV.val];rw[Int.fdiv_eq_ediv_of_nonneg _ (Int.pow_nonneg (by decide))];simp
def bitsOf (op:BinOp)(a b:Int):Int :=
 match op with
 | .and=>Int.ofNat (a.toNat &&& b.toNat)
 | .or=>Int.ofNat (a.toNat ||| b.toNat)
 | _=>Int.ofNat (a.toNat ^^^ b.toNat)
def Gf (op:BinOp)(k:IntKind)(l:Bool)(a b:Int)(K:Option SV->VC):VC :=
 match l with
 | true=>if 0<=a/\a<=hi k/\0<=b/\b<=hi k then K (A (.int k C (bitsOf op a b)))else .fail "bits: below zero"
 | false=>.and (.atom (0<=a/\a<=hi k/\0<=b/\b<=hi k)) (K (A (.int k G (bitsOf op a b))))
theorem hi_lt (k:IntKind):hi k<2^ k.bits:=by cases k<;>decide
theorem toNat_ofInt {w:Nat}{a:Int}(h0:0<=a)(h1:a<2^ w):(BitVec.ofInt w a).toNat=a.toNat:=by rw[BitVec.toNat_ofInt];congr 1;exact Int.emod_eq_of_lt h0 (by exact_mod_cast h1)
theorem Jy (hop:op=.and∨op=.or∨op=.xor){k:IntKind}{a:Int}(h:0<=a/\a<=hi k/\0<=b/\b<=hi k)(w:World) :
  (Y op k a b).run P w=.ok (.int k (bitsOf op a b)) w:=by
 obtain⟨a0,a1,b0,b1⟩:=h;have hk:=hi_lt k;have ea:=toNat_ofInt (w:=k.bits) a0 (by omega);have eb:=toNat_ofInt (w:=k.bits) b0 (by omega)
 have la:a.toNat<2^ k.bits:=by have:(a.toNat:Int)<((2^ k.bits:Nat):Int):=by rw[Int.toNat_of_nonneg a0];push_cast;omega
                               exact_mod_cast this
 have lb:b.toNat<2^ k.bits:=by have:(b.toNat:Int)<((2^ k.bits:Nat):Int):=by rw[Int.toNat_of_nonneg b0];push_cast;omega
                               exact_mod_cast this
 have hh:(hi k).toNat+1=2^ k.bits∨(hi k).toNat+1=2^ (k.bits - 1):=by cases k<;>simp[hi,cy]
 have key: ∀ n:Nat,n<=(hi k).toNat->k.wrap (n:Int)=n:=λn hn=>uA ⟨by have:=FQ k;omega,by
  have:0<=hi k:=by cases k<;>simp[hi]
  omega⟩
 have ba:a.toNat<=(hi k).toNat:=by omega
 have bb:b.toNat<=(hi k).toNat:=by omega
 have hand:a.toNat &&& b.toNat<=(hi k).toNat:=Nat.le_trans Nat.and_le_left ba;have two: ∃ m,(hi k).toNat+1=2^ m:=by rcases hh with h | h<;>exact⟨_,h⟩
 obtain⟨m,hm⟩:=two;have hor:a.toNat ||| b.toNat<=(hi k).toNat:=by have:=Nat.or_lt_two_pow (x:=a.toNat) (y:=b.toNat) (n:=m) (by omega) (by omega);omega
 have hxor:a.toNat ^^^ b.toNat<=(hi k).toNat:=by have:=Nat.xor_lt_two_pow (x:=a.toNat) (y:=b.toNat) (n:=m) (by omega) (by omega);omega
 rcases hop with rfl | rfl | rfl
 ·simp only[Y,bitsOf,S,BitVec.toNat_and,ea,eb];rw[key _ hand];rfl
 ·simp only[Y,bitsOf,S,BitVec.toNat_or,ea,eb];rw[key _ hor];rfl
 ·simp only[Y,bitsOf,S,BitVec.toNat_xor,ea,eb];rw[key _ hxor];rfl
theorem xC (hop:op=.and∨op=.or∨op=.xor){k:IntKind}{a:Int}
  (h: ∀ E w ρ,Compat E look w->Reads E σ ρ->(s ρ).run P w=(Y op k a b).run P w):aR P look σ s (Gf op k l a b):=by
 unfold Gf;cases l with
 | true=>exact aR.ite (λhb=>aR.v _ λE w ρ hc hr=>by rw[h E w ρ hc hr,Jy hop hb];rfl) (λ_=>aR.fail _)
 | false=>exact aR.atom λhb=>aR.v _ λE w ρ hc hr=>by rw[h E w ρ hc hr,Jy hop hb];rfl
def aex (op:BinOp)(k:IntKind)(l:Bool)(a:Int)(l':Bool)(b:Int)(K:Option SV->VC):VC :=
 match op with
 | .add=>sH k (l&&l') (a+b) K
 | .sub=>sH k (l&&l') (a - b) K
 | .mul=>sH k (l&&l') (a*b) K
 | .quo=>aaX G k l a l' b K
 | .rem=>aaX C k l a l' b K
 | .and=>Gf .and k (l&&l') a b K
 | .or=>Gf .or k (l&&l') a b K
 | .xor=>Gf .xor k (l&&l') a b K
 | .eql=>K (A (.bool (l&&l') (N (a=b))))
 | .neq=>K (A (.bool (l&&l') (!decide (a=b))))
 | .lss=>K (A (.bool (l&&l') (N (a<b))))
 | .leq=>K (A (.bool (l&&l') (N (a<=b))))
 | .gtr=>K (A (.bool (l&&l') (N (b<a))))
 | .geq=>K (A (.bool (l&&l') (N (b<=a))))
 | _=>.fail "binOp: integers"
def W8:Int:=9223372036854775807
def cat (a b:f_):f_:=a++b
def aeB (op:BinOp)(l:Bool)(a b:f_)(K:Option SV->VC):VC :=
 match op with
 | .add=>match l with
   | true=>if(a.length:Int)+b.length<=W8 then K (A (.str C (a++b)))else .fail "a text that is too long"
   | false=>.and (.atom ((a.length:Int)+b.length<=9223372036854775807)) (K (A (.str G (cat a b))))
 | .eql=>K (A (.bool l (N (a=b))))
 | .neq=>K (A (.bool l (!decide (a=b))))
 | .lss=>K (A (.bool l (cT a b)))
 | .leq=>K (A (.bool l (cT a b||decide (a=b))))
 | .gtr=>K (A (.bool l (!(cT a b||decide (a=b)))))
 | .geq=>K (A (.bool l (!Op.bytesLess a b)))
 | _=>.fail "binOp: texts"
theorem G6 (a b:f_):(T a.toArray)++(T b.toArray)=T (a++b).toArray:=by apply er;rw[ep];simp
theorem imax:IntKind.i64.max=9223372036854775807:=by decide
theorem aa2 {a b:f_}
  (h: ∀ E w ρ,Compat E look w->Reads E σ ρ->(s ρ).run P w=(b! op ⟨a.toArray⟩ ⟨b.toArray⟩).run P w):aR P look σ s (aeB op l a b):=by
 have he:(a==b)=N (a=b):=by by_cases e:a=b<;>simp[e]
 have sa:(T a.toArray).size=a.length:=by simp[cx]
 have sb:(T b.toArray).size=b.length:=by simp[cx]
 unfold aeB;cases op
 case add =>
  have go:(a.length:Int)+b.length<=9223372036854775807->∀ w,(b! .add ⟨a.toArray⟩ ⟨b.toArray⟩).run P w=.ok (.string ⟨(a++b).toArray⟩) w:=λhb w=>by simp only[b!,sa,sb,imax,G6];rw[s_ (by omega)];rfl
  cases l with
  | true=>exact aR.ite (λhb=>aR.v _ λE w ρ hc hr=>by rw[h E w ρ hc hr,go hb];rfl) (λ_=>aR.fail _)
  | false=>exact aR.atom λhb=>aR.v _ λE w ρ hc hr=>by rw[h E w ρ hc hr,go hb];rfl
 all_goals first
  | exact aR.fail _
  | (refine aR.v _ λE w ρ hc hr=> ?_;rw[h E w ρ hc hr];simp[b!,SV.val,he])
end
def nY (x:Bool×Bool)(y:Option (Bool×Bool)):Option (Bool×Bool) :=
 match x with
 | (C,G)=>A (C,G)
 | (l,b)=>match y with
   | some (l',b')=>A (l&&l',b&&b')
   | none=>F
def partOf (P:Program)(t:TypeId)(cs:List SV)(off:Nat):Option SV :=
 match P.underlying t with
 | none=>F
 | some d=>match fS d with
   | true=>match sz P t with
     | some n=>match ic cs off n with
       | some l=>A (.agg l)
       | none=>F
     | none=>F
   | false=>cs[off]?
theorem iA {cs:List SV}{off:Nat}{v:SV}(h:partOf P t cs off=A v) :
  (part t (SV.vals E cs).toArray off).run P w=.ok (v.val E) w:=by
 unfold partOf at h;split at h
 ·cases h
 ·rename_i d hd;split at h
  ·rename_i ha;split at h
   ·rename_i n hn;split at h
    ·rename_i l hl;cases h;have hg:=cV hl;simp only[part,J,cO hd,ha,L,if_true,cj hn,S,SV.val,SV.bM];congr 2;apply Array.ext';simp only[Array.toList_extract,List.toList_toArray,List.extract_eq_take_drop];rw[show off+n - off=n by omega,List.map_drop.symm,List.map_take.symm];congr 1;apply List.ext_getElem?;intro j;rw[List.getElem?_take];split
     ·rename_i hj;rw[List.getElem?_drop];obtain⟨u,hu⟩: ∃ u,l[j]?=A u:=⟨l[j]'(by omega),V _⟩
      rw[hu,hg.2 j u hu]
     ·rw[List.getElem?_eq_none (by omega)]
    ·cases h
   ·cases h
  ·rename_i ha;simp only[part,J,cO hd,ha,L,SV.bM];simp[h]
def eqv (P:Program):Nat->TypeId->SV->SV->Option (Bool×Bool)
 | 0,_,_,_=>F
 | d+1,t,x,y =>
   match P.underlying t,x,y with
   | some .bool,.bool l a,.bool l' b=>A (l&&l',a==b)
   | some (.int _),.int k l a,.int k' l' b=>if k=k' then A (l&&l',N (a=b))else F
   | some .string,.str l a,.str l' b=>A (l&&l',N (a=b))
   | some (.pointer _),.cD,.cD=>A (C,C)
   | some (.pointer _),.cD,.ptr .. =>A (C,G)
   | some (.pointer _),.ptr ..,.cD=>A (C,G)
   | some (.pointer _),.cD,.lS .. =>A (C,G)
   | some (.pointer _),.lS ..,.cD=>A (C,G)
   | some (.pointer e),.ptr key ol o,.ptr key' ol' o'=>match sz P e with
     | some (_+1)=>if key=key' then A (ol&&ol',N (o=o'))else F
     | _=>F
   | some (.interface _),.aC,.aC=>A (C,C)
   | some (.interface _),.aC,.iface .. =>A (C,G)
   | some (.interface _),.iface ..,.aC=>A (C,G)
   | some (.interface _),.iface tx vx,.iface ty vy=>if tx=ty then(match P.info? tx with
      | some i=>if i.comparable then eqv P d tx vx vy else F
      | none=>F)else A (C,G)
   | some (.slice _),.aO,.aO=>A (C,C)
   | some (.slice _),.aO,.slc .. =>A (C,G)
   | some (.slice _),.slc ..,.aO=>A (C,G)
   | some (.slice _),.aO,.aX _ _ z _ n _=>A (!z,z&&R n 0)
   | some (.slice _),.aX _ _ z _ n _,.aO=>A (!z,z&&R n 0)
   | some (.map _ _),.fU,.fU=>A (C,C)
   | some (.map _ _),.map _,.fU=>A (C,G)
   | some (.func _ _ _),.fM,.fM=>A (C,C)
   | some (.func _ _ _),.fM,.func .. =>A (C,G)
   | some (.func _ _ _),.func ..,.fM=>A (C,G)
   | some (.struct fs),.agg xs,.agg ys=>if P.stoodInHeld t then F else
      fs.toList.foldr (λf acc=>if f.name= "_" then acc else match partOf P f.type xs f.offset,partOf P f.type ys f.offset with
       | some u,A v=>match eqv P d f.type u v with
         | some r=>nY r acc
         | none=>F
       | _,_=>F) (A (C,C))
   | some (.array len elem),.agg xs,.agg ys=>match sz P elem with
     | some n=>(ek len).foldr (λi acc=>match partOf P elem xs (i*n),partOf P elem ys (i*n)with
        | some u,A v=>match eqv P d elem u v with
          | some r=>nY r acc
          | none=>F
        | _,_=>F) (A (C,C))
     | none=>F
   | some (.pointer _),.cD,.i9 .. =>A (C,G)
   | some (.pointer _),.i9 ..,.cD=>A (C,G)
   | some (.slice _),.aO,.bE _ _ z _ _ n _=>A (G,z&&R n 0)
   | some (.slice _),.bE _ _ z _ _ n _,.aO=>A (G,z&&R n 0)
   | some (.pointer _),.cD,.ga .. =>A (C,G)
   | some (.pointer _),.ga ..,.cD=>A (C,G)
   | _,_,_=>F
theorem Hv {d d':Nat}{xs ys:List SV}
  (ih: ∀ t x y l b,eqv P d t x y=A (l,b)->(M d' t (x.val E) (y.val E)).run P w=.ok b w/\(l=C->True)) :
  ∀(fs:List Field) (l b:Bool),fs.foldr (λf acc=>if f.name= "_" then acc else match partOf P f.type xs f.offset,partOf P f.type ys f.offset with
      | some u,A v=>match eqv P d f.type u v with
        | some r=>nY r acc
        | none=>F
      | _,_=>F) (A (C,C))=A (l,b) ->
   (b6 d' (SV.vals E xs).toArray (SV.vals E ys).toArray fs).run P w=.ok b w:=by
 intro fs;induction fs with
 | nil=>intro l b h;simp at h;obtain⟨rfl,rfl⟩:=h;simp[b6]
 | cons f r ihl =>
   intro l b h;simp only[ei] at h;by_cases hn:f.name= "_"
   ·rw[r_ hn] at h;simp only[b6];rw[s_ (by simp[hn])];exact ihl l b h
   ·rw[s_ hn] at h;simp only[b6];rw[r_ hn];split at h
    ·rename_i u v hu hv;split at h
     ·rename_i q hq;obtain⟨ql,qb⟩:=q;have hr:=(ih _ _ _ _ _ hq).1;simp only[J,iA hu,iA hv,L,hr,ef];cases qb with
      | false =>
        simp only[c!,if_true,S];unfold nY at h;split at h
        ·injection h with h;injection h with _ h;rw[h]
        ·rename_i l0 b0 _ heq;injection heq with e1 e2;subst e1;subst e2;split at h
         ·injection h with h;injection h with _ h;simp at h;rw[h]
         ·cases h
      | true =>
        simp only[bf,aW,if_false];unfold nY at h;split at h
        ·rename_i heq;cases heq
        ·rename_i l0 b0 _ heq;injection heq with e1 e2;subst e1;subst e2;split at h
         ·rename_i l' b' hacc;injection h with h;injection h with _ h;simp at h;subst h;exact ihl _ _ hacc
         ·cases h
     ·cases h
    ·cases h
theorem JX {d d' n:Nat}{xs ys:List SV}
  (ih: ∀ t x y l b,eqv P d t x y=A (l,b)->(M d' t (x.val E) (y.val E)).run P w=.ok b w) :
  ∀(fs:List Nat) (l b:Bool),fs.foldr (λi acc=>match partOf P t xs (i*n),partOf P t ys (i*n)with
      | some u,A v=>match eqv P d t u v with
        | some r=>nY r acc
        | none=>F
      | _,_=>F) (A (C,C))=A (l,b) ->
   (c4 d' t n (SV.vals E xs).toArray (SV.vals E ys).toArray fs).run P w=.ok b w:=by
 intro fs;induction fs with
 | nil=>intro l b h;simp at h;obtain⟨rfl,rfl⟩:=h;simp[c4]
 | cons f r ihl =>
   intro l b h;simp only[ei] at h;simp only[c4];split at h
   ·rename_i u v hu hv;split at h
    ·rename_i q hq;obtain⟨ql,qb⟩:=q;have hr:=ih _ _ _ _ _ hq;simp only[J,iA hu,iA hv,L,hr,ef];cases qb with
     | false =>
       simp only[c!,if_true,S];unfold nY at h;split at h
       ·injection h with h;injection h with _ h;rw[h]
       ·rename_i l0 b0 _ heq;injection heq with e1 e2;subst e1;subst e2;split at h
        ·injection h with h;injection h with _ h;simp at h;rw[h]
        ·cases h
     | true =>
       simp only[bf,aW,if_false];unfold nY at h;split at h
       ·rename_i heq;cases heq
       ·rename_i l0 b0 _ heq;injection heq with e1 e2;subst e1;subst e2;split at h
        ·rename_i l' b' hacc;injection h with h;injection h with _ h;simp at h;subst h;exact ihl _ _ hacc
        ·cases h
    ·cases h
   ·cases h
set_option maxHeartbeats 2000000 in
theorem Qa : ∀(d:Nat) (t:TypeId) (x y:SV) (l b:Bool),eqv P d t x y=A (l,b)->∀ e,(M (d+e) t (x.val E) (y.val E)).run P w=.ok b w:=by
 intro d;induction d with
 | zero=>intro t x y l b h;simp[eqv] at h
 | succ d ih =>
   intro t x y l b h e;rw[show d+1+e=(d+e)+1 by omega];unfold eqv at h;split at h
   case h_1=>rename_i hd;cases h;simp[M,aI hd,SV.val]
   case h_2 =>
    rename_i k l0 a k' l1 b1 hd;split at h
    ·rename_i hk;subst hk;cases h;simp[M,aI hd,SV.val];by_cases e:a=b1<;>simp[e]
    ·cases h
   case h_3 =>rename_i l0 a l1 b1 hd;cases h;simp[M,aI hd,SV.val,beq_toListBytes];by_cases e:a=b1<;>simp[e]
   case h_9 =>
    rename_i el key ol o key' ol' o' hd;split at h
    ·rename_i n hn;split at h
     ·rename_i hk;subst hk;cases h;simp[M,aI hd,SV.val,cj hn,sameAddr];by_cases e:o=o'<;>simp[e]
     ·cases h
    ·cases h
   case h_13 =>
    rename_i ms tx vx ty vy hd;split at h
    ·rename_i ht;subst ht;split at h
     ·rename_i i hi;split at h
      ·rename_i hcmp;simp only[M,J,aI hd,SV.val,L,ne_eq,not_true_eq_false,if_false,jU hi,hcmp,bf,aW];exact ih _ _ _ _ _ h e
      ·cases h
     ·cases h
    ·rename_i ht;cases h;simp[M,aI hd,SV.val,ht]
   case h_24 =>
    rename_i fs xs ys hd;split at h
    ·cases h
    ·rename_i hs;have hf:P.fieldsOf t=fs:=by simp[Program.fieldsOf,hd]
     have:=run_equalIn_struct (P:=P) w (d+e) t (SV.vals E xs).toArray (SV.vals E ys).toArray (by rw[hf];exact hd) (by simpa using hs);simp only[SV.val];rw[this,hf];exact Hv (λt x y l b hq=>⟨ih t x y l b hq e,λ_=>trivial⟩) fs.toList l b h
   case h_25 =>
    rename_i len elem xs ys hd;split at h
    ·rename_i n hn;have hn': ∃ i,P.info? elem=A i/\P.cellsOf elem=n:=by
      unfold sz at hn;split at hn
      ·rename_i i hi;injection hn with hn;exact⟨i,hi,by simp[Program.cellsOf,hi,hn]⟩
      ·cases hn
     obtain⟨i,hi,hc⟩:=hn';simp only[SV.val];rw[run_equalIn_array w (d+e) (SV.vals E xs).toArray (SV.vals E ys).toArray hd hi,hc];exact JX (λt x y l b hq=>ih t x y l b hq e) (ek len) l b h
    ·cases h
   all_goals first
    | (cases h;done)
    | (rename_i z _ n _ hd;cases hz:z&&R n 0<;>rw[hz] at h<;>injection h with h<;>injection h with _ h<;>subst h<;>simp only[M,J,aI hd,SV.val,L,hz,cond_true,cond_false]<;>rfl)
    | (rename_i z _ _ n _ hd;cases hz:z&&R n 0<;>rw[hz] at h<;>injection h with h<;>injection h with _ h<;>subst h<;>simp only[M,J,aI hd,SV.val,L,hz,cond_true,cond_false]<;>rfl)
    | (rename_i hd;cases h;simp only[M,J,aI hd,SV.val,L];rfl)
    | (rename_i hd;cases h;simp[M,aI hd,SV.val];done)
section
variable {P : Program} {look : l8} {σ : Operand -> Option SV}
def isConst:Operand->Bool
 | .const _=>C
 | _=>G
def SV.gen:SV->Bool
 | .int .. | .str .. | .raw _=>G
 | _=>C
def mB (P:Program)(t:TypeId)(c:Bool)(x y:SV):Bool :=
 x.gen&&y.gen&&(match x,y with
 | .aC,.aC=>c
 | .agg _,.agg _=>!P.eqGuardType P.depth t
 | _,_=>C)
theorem uO {y:Operand}{b:SV}(h:mB P t (isConst x||isConst y) a b=C) :
  (eqGuard op t x y (a.val E) (b.val E)).run P w=.ok () w:=by
 unfold eqGuard mB at *;cases op
 all_goals try rfl
 all_goals
  simp only[bf,aW,if_false];split at h
  ·simp only[a!] at h;have:=h.2;simp only[SV.val];cases x<;>cases y<;>simp_all [isConst]
  ·simp only[a!] at h;have:=h.2;simp only[SV.val];simp at this;simp[this]
  ·rename_i h1 h2
   cases a<;>cases b<;>simp only[SV.val]<;>first
    | rfl
    | (exact(h1 rfl rfl).elim)
    | (exact(h2 _ _ rfl rfl).elim)
    | (simp[SV.gen] at h;done)
theorem binOp_eql {b:SV}(ha:a.gen=C)(_hb:b.gen=C) :
  binOp .eql t (a.val E) (b.val E)=(do pure (.bool (← b9 t (a.val E) (b.val E))):Sem Value) /\
  binOp .neq t (a.val E) (b.val E)=(do pure (.bool (!(← b9 t (a.val E) (b.val E)))):Sem Value):=by
 cases a<;>first | (simp[SV.gen] at ha;done) | (simp only[SV.val];exact⟨rfl,rfl⟩)
def aev (P:Program)(op:BinOp)(t:TypeId)(c:Bool)(x y:SV)(K:Option SV->VC):VC :=
 match op,x,y with
 | .shl,.int k l a,.int _ l' b=>IN C k l a l' b K
 | .shr,.int k l a,.int _ l' b=>IN G k l a l' b K
 | op,.int k l a,.int k' l' b=>if k=k' then aex op k l a l' b K else .fail "binOp: kinds"
 | op,.str l a,.str l' b=>aeB op (l&&l') a b K
 | .eql,x,y=>if mB P t c x y then(match eqv P 50 t x y with
    | some (l,b)=>K (A (.bool l b))
    | none=>.fail "eql")else .fail "eql: guard"
 | .neq,x,y=>if mB P t c x y then(match eqv P 50 t x y with
    | some (l,b)=>K (A (.bool l (!b)))
    | none=>.fail "neq")else .fail "neq: guard"
 | _,_,_=>.fail "binOp"
theorem aaY {k:IntKind}{a:Int}(h1:op≠.shl)(h2:op≠.shr)
  (h: ∀ E w ρ,Compat E look w->Reads E σ ρ->(s ρ).run P w=(binOp op 0 (.int k a) (.int k b)).run P w):aR P look σ s (aex op k l a l' b):=by
 unfold aex
 have hb: ∀ w,(binOp op 0 (.int k a) (.int k b)).run P w=(match op with
   | .add | .sub | .mul=>b_ op k a b
   | .quo | .rem=>Z op k a b
   | .and | .or | .xor | .andNot=>Y op k a b
   | _=>ec op a b:Sem Value).run P w:=by
  intro w;cases op<;>first | (exact absurd rfl h1) | (exact absurd rfl h2) | simp[binOp]
 cases op
 case add=>exact mG λE w ρ hc hr=>by rw[h E w ρ hc hr,hb];simp[b_]
 case sub=>exact mG λE w ρ hc hr=>by rw[h E w ρ hc hr,hb];simp[b_]
 case mul=>exact mG λE w ρ hc hr=>by rw[h E w ρ hc hr,hb];simp[b_]
 case quo=>exact QW (rem:=G) λE w ρ hc hr=>by rw[h E w ρ hc hr,hb];rfl
 case rem=>exact QW (rem:=C) λE w ρ hc hr=>by rw[h E w ρ hc hr,hb];rfl
 case and=>exact xC (.inl rfl) λE w ρ hc hr=>by rw[h E w ρ hc hr,hb]
 case or=>exact xC (.inr (.inl rfl)) λE w ρ hc hr=>by rw[h E w ρ hc hr,hb]
 case xor=>exact xC (.inr (.inr rfl)) λE w ρ hc hr=>by rw[h E w ρ hc hr,hb]
 case shl=>exact absurd rfl h1
 case shr=>exact absurd rfl h2
 case andNot=>exact aR.fail _
 all_goals (refine aR.v _ λE w ρ hc hr=> ?_;rw[h E w ρ hc hr,hb];simp[ec,SV.val])
 all_goals (by_cases e:a=b<;>simp[e])
theorem ML {u:TypeId}{k k':IntKind}{a:Int}:binOp op t (.int k a) (.int k' b)=binOp op u (.int k a) (.int k' b):=by cases op<;>rfl
theorem aaV {_yt:TypeId}{y:Operand}{b:SV}(hx:σ x=A a)(hy:σ y=A b) :
  aR P look σ (λρ=>do eqGuard op t x y (ρ x) (ρ y);binOp op t (ρ x) (ρ y)) (aev P op t (isConst x||isConst y) a b):=by
 have hi: ∀ {k k':IntKind} {n m:Int} {w:World},(do eqGuard op t x y (.int k n) (.int k' m);binOp op t (.int k n) (.int k' m):Sem Value).run P w=(binOp op t (.int k n) (.int k' m)).run P w:=by
  intro k k' n m w;simp only[J];have:(eqGuard op t x y (.int k n) (.int k' m)).run P w=.ok () w:=by unfold eqGuard;split<;>simp
  rw[this];rfl
 unfold aev;split
 ·rename_i k l n k' l' m;exact Gg (left:=C) (yk:=k') λE w ρ hc hr=>by rw[hr x _ hx,hr y _ hy];simp only[SV.val];rw[hi];rfl
 ·rename_i k l n k' l' m;exact Gg (left:=G) (yk:=k') λE w ρ hc hr=>by rw[hr x _ hx,hr y _ hy];simp only[SV.val];rw[hi];rfl
 ·rename_i op' k l n k' l' m h1 h2;refine aR.ite (λe=> ?_) (λ_=>aR.fail _);subst e;exact aaY h1 h2 λE w ρ hc hr=>by rw[hr x _ hx,hr y _ hy];simp only[SV.val];rw[hi,ML]
 ·rename_i op' l n l' m;refine aa2 λE w ρ hc hr=> ?_;rw[hr x _ hx,hr y _ hy];simp only[SV.val,J];have:(eqGuard op t x y (.string ⟨n.toArray⟩) (.string ⟨m.toArray⟩)).run P w=.ok () w:=by unfold eqGuard;split<;>simp
  rw[this];cases op<;>rfl
 ·rename_i a' b' _ _;refine aR.ite (λhg=> ?_) (λ_=>aR.fail _);split
  ·rename_i l v he;refine aR.v _ λE w ρ hc hr=> ?_;have hq:=Qa (E:=E) (w:=w) 50 t a b l v he (ag - 50);have hg':=hg;unfold mB at hg';simp only[a!] at hg';rw[hr x _ hx,hr y _ hy];simp only[J,uO hg,L];rw[(binOp_eql hg'.1.1 hg'.1.2).1];simp only[J,b9];rw[show ag=50+(ag - 50)from rfl,hq];rfl
  ·exact aR.fail _
 ·rename_i a' b' _ _;refine aR.ite (λhg=> ?_) (λ_=>aR.fail _);split
  ·rename_i l v he;refine aR.v _ λE w ρ hc hr=> ?_;have hq:=Qa (E:=E) (w:=w) 50 t a b l v he (ag - 50);have hg':=hg;unfold mB at hg';simp only[a!] at hg';rw[hr x _ hx,hr y _ hy];simp only[J,uO hg,L];rw[(binOp_eql hg'.1.1 hg'.1.2).2];simp only[J,b9];rw[show ag=50+(ag - 50)from rfl,hq];rfl
  ·exact aR.fail _
 ·exact aR.fail _
def qun (op:UnOp)(x:SV)(K:Option SV->VC):VC :=
 match op,x with
 | .not,.bool l b=>K (A (.bool l (!b)))
 | .neg,.int k l n=>sH k l (0 - n) K
 | .xor,.int k l n=>(match k.signed with
   | false=>Gf .xor k l (hi k) n K
   | true=>.fail "unOp")
 | _,_=>.fail "unOp"
theorem aej {k:IntKind}(h:k.signed=G):k.max=hi k:=by cases k<;>first | rfl | (simp[b5] at h;done)
theorem aeC {op:UnOp}(hx:σ x=A a):aR P look σ (λρ=>Op.unary op (ρ x)) (qun op a):=by
 unfold qun;split
 ·exact aR.v _ λE w ρ hc hr=>by rw[hr x _ hx];rfl
 ·exact mG λE w ρ hc hr=>by rw[hr x _ hx];rfl
 ·rename_i k l n;cases hs:k.signed with
  | true=>exact aR.fail _
  | false =>refine xC (.inr (.inr rfl)) λE w ρ hc hr=> ?_;rw[hr x _ hx];simp only[SV.val,Op.unary,hs,aej hs];rfl
 ·exact aR.fail _
def fits:IntKind->IntKind->Bool
 | .u8,.u16 | .u8,.u32 | .u8,.u64 | .u16,.u32 | .u16,.u64 | .u32,.u64=>C
 | a,b=>decide (a=b)
def XL (P:Program)(src dst:TypeId)(x:SV)(K:Option SV->VC):VC :=
 match P.underlying src,P.underlying dst,x with
 | some (.int j),A (.int k),.int _ l n=>match l|| !fits j k with
   | true=>sH k l n K
   | false=>.and (.atom (lo k<=n/\n<=hi k)) (K (A (.int k G n)))
 | some .string,A .string,.str l s=>K (A (.str l s))
 | _,_,_=>.fail "convert"
theorem XM {src dst:TypeId}(hx:σ x=A a):aR P look σ (λρ=>convert src dst (ρ x)) (XL P src dst a):=by
 unfold XL;split
 ·rename_i j k k' l n hs hd;have hrun: ∀ w,(convert src dst (.int k' n)).run P w=.ok (.int k (k.wrap n)) w:=λw=>by simp only[convert,J,aI hs,aI hd,L];rfl
  split
  ·exact mG λE w ρ hc hr=>by rw[hr x _ hx];exact hrun w
  ·exact aR.atom λhb=>aR.v _ λE w ρ hc hr=>by rw[hr x _ hx];simp only[SV.val];rw[hrun w,uA hb]
 ·rename_i l s hs hd;exact aR.v _ λE w ρ hc hr=>by rw[hr x _ hx];simp only[SV.val,convert,J,aI hs,aI hd,L];rfl
 ·exact aR.fail _
def vU (P:Program)(t:TypeId)(x:SV)(K:Option SV->VC):VC :=
 match P.concrete t with
 | true=>K (A (.iface t x))
 | false=>.fail "makeInterface"
theorem ED (hx:σ x=A a):aR P look σ (λρ=>Instr.makeInterface t (ρ x)) (vU P t a):=by
 unfold vU;split
 ·rename_i h;exact aR.v _ λE w ρ hc hr=>by rw[hr x _ hx,run_makeInterface w t _ h];rfl
 ·exact aR.fail _
def Hx (σ:Operand->Option SV):List Operand->Option (List SV)
 | []=>A []
 | x::r=>match σ x,Hx σ r with
   | some v,A l=>A (v::l)
   | _,_=>F
theorem Qb {σ:Operand->Option SV}{E:Nat->Nat}{ρ:Operand->Value}(hr:Reads E σ ρ): ∀ {xs:List Operand} {l:List SV},Hx σ xs=A l->xs.map ρ=SV.vals E l
 | [],l,h=>by simp[Hx] at h;subst h;rfl
 | x::r,l,h=>by
   simp only[Hx] at h;split at h
   ·rename_i v l' hv hl;cases h;simp[SV.vals,hr x v hv,Qb hr hl]
   ·cases h
theorem nJ {ρ:Operand->Value}(hr:Reads E σ ρ){xs:Array Operand}{l:List SV}(h:Hx σ xs.toList=A l) :
  xs.map ρ=(SV.vals E l).toArray:=by
 rw[← Qb hr h];apply Array.ext';simp
def zB (fn:Fn)(a b:Option (List SV))(K:Option SV->VC):VC :=
 match a,b with
 | some a,A b=>K (A (.func fn a b))
 | _,_=>.fail "makeFunc"
theorem IL {fn:Fn}{xs ys:Array Operand}:aR P look σ (λρ=>Instr.makeFunc fn (xs.map ρ) (ys.map ρ)) (zB fn (Hx σ xs.toList) (Hx σ ys.toList)):=by
 unfold zB;split
 ·rename_i a b ha hb;exact aR.v _ λE w ρ hc hr=>by rw[nJ hr ha,nJ hr hb];rfl
 ·exact aR.fail _
def Dr (x:SV)(i:Nat)(K:Option SV->VC):VC :=
 match x with
 | .aN vs=>(match vs[i]? with
   | some v=>K (A v)
   | none=>.fail "extract")
 | _=>.fail "extract: no tuple"
theorem Ly {i:Nat}(hx:σ x=A a):aR P look σ (λρ=>dm (ρ x) i) (Dr a i):=by
 unfold Dr;split
 ·rename_i vs;split
  ·rename_i v hv;refine aR.v _ λE w ρ hc hr=> ?_;rw[hr x _ hx];simp[SV.val,dm,SV.bM,hv]
  ·exact aR.fail _
 ·exact aR.fail _
def Oq (P:Program)(t:TypeId)(x:SV)(f:Nat)(K:Option SV->VC):VC :=
 match P.underlying t,x with
 | some (.struct fs),.agg cs=>(match fs[f]? with
   | some fd=>(match partOf P fd.type cs fd.offset with
     | some v=>K (A v)
     | none=>.fail "field: no such part")
   | none=>.fail "field: no such field")
 | _,_=>.fail "field"
theorem Tk {f:Nat}(hx:σ x=A a):aR P look σ (λρ=>d_ t (ρ x) f) (Oq P t a f):=by
 unfold Oq;split
 ·rename_i fs cs hd;split
  ·rename_i fd hf;split
   ·rename_i v hv;refine aR.v _ λE w ρ hc hr=> ?_;rw[hr x _ hx];simp[SV.val,d_,aI hd,hf,asAgg,iA hv]
   ·exact aR.fail _
  ·exact aR.fail _
 ·exact aR.fail _
def ai (s:f_)(i:Int):Int:=((s.getD i.toNat 0).toNat:Int)
def Ot (P:Program)(t:TypeId)(x i:SV)(K:Option SV->VC):VC :=
 match P.underlying t,x,i with
 | some .string,.str l s,.int _ l' n=>(match l&&l' with
   | true=>if 0<=n/\n<s.length then K (A (.int .u8 C (ai s n)))else .fail "index out of range"
   | false=>.and (.atom (0<=n/\n<s.length)) (K (A (.int .u8 G (ai s n)))))
 | some (.array len e),.agg cs,.int _ C n=>(match sz P e with
   | some m=>if 0<=n/\n<len then(match partOf P e cs (n.toNat*m)with
     | some v=>K (A v)
     | none=>.fail "index: no such part")else .fail "index out of range"
   | none=>.fail "index")
 | some (.array len e),.agg cs,.int _ G n=>(match sz P e,P.underlying e with
   | some 1,A .string=>(match oz cs with
     | some ss=>.and (.atom (0<=n/\n<len/\n<ss.length)) (K (A (.str G (ck ss n.toNat))))
     | none=>.fail "index: no texts")
   | _,_=>.fail "index")
 | _,_,_=>.fail "index"
theorem xW (hd:P.underlying t=A .string){s:f_}{k:IntKind}(h:0<=n/\n<s.length) :
  (a_ t ((SV.str l s).val E) ((SV.int k l' n).val E)).run P w=.ok (.int .u8 (ai s n)) w:=by
 have hn:n.toNat<s.length:=by omega
 simp only[SV.val,a_,asIntOf,J,S,L,aI hd,h.1,if_true];have e:(T s.toArray)[n.toNat]?=A s[n.toNat]:=by rw[getElem?_pos (T s.toArray) n.toNat (by simpa [cx] using hn)];rfl
 rw[e];simp[ai,List.getD_eq_getElem?_getD,hn]
theorem Tl {i:Operand}{b:SV}(hx:σ x=A a)(hi:σ i=A b):aR P look σ (λρ=>a_ t (ρ x) (ρ i)) (Ot P t a b):=by
 unfold Ot;split
 ·rename_i l s k l' n hd;split
  ·exact aR.ite (λh=>aR.v _ λE w ρ hc hr=>by rw[hr x _ hx,hr i _ hi];exact xW hd h) (λ_=>aR.fail _)
  ·exact aR.atom λh=>aR.v _ λE w ρ hc hr=>by rw[hr x _ hx,hr i _ hi];exact xW hd h
 ·rename_i len e cs k n hd;split
  ·rename_i m hm;refine aR.ite (λh=> ?_) (λ_=>aR.fail _);split
   ·rename_i v hv;refine aR.v _ λE w ρ hc hr=> ?_;rw[hr x _ hx,hr i _ hi];simp[SV.val,a_,asIntOf,aI hd,h.1,h.2,cj hm,iA hv]
   ·exact aR.fail _
  ·exact aR.fail _
 ·rename_i len e cs k n hd;split
  ·rename_i hm he;split
   ·rename_i ss hss;refine aR.atom λh=>aR.v _ λE w ρ hc hr=> ?_;have hl:n.toNat<cs.length:=by rw[← v7 hss];omega
    obtain⟨b,hb⟩:=nw hss n.toNat _ (V hl);have hv:partOf P e cs (n.toNat*1)=A (.str b (ck ss n.toNat)):=by simp only[partOf,he,fS,ct];rw[V hl,hb]
    have hp:=iA (E:=E) (w:=w) hv;rw[hr x _ hx,hr i _ hi];rw[ct] at hp;simp[SV.val,a_,asIntOf,aI hd,h.1,h.2.1,cj hm,hp]
   ·exact aR.fail _
  ·exact aR.fail _
 ·exact aR.fail _
end
end Sx
end Go.Proofs.YtoibaecagklkaaaGreatDoor
