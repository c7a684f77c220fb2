/-
  The framework's second part: operations that leave the world alone.
-/
import Derived.Test.YtoibaecagklkaaaGreatDoorMa
import Derived.Laws.StructEq
import Derived.ChangeKeysEq
import Derived.Laws.Build
open Bool renaming and_eq_true->bh,false->G,false_eq_true->a_,not_false->c!,not_true->bl,true->C
open ByteArray renaming data_append->eu,ext->ey,mk->T,size->cm
open Decidable renaming decide->N
open Go.Instr renaming extract->d_,field->d!,fieldAt->X,index->a!,indexAt->Q,loadAt->I,sureAddr->H
open Go.IntKind renaming bits->cx,signed->bn,wrap->ef
open Go.Op renaming bytesLess->cB,eqFields->b5,eqItems->cL,equal->b6,equalIn->M,intArith->b9,intBits->Y,intCmp->ei,intDiv->Z,maxDepth->ag,shift->c4,stringOp->b_
open Go.Result renaming andThen_ok->L
open Go.Sem renaming run_bind->J,run_ite->ej,run_pure->S
open List renaming foldr_cons->ek,getElem?_eq_getElem->V,getElem?_map->O,length_cons->c5,length_map->an,length_nil->en,range->ep
open Nat renaming add_assoc->W,add_mul->c6,add_zero->er,beq->R,mul_one->b!,zero_add->c_
open Option renaming none->F,some->A
namespace Go.Proofs.YtoibaecagklkaaaGreatDoor
open Go Sx
variable {s:(Operand->Value)->Sem Value}{c:Array Value}{op:BinOp}{l l':Bool}{b n:Int}{E:Nat->Nat}{fr:Nat×Nat}{x:Operand}{σ:Operand->Option SV}{P:Program}{a:SV}{t ty:TypeId}{w:World}
namespace Sx
open Go
theorem aL {d:TypeDesc}(h:P.underlying t=A d):(underlying t).run P w=.ok d w:=by simp[underlying,h]
theorem jn {i:TypeInfo}(h:P.info? t=A i):(typeInfo t).run P w=.ok i w:=by simp[typeInfo,h]
def sz (P:Program)(t:TypeId):Option Nat:=match P.info? t with | some i=>A i.size | none=>F
theorem cu {n:Nat}(h:sz P t=A n):(sizeOf t).run P w=.ok n w:=by
 unfold sz at h;split at h
 ·rename_i i hi;injection h with h;subst h;simp[sizeOf,jn hi]
 ·cases h
def fy:TypeDesc->Bool
 | .struct _=>C
 | .array _ _=>C
 | _=>G
theorem cO {d:TypeDesc}(h:P.underlying t=A d):(isAgg t).run P w=.ok (fy d) w:=by cases d<;>simp[isAgg,aL h,fy]
theorem cQ (b o n:Nat):(⟨b,o,F⟩:Addr).add n=⟨b,o+n,F⟩:=by unfold Addr.add;split<;>simp_all
theorem cell_of {b o:Nat}(h:w.heap[b]?=A (.cells c ty fr)) :
  w.cell? ⟨b,o,F⟩=c[o]?:=by
 simp[World.cell?,h]
theorem run_loadCellsFrom {b:Nat}(h:w.heap[b]?=A (.cells c ty fr))(o:Nat) :
  ∀(vs:List Value) (i:Nat) (acc:Array Value),(∀ j v,vs[j]?=A v->c[o+i+j]?=A v) ->
   (loadCellsFrom ⟨b,o,F⟩ i vs.length acc).run P w=.ok (acc++vs.toArray) w:=by
 intro vs;induction vs with
 | nil=>intro i acc _;simp[loadCellsFrom]
 | cons v r ih =>
   intro i acc hv;have h0:=hv 0 v rfl;simp only[c5,loadCellsFrom,J,run_load,cQ,cell_of h];rw[show o+i+0=o+i from rfl] at h0
   rw[h0];simp only[L];rw[ih (i+1) (acc.push v) (λj u hu=>by have:=hv (j+1) u (by simpa using hu);rw[← this];congr 1;omega)];simp
theorem run_loadCells {b:Nat}(h:w.heap[b]?=A (.cells c ty fr))(o:Nat)
  (vs:List Value) (hv: ∀(j:Nat) v,vs[j]?=A v->c[o+j]?=A v) :
  (loadCells ⟨b,o,F⟩ vs.length).run P w=.ok vs.toArray w:=by
 have:=run_loadCellsFrom (P:=P) h o vs 0 #[] (λj v hj=>by simpa using hv j v hj);simpa [loadCells] using this
def gv (cs:List SV)(o n:Nat):Option (List SV) :=
 match o,cs with
 | 0,cs=>(match n,cs with
   | 0,_=>A []
   | n+1,x::r=>(match gv r 0 n with | some l=>A (x::l) | none=>F)
   | _+1,[]=>F)
 | o+1,_::r=>gv r o n
 | _+1,[]=>F
termination_by structural cs
theorem c7: ∀ {cs:List SV} {o n:Nat} {l:List SV},gv cs o n=A l->l.length=n/\∀ j v,l[j]?=A v->cs[o+j]?=A v
 | cs,0,0,l,h=>by cases cs<;>simp[gv] at h<;>subst h<;>simp
 | [],0,n+1,l,h=>by simp[gv] at h
 | x::r,0,n+1,l,h=>by
   simp only[gv] at h;split at h
   ·rename_i l' hl;injection h with h;subst h;have:=c7 hl;refine⟨by simp[this.1],λj v hj=> ?_⟩;cases j with
    | zero=>simpa using hj
    | succ j=>have:=this.2 j v (by simpa using hj);simpa using this
   ·cases h
 | [],o+1,n,l,h=>by simp[gv] at h
 | x::r,o+1,n,l,h=>by simp only[gv] at h;have:=c7 h;refine⟨this.1,λj v hj=> ?_⟩;have:=this.2 j v hj;rw[show o+1+j=(o+j)+1 by omega];simpa using this
abbrev QT:=(Option SV->VC)->VC
abbrev k5:=Nat->Option SB
def Compat (E:Nat->Nat)(look:k5)(w:World):Prop:=(∀ k B,look k=A B->B.no=G->∃ o,w.heap[E k]?=A o/\bS E B o)/\p4 w/\∀ k B a,look k=A B->B.iz (E k) a->∃ o,w.heap[a]?=A o/\bS E (B.el a) o
def Reads (E:Nat->Nat)(σ:Operand->Option SV)(ρ:Operand->Value):Prop:=∀ x v,σ x=A v->ρ x=v.val E
def aW (P:Program)(look:k5)(σ:Operand->Option SV)(s:(Operand->Value)->Sem Value)(t:QT):Prop :=
 ∃(obl:Prop) (sv:Option SV),(∀ K,(t K).holds↔obl/\(K sv).holds) /\
  (∀ E w ρ,Compat E look w->Reads E σ ρ->obl->∃ r,(s ρ).run P w=.ok r w/\∀ v,sv=A v->r=v.val E)
section
variable {P : Program} {look : k5} {σ : Operand -> Option SV} {s : (Operand -> Value) -> Sem Value}
theorem aW.fail (why:String):aW P look σ s (λ_=>.fail why) :=⟨False,F,λ_K=>⟨λh=>h.elim,λh=>h.1.elim⟩,λ_ _ _ _ _ h=>h.elim⟩
theorem aW.k (sv:Option SV)(h: ∀ E w ρ,Compat E look w->Reads E σ ρ->∃ r,(s ρ).run P w=.ok r w/\∀ v,sv=A v->r=v.val E) :
  aW P look σ s (λK=>K sv) :=
 ⟨True,sv,λ_K=>⟨λh=>⟨trivial,h⟩,λh=>h.2⟩,λE w ρ hc hr _=>h E w ρ hc hr⟩
theorem aW.v (v:SV)(h: ∀ E w ρ,Compat E look w->Reads E σ ρ->(s ρ).run P w=.ok (v.val E) w):aW P look σ s (λK=>K (A v)) :=aW.k _ λE w ρ hc hr=>⟨_,h E w ρ hc hr,λv' hv=>by injection hv with hv;rw[hv]⟩
theorem aW.atom {p:Prop}{t:QT}(h:p->aW P look σ s t):aW P look σ s (λK=>.and (.atom p) (t K)):=by
 by_cases hp:p
 ·obtain⟨obl,sv,h1,h2⟩:=h hp;exact⟨obl,sv,λK=>⟨λx=>(h1 K).1 x.2,λx=>⟨hp,(h1 K).2 x⟩⟩,h2⟩
 ·exact⟨False,F,λK=>⟨λx=>(hp x.1).elim,λx=>x.1.elim⟩,λ_ _ _ _ _ h=>h.elim⟩
theorem aW.fork {b:Bool}{t:Bool->QT}(h:aW P look σ s (t b)):aW P look σ s (λK=>Sx.fork b (λc=>t c K)):=by obtain⟨obl,sv,h1,h2⟩:=h;exact⟨obl,sv,λK=>by rw[c9];exact h1 K,h2⟩
theorem aW.ite {c:Prop}[Decidable c]{t u:QT}(h:c->aW P look σ s t)(h': ¬ c->aW P look σ s u) :
  aW P look σ s (λK=>if c then t K else u K):=by
 by_cases hc:c
 ·simp only[hc,if_true];exact h hc
 ·simp only[hc,if_false];exact h' hc
end
def lo:IntKind->Int
 | .i8=> -128 | .i16=> -32768 | .i32=> -2147483648 | .i64=> -9223372036854775808
 | _=>0
def hi:IntKind->Int
 | .i8=>127 | .i16=>32767 | .i32=>2147483647 | .i64=>9223372036854775807
 | .u8=>255 | .u16=>65535 | .u32=>4294967295 | .u64=>18446744073709551615
def md:IntKind->Int
 | .i8 | .u8=>256 | .i16 | .u16=>65536 | .i32 | .u32=>4294967296 | .i64 | .u64=>18446744073709551616
theorem sG {k:IntKind}(h:lo k<=n/\n<=hi k):k.wrap n=n:=by obtain⟨h1,h2⟩:=h;cases k<;>simp only[lo,hi] at h1 h2<;>simp only[ef,cx,bn]<;>simp<;>(try split)<;>omega
theorem Zo {k:IntKind}(hs:k.signed=G)(n:Int):k.wrap n=n% md k:=by cases k<;>simp[bn] at hs<;>simp[ef,cx,bn,md]
def tF (k:IntKind):List SV->Option (List Int)
 | []=>A []
 | .int k' _ n::r=>if k=k' then(match tF k r with
   | some l=>A (n::l)
   | none=>F)else F
 | _::_=>F
def T8:List SV->IntKind
 | .int k _ _::_=>k
 | _=>.i64
def zu (l:List Int)(i:Nat):Int:=l.getD i 0
theorem oP {k:IntKind}: ∀ {cs:List SV} {l:List Int},tF k cs=A l->l.length=cs.length/\∀(i:Nat) (v:SV),cs[i]?=A v->∃ b,v=.int k b (zu l i)
 | [],l,h=>by simp[tF] at h;subst h;exact⟨rfl,λi v hv=>by simp at hv⟩
 | .int k' b n::r,l,h=>by
   simp only[tF] at h;split at h
   ·rename_i e;subst e;split at h
    ·rename_i l' hl;injection h with h;subst h;obtain⟨h1,h2⟩:=oP hl;refine⟨by simp[h1],λi v hv=> ?_⟩;cases i with
     | zero=>simp at hv;subst hv;exact⟨b,rfl⟩
     | succ i=>obtain⟨b',hb⟩:=h2 i v (by simpa using hv);exact⟨b',by rw[hb];rfl⟩
    ·cases h
   ·cases h
def nw:List SV->Option (List e_)
 | []=>A []
 | .str _ s::r=>(match nw r with
   | some l=>A (s::l)
   | none=>F)
 | _::_=>F
def bZ (l:List e_)(i:Nat):e_:=l.getD i []
theorem mD: ∀ {cs:List SV} {l:List e_},nw cs=A l->∀(i:Nat) (v:SV),cs[i]?=A v->∃ b,v=.str b (bZ l i)
 | [],l,h,i,v,hv=>by simp at hv
 | .str b s::r,l,h,i,v,hv=>by
   simp only[nw] at h;split at h
   ·rename_i l' hl;injection h with h;subst h;cases i with
    | zero=>simp at hv;subst hv;exact⟨b,rfl⟩
    | succ i=>obtain⟨b',hb⟩:=mD hl i v (by simpa using hv);exact⟨b',by rw[hb];rfl⟩
   ·cases h
theorem uw: ∀ {cs:List SV} {l:List e_},nw cs=A l->l.length=cs.length
 | [],l,h=>by simp[nw] at h;subst h;rfl
 | .str b s::r,l,h=>by
   simp only[nw] at h;split at h
   ·rename_i l' hl;injection h with h;subst h;simp[uw hl]
   ·cases h
def kJ (az:List aE)(i k n:Nat):Option (List SV):=gv (az.map (aE.at i)) k n
noncomputable def Fl (g:Nat):List (Nat×Array Value)->Option (Array Value)
 | []=>F
 | e::r=>if e.1=g then A e.2 else Fl g r
theorem tA {g:Nat}: ∀ {l:List (Nat×Array Value)} {cs:Array Value},Fl g l=A cs->(g,cs)∈ l
 | [],_,h=>by cases h
 | e::r,cs,h=>by
   simp only[Fl] at h;split at h
   ·rename_i he;injection h with h;subst h;subst he;exact List.mem_cons_self ..
   ·exact List.mem_cons_of_mem _ (tA h)
def SV.L9:Value->Option SV
 | .iface t (.agg cs)=>A (.iface t (.agg (cs.toList.map SV.raw)))
 | v=>SV.tU v
theorem SV.Ma {v:Value}{x:SV}(h:SV.L9 v=A x):x.val E=v:=by
 unfold SV.L9 at h;split at h
 ·injection h with h;subst h;have: ∀ l:List Value,SV.vals E (l.map SV.raw)=l:=by
   intro l;induction l with
   | nil=>rfl
   | cons a r ih=>simp only[List.map_cons,SV.vals,SV.val,ih]
  simp[SV.val,this]
 ·exact SV.tV h
def wo (k:IntKind):List Value->Option (List Int)
 | []=>A []
 | .int k' n::r=>if k=k' then(match wo k r with
   | some l=>A (n::l)
   | none=>F)else F
 | _::_=>F
def YL:List Value->Option IntKind
 | .int k _::_::_=>A k
 | _=>F
theorem ze {k:IntKind}: ∀ {cs:List Value} {l:List Int},wo k cs=A l->l.length=cs.length/\∀(i:Nat),i<l.length->cs[i]?=A (.int k (zu l i))
 | [],l,h=>by simp[wo] at h;subst h;exact⟨rfl,λi hi=>absurd hi (Nat.not_lt_zero _)⟩
 | v::r,l,h=>by
   unfold wo at h;split at h
   ·rename_i e;cases e
   ·rename_i k' n r' e;injection e with e1 e2;subst e1;subst e2;split at h
    ·rename_i e;subst e;split at h
     ·rename_i l' hl;injection h with h;subst h;obtain⟨h1,h2⟩:=ze hl;refine⟨by simp[h1],λi hi=> ?_⟩;cases i with
      | zero=>rfl
      | succ i=>simpa [zu] using h2 i (by simpa using hi)
     ·cases h
    ·cases h
   ·cases h
def fU (c:aE)(o:Nat):Nat->List SV
 | 0=>[]
 | n+1=>c.at o::fU c (o+1) n
theorem mK (c:aE): ∀(n o:Nat),(fU c o n).length=n
 | 0,_=>rfl
 | n+1,o=>by simp[fU,mK c n (o+1)]
theorem qj (c:aE): ∀(n o j:Nat) (v:SV),(fU c o n)[j]?=A v->j<n/\v=c.at (o+j)
 | 0,_,j,v,h=>by simp[fU] at h
 | n+1,o,0,v,h=>by simp[fU] at h;exact⟨Nat.succ_pos _,h.symm⟩
 | n+1,o,j+1,v,h=>by simp only[fU,List.getElem?_cons_succ] at h;obtain⟨h1,h2⟩:=qj c n (o+1) j v h;exact⟨by omega,by rw[h2];congr 1;omega⟩
noncomputable def Og (P:Program)(look:k5)(t:TypeId)(a:Option SV)(K:Option SV->VC):VC :=
 match P.underlying t with
 | none=>.fail "load: no type"
 | some d =>
   match a with
   | some (.ptr key C o)=>(match look key with
     | some (.cells cs _ _)=>(match fy d with
       | true=>(match sz P t with
         | some n=>(match gv cs o n with
           | some l=>K (A (.agg l))
           | none=>.fail "load: not so many cells")
         | none=>.fail "load: no size")
       | false=>(match cs[o]? with
         | some v=>K (A v)
         | none=>.fail "load: no such cell"))
     | some (.rows G n [c] _ _ _)=>(match fy d with
       | true=>(match sz P t with
         | some m=>.and (.atom (o+m<=n)) (K (A (.agg (fU c o m))))
         | none=>.fail "load: no size")
       | false=>.and (.atom (o<n)) (K (A (c.at o))))
     | _=>.fail "load: no such block")
   | some (.kN key w i k)=>(match look key with
     | some (.rows _z n az _ro _tot _ty)=>(if az.length=w then(match fy d with
       | true=>(match sz P t with
         | some m=>(match kJ az i k m with
           | some l=>.and (.atom (i<n)) (K (A (.agg l)))
           | none=>.fail "load: not so many columns")
         | none=>.fail "load: no size")
       | false=>(match az[k]? with
         | some c=>.and (.atom (i<n)) (K (A (c.at i)))
         | none=>.fail "load: no such column"))else .fail "load: another row")
     | _=>.fail "load: not a row")
   | some (.iD key w o i k)=>(match look key with
     | some (.view _z o' n az)=>(if az.length=w then(match fy d with
       | true=>(match sz P t with
         | some m=>(match kJ az i k m with
           | some l=>.and (.atom (o'=o/\i<n)) (K (A (.agg l)))
           | none=>.fail "load: not so many columns")
         | none=>.fail "load: no size")
       | false=>(match az[k]? with
         | some c=>.and (.atom (o'=o/\i<n)) (K (A (c.at i)))
         | none=>.fail "load: no such column"))else .fail "load: another row")
     | _=>.fail "load: not a view")
   | some (.oB key base n i)=>(match look key with
     | some (.cells cs _ _)=>(match fy d,gv cs base n with
       | false,A l=>(match tF (T8 l) l with
         | some zs=>.and (.atom (i<n)) (K (A (.int (T8 l) G (zu zs i))))
         | none=>(match nw l with
           | some ss=>.and (.atom (i<n)) (K (A (.str G (bZ ss i))))
           | none=>.fail "load: no integers"))
       | _,_=>.fail "load: not so many cells")
     | some (.rows G nb [c] _ _ _)=>(match fy d with
       | false=>.and (.atom (i<n/\base+i<nb)) (K (A (c.at (base+i))))
       | true=>.fail "load: not so many cells")
     | _=>.fail "load: no such block")
   | some (.raw (.pointer (A ⟨g,o,F⟩)))=>(match fy d,Fl g qq with
     | false,A cs=>(match YL cs.toList with
       | some k=>(match wo k cs.toList with
         | some zs=>.and (.atom (o<zs.length)) (K (A (.int k G (zu zs o))))
         | none=>.fail "load: what a variable holds")
       | none=>(match o with
         | 0=>(match cs[0]? with
           | some v=>(match SV.L9 v with
             | some x=>K (A x)
             | none=>.fail "load: what a variable holds")
           | none=>.fail "load: no cell")
         | _+1=>.fail "load: a variable's element"))
     | _,_=>.fail "load: a variable that is not listed")
   | some (.fY key a o)=>(match look key with
     | some (.tq D cs _ _ _)=>(match fy d with
       | true=>(match sz P t with
         | some m=>(match kJ cs a o m with
           | some l=>.and (.atom (D a=C)) (K (A (.agg l)))
           | none=>.fail "load: not so many columns")
         | none=>.fail "load: no size")
       | false=>(match cs[o]? with
         | some c=>.and (.atom (D a=C)) (K (A (c.at a)))
         | none=>.fail "load: no such column"))
     | _=>.fail "load: no family")
   | some (.m8 key w a i k)=>(match look key with
     | some (.j8 D n az _)=>(if(az.map (dx.at a)).length=w then(match fy d with
       | true=>(match sz P t with
         | some m=>(match kJ (az.map (dx.at a)) i k m with
           | some l=>.and (.atom (D a=C/\i<n a)) (K (A (.agg l)))
           | none=>.fail "load: not so many columns")
         | none=>.fail "load: no size")
       | false=>(match(az.map (dx.at a))[k]? with
         | some c=>.and (.atom (D a=C/\i<n a)) (K (A (c.at i)))
         | none=>.fail "load: no such column"))else .fail "load: another row")
     | _=>.fail "load: no family")
   | _=>.fail "load: no pointer"
theorem Vg {look:k5}(t:TypeId)(x:Operand) :
  aW P look σ (λρ=>I t (ρ x)) (Og P look t (σ x)):=by
 unfold Og;cases hd:P.underlying t with
 | none=>exact aW.fail _
 | some d =>
   simp only;split
   ·rename_i key o hx;split
    ·rename_i cs tot ty hk;cases ha:fy d with
     | true =>
       simp only;cases hn:sz P t with
       | none=>exact aW.fail _
       | some n =>
         simp only;cases hl:gv cs o n with
         | none=>exact aW.fail _
         | some l =>
           refine aW.v _ λE w ρ hc hr=> ?_;obtain⟨ob,ho,c,fr,rfl,_,h2,_⟩:=hc.1 key _ hk rfl;have hg:=c7 hl;have hll:=run_loadCells (P:=P) ho o (l.map (SV.val E)) (λj v hj=>by
            rw[O] at hj;cases hjl:l[j]? with
            | none=>rw[hjl] at hj;cases hj
            | some u=>rw[hjl] at hj;injection hj with hj;subst hj;exact h2 _ _ (hg.2 j u hjl))
           rw[an,hg.1] at hll;simp[I,hr x _ hx,SV.val,H,loadVar,cO hd,ha,cu hn,hll,SV.bP]
     | false =>
       simp only;cases hv:cs[o]? with
       | none=>exact aW.fail _
       | some v =>refine aW.v _ λE w ρ hc hr=> ?_;obtain⟨ob,ho,c,fr,rfl,_,h2,_⟩:=hc.1 key _ hk rfl;simp[I,hr x _ hx,SV.val,H,loadVar,cO hd,ha,cell_of ho,h2 _ _ hv]
    ·rename_i n col ro tot ty hk;cases ha:fy d with
     | true =>
       simp only;cases hn:sz P t with
       | none=>exact aW.fail _
       | some m =>
         refine aW.atom λhi=>aW.v _ λE w ρ hc hr=> ?_;obtain⟨ob,ho,c,fr,rfl,_,_,_,h2⟩:=hc.1 key _ hk rfl;have hll:=run_loadCells (P:=P) ho o ((fU col o m).map (SV.val E)) (λj v hj=>by
          rw[O] at hj;cases hjl:(fU col o m)[j]? with
          | none=>rw[hjl] at hj;cases hj
          | some u =>rw[hjl] at hj;injection hj with hj;subst hj;obtain⟨g1,g2⟩:=qj col m o j u hjl;subst g2;have:=h2 (o+j) 0 col (by omega) rfl;simpa using this)
         rw[an,mK] at hll;simp[I,hr x _ hx,SV.val,H,loadVar,cO hd,ha,cu hn,hll,SV.bP]
     | false =>refine aW.atom λhi=>aW.v _ λE w ρ hc hr=> ?_;obtain⟨ob,ho,c,fr,rfl,_,_,_,h2⟩:=hc.1 key _ hk rfl;have h3:=h2 o 0 col hi rfl;simp only[c5,en,c_,b!,er] at h3;simp[I,hr x _ hx,SV.val,H,loadVar,cO hd,ha,cell_of ho,h3]
    ·exact aW.fail _
   ·rename_i key w i k hx;split
    ·rename_i z n az ro tot ty hk;refine aW.ite (λhw=> ?_) (λ_=>aW.fail _);subst hw;cases ha:fy d with
     | true =>
       simp only;cases hn:sz P t with
       | none=>exact aW.fail _
       | some m =>
         simp only;cases hl:kJ az i k m with
         | none=>exact aW.fail _
         | some l =>
           refine aW.atom λhi=>aW.v _ λE w ρ hc hr=> ?_;obtain⟨ob,ho,c,fr,rfl,_,h1,_,h2⟩:=hc.1 key _ hk (SB.jk hi);have hg:=c7 hl;have hll:=run_loadCells (P:=P) ho (i*az.length+k) (l.map (SV.val E)) (λj v hj=>by
            rw[O] at hj;cases hjl:l[j]? with
            | none=>rw[hjl] at hj;cases hj
            | some u =>
              rw[hjl] at hj;injection hj with hj;subst hj;have:=hg.2 j u hjl;rw[O] at this;cases hcl:az[k+j]? with
              | none=>rw[hcl] at this;cases this
              | some col =>rw[hcl] at this;injection this with this;subst this;rw[W];exact h2 i (k+j) col hi hcl)
           rw[an,hg.1] at hll;simp[I,hr x _ hx,SV.val,H,loadVar,cO hd,ha,cu hn,hll,SV.bP]
     | false =>
       simp only;cases hv:az[k]? with
       | none=>exact aW.fail _
       | some col =>refine aW.atom λhi=>aW.v _ λE w ρ hc hr=> ?_;obtain⟨ob,ho,c,fr,rfl,_,h1,_,h2⟩:=hc.1 key _ hk (SB.jk hi);simp[I,hr x _ hx,SV.val,H,loadVar,cO hd,ha,cell_of ho,h2 _ _ _ hi hv]
    ·exact aW.fail _
   ·rename_i key w o i k hx;split
    ·rename_i z o' n az hk;refine aW.ite (λhw=> ?_) (λ_=>aW.fail _);subst hw;cases ha:fy d with
     | true =>
       simp only;cases hn:sz P t with
       | none=>exact aW.fail _
       | some m =>
         simp only;cases hl:kJ az i k m with
         | none=>exact aW.fail _
         | some l =>
           refine aW.atom λhlh=>aW.v _ λE w ρ hc hr=> ?_;obtain⟨rfl,hi⟩:=hlh;obtain⟨ob,ho,c,ty,fr,rfl,h2⟩:=hc.1 key _ hk (SB.zN hi);have hg:=c7 hl;have hll:=run_loadCells (P:=P) ho (o'+i*az.length+k) (l.map (SV.val E)) (λj v hj=>by
            rw[O] at hj;cases hjl:l[j]? with
            | none=>rw[hjl] at hj;cases hj
            | some u =>
              rw[hjl] at hj;injection hj with hj;subst hj;have:=hg.2 j u hjl;rw[O] at this;cases hcl:az[k+j]? with
              | none=>rw[hcl] at this;cases this
              | some col =>rw[hcl] at this;injection this with this;subst this;rw[W];exact h2 i (k+j) col hi hcl)
           rw[an,hg.1] at hll;simp[I,hr x _ hx,SV.val,H,loadVar,cO hd,ha,cu hn,hll,SV.bP]
     | false =>
       simp only;cases hv:az[k]? with
       | none=>exact aW.fail _
       | some col =>refine aW.atom λhlh=>aW.v _ λE w ρ hc hr=> ?_;obtain⟨rfl,hi⟩:=hlh;obtain⟨ob,ho,c,ty,fr,rfl,h2⟩:=hc.1 key _ hk (SB.zN hi);simp[I,hr x _ hx,SV.val,H,loadVar,cO hd,ha,cell_of ho,h2 _ _ _ hi hv]
    ·exact aW.fail _
   ·rename_i key base n i hx;split
    ·rename_i cs tot ty hk;split
     ·rename_i l ha hl;split
      ·rename_i zs hz;refine aW.atom λhi=>aW.v _ λE w ρ hc hr=> ?_;obtain⟨ob,ho,c,fr,rfl,_,h2,_⟩:=hc.1 key _ hk rfl;have hg:=c7 hl;have hzg:=oP hz;have hil:i<l.length:=by rw[hg.1];exact hi
       obtain⟨b,hb⟩:=hzg.2 i l[i] (V hil);have:=h2 _ _ (hg.2 i l[i] (V hil));rw[hb] at this;simp[I,hr x _ hx,SV.val,H,loadVar,cO hd,ha,cell_of ho,this]
      ·split
       ·rename_i ss hz;refine aW.atom λhi=>aW.v _ λE w ρ hc hr=> ?_;obtain⟨ob,ho,c,fr,rfl,_,h2,_⟩:=hc.1 key _ hk rfl;have hg:=c7 hl;have hil:i<l.length:=by rw[hg.1];exact hi
        obtain⟨b,hb⟩:=mD hz i l[i] (V hil);have:=h2 _ _ (hg.2 i l[i] (V hil));rw[hb] at this;simp[I,hr x _ hx,SV.val,H,loadVar,cO hd,ha,cell_of ho,this]
       ·exact aW.fail _
     ·exact aW.fail _
    ·rename_i nb col ro tot ty hk;split
     ·rename_i ha;refine aW.atom λhi=>aW.v _ λE w ρ hc hr=> ?_;obtain⟨ob,ho,c,fr,rfl,_,_,_,h2⟩:=hc.1 key _ hk rfl;have h3:=h2 (base+i) 0 col hi.2 rfl;simp only[c5,en,c_,b!,er] at h3;simp[I,hr x _ hx,SV.val,H,loadVar,cO hd,ha,cell_of ho,h3]
     ·exact aW.fail _
    ·exact aW.fail _
   ·rename_i g o hx;split
    ·rename_i cs ha hcs;split
     ·rename_i k hk;split
      ·rename_i zs hz;refine aW.atom λho=>aW.v _ λE w ρ hc hr=> ?_;obtain⟨c,ty,fr,hg,hgc⟩:=hc.2.1 _ (tA hcs);have hv:=(ze hz).2 o ho;rw[Array.getElem?_toList] at hv;have hv:=hgc _ _ hv;simp[I,hr x _ hx,SV.val,H,loadVar,cO hd,ha,cell_of hg,hv]
      ·exact aW.fail _
     ·split
      ·split
       ·rename_i v hv;split
        ·rename_i y hy;refine aW.v _ λE w ρ hc hr=> ?_;obtain⟨c,ty,fr,hg,hgc⟩:=hc.2.1 _ (tA hcs);simp[I,hr x _ hx,SV.val,H,loadVar,cO hd,ha,cell_of hg,hgc _ _ hv,SV.Ma hy]
        ·exact aW.fail _
       ·exact aW.fail _
      ·exact aW.fail _
    ·exact aW.fail _
   ·rename_i key a o hx;split
    ·rename_i D cs tot ty ro hk;cases ha:fy d with
     | true =>
       simp only;cases hn:sz P t with
       | none=>exact aW.fail _
       | some m =>
         simp only;cases hl:kJ cs a o m with
         | none=>exact aW.fail _
         | some l =>
           refine aW.atom λhD=>aW.v _ λE w ρ hc hr=> ?_;obtain⟨ob,ho,c,fr,rfl,_,h2,_⟩:=hc.2.2 key _ a hk hD;have hg:=c7 hl;have hll:=run_loadCells (P:=P) ho o (l.map (SV.val E)) (λj v hj=>by
            rw[O] at hj;cases hjl:l[j]? with
            | none=>rw[hjl] at hj;cases hj
            | some u=>rw[hjl] at hj;injection hj with hj;subst hj;exact h2 _ _ (hg.2 j u hjl))
           rw[an,hg.1] at hll;simp[I,hr x _ hx,SV.val,H,loadVar,cO hd,ha,cu hn,hll,SV.bP]
     | false =>
       simp only;cases hv:cs[o]? with
       | none=>exact aW.fail _
       | some col =>refine aW.atom λhD=>aW.v _ λE w ρ hc hr=> ?_;obtain⟨ob,ho,c,fr,rfl,_,h2,_⟩:=hc.2.2 key _ a hk hD;simp[I,hr x _ hx,SV.val,H,loadVar,cO hd,ha,cell_of ho,h2 o (col.at a) (by rw[O,hv];rfl)]
    ·exact aW.fail _
   ·rename_i key w a i k hx;split
    ·rename_i D n az ro hk;have hel:SB.el (.j8 D n az ro) a=.view G 0 (n a) (az.map (dx.at a)):=rfl;generalize az.map (dx.at a)=cl at hel ⊢;refine aW.ite (λhw=> ?_) (λ_=>aW.fail _);subst hw;cases ha:fy d with
     | true =>
       simp only;cases hn:sz P t with
       | none=>exact aW.fail _
       | some m =>
         simp only;cases hl:kJ cl i k m with
         | none=>exact aW.fail _
         | some l =>
           refine aW.atom λhD=>aW.v _ λE w ρ hc hr=> ?_;obtain⟨ob,ho,hb⟩:=hc.2.2 key _ a hk hD.1;rw[hel] at hb;obtain⟨c,ty,fr,rfl,h2⟩:=hb;have hg:=c7 hl;have hll:=run_loadCells (P:=P) ho (i*cl.length+k) (l.map (SV.val E)) (λj v hj=>by
            rw[O] at hj;cases hjl:l[j]? with
            | none=>rw[hjl] at hj;cases hj
            | some u =>
              rw[hjl] at hj;injection hj with hj;subst hj;have:=hg.2 j u hjl;rw[O] at this;cases hcl:cl[k+j]? with
              | none=>rw[hcl] at this;cases this
              | some col =>rw[hcl] at this;injection this with this;subst this;have:=h2 i (k+j) col hD.2 hcl;rw[W,← this];congr 1;omega)
           rw[an,hg.1] at hll;simp[I,hr x _ hx,SV.val,H,loadVar,cO hd,ha,cu hn,hll,SV.bP]
     | false =>
       simp only;cases hv:cl[k]? with
       | none=>exact aW.fail _
       | some col =>refine aW.atom λhD=>aW.v _ λE w ρ hc hr=> ?_;obtain⟨ob,ho,hb⟩:=hc.2.2 key _ a hk hD.1;rw[hel] at hb;obtain⟨c,ty,fr,rfl,h2⟩:=hb;have:=h2 i k col hD.2 hv;rw[c_] at this;simp[I,hr x _ hx,SV.val,H,loadVar,cO hd,ha,cell_of ho,this]
    ·exact aW.fail _
   ·exact aW.fail _
def abE (f:Field)(P:Program):Option Nat:=match sz P f.type with
 | some (_n+1)=>A f.offset
 | _=>F
def ua (P:Program)(s:TypeId)(x:Option SV)(f:Nat)(K:Option SV->VC):VC :=
 match P.underlying s with
 | some (.struct fs)=>(match fs[f]? with
   | some fd=>(match abE fd P with
     | some o=>(match x with
       | some (.ptr key ol a)=>K (A (.ptr key ol (a+o)))
       | some (.kN key w i k)=>K (A (.kN key w i (k+o)))
       | some (.iD key w b i k)=>K (A (.iD key w b i (k+o)))
       | some (.fY key b i)=>K (A (.fY key b (i+o)))
       | some (.m8 key w b i k)=>K (A (.m8 key w b i (k+o)))
       | _=>.fail "fieldAddr: no pointer")
     | none=>.fail "fieldAddr: a field without cells")
   | none=>.fail "fieldAddr: no such field")
 | _=>.fail "fieldAddr: no struct"
theorem Cr {look:k5}(s:TypeId)(x:Operand)(f:Nat) :
  aW P look σ (λρ=>X s (ρ x) f) (ua P s (σ x) f):=by
 unfold ua;split
 ·rename_i fs hd;split
  ·rename_i fd hf;cases ho:abE fd P with
   | none=>exact aW.fail _
   | some o =>
     have hsz: ∃ n,sz P fd.type=A (n+1)/\fd.offset=o:=by
      unfold abE at ho;split at ho
      ·rename_i n hn;injection ho with ho;exact⟨n,hn,ho⟩
      ·cases ho
     obtain⟨n,hn,rfl⟩:=hsz;simp only;split
     ·rename_i key ol a hx;refine aW.v _ λE w ρ hc hr=> ?_;simp[X,hr x _ hx,SV.val,H,aL hd,hf,fieldPlace,cu hn,cQ]
     ·rename_i key w i k hx;refine aW.v _ λE w ρ hc hr=> ?_;simp[X,hr x _ hx,SV.val,H,aL hd,hf,fieldPlace,cu hn,cQ,W]
     ·rename_i key w b i k hx;refine aW.v _ λE w ρ hc hr=> ?_;simp[X,hr x _ hx,SV.val,H,aL hd,hf,fieldPlace,cu hn,cQ,W]
     ·rename_i key b i hx;refine aW.v _ λE w ρ hc hr=> ?_;simp[X,hr x _ hx,SV.val,H,aL hd,hf,fieldPlace,cu hn,cQ]
     ·rename_i key w b i k hx;refine aW.v _ λE w ρ hc hr=> ?_;simp[X,hr x _ hx,SV.val,H,aL hd,hf,fieldPlace,cu hn,cQ,W]
     ·exact aW.fail _
  ·exact aW.fail _
 ·exact aW.fail _
def places (i:Int)(t:Nat->VC):Nat->VC
 | 0=>.tt
 | n+1=>.and (places i t n) (.imp (i=n) (t n))
theorem Bz {i:Int}{t:Nat->VC}: ∀ {n:Nat},0<=i->i<n->((places i t n).holds↔(t i.toNat).holds)
 | 0,h,h'=>by omega
 | n+1,h,h'=>by
   simp only[places,VC.holds];by_cases e:i=n
   ·subst e;simp only[Int.toNat_natCast];constructor
    ·intro x;exact x.2 trivial
    ·intro x;refine⟨?_,λ_=>x⟩;have: ∀ m,m<=n->(places (n:Int) t m).holds:=by
      intro m;induction m with
      | zero=>intro _;exact trivial
      | succ m ih=>intro hm;exact⟨ih (by omega),λe=>by omega⟩
     exact this n (Nat.le_refl _)
   ·have:=Bz (i:=i) (t:=t) (n:=n) h (by omega);rw[this];exact⟨λx=>x.1,λx=>⟨x,λe'=>absurd e' e⟩⟩
def sF (l:Bool)(i:Int)(n:Nat)(t:Nat->VC):VC :=
 match l with
 | true=>if 0<=i/\i<n then t i.toNat else .fail "index out of range"
 | false=>.and (.atom (0<=i/\i<n)) (places i t n)
theorem aW.index {look:k5}{i:Int}{n:Nat}{t:Nat->QT}
  (h:0<=i->i<n->aW P look σ s (t i.toNat)):aW P look σ s (λK=>sF l i n (λj=>t j K)):=by
 unfold sF;cases l with
 | true=>exact aW.ite (λhc=>h hc.1 hc.2) (λ_=>aW.fail _)
 | false =>refine aW.atom λhc=> ?_;obtain⟨obl,sv,h1,h2⟩:=h hc.1 hc.2;exact⟨obl,sv,λK=>by rw[Bz hc.1 hc.2];exact h1 K,h2⟩
def uc (P:Program)(t:TypeId)(x i:Option SV)(K:Option SV->VC):VC :=
 match P.underlying t,i with
 | some (.array len elem),A (.int _ l n)=>(match sz P elem,x with
   | some m,A (.ptr key C o)=>(match l|| !Nat.beq m 1 with
     | true=>sF l n len (λj=>K (A (.ptr key C (o+j*m))))
     | false=>.and (.atom (0<=n/\n<len)) (K (A (.oB key o len n.toNat))))
   | some 1,A (.raw (.pointer (A ⟨g,0,F⟩)))=>.and (.atom (0<=n/\n<len)) (K (A (.raw (.pointer (A ⟨g,n.toNat,F⟩)))))
   | _,_=>.fail "indexAddr: array")
 | some (.slice elem),A (.int _ l n)=>(match sz P elem,x with
   | some m,A (.slc key o len _ _)=>(match l|| !Nat.beq m 1||Nat.blt len 16 with
     | true=>sF l n len (λj=>K (A (.ptr key C (o+j*m))))
     | false=>.and (.atom (0<=n/\n<len)) (K (A (.oB key o len n.toNat))))
   | some m,A (.bx key w _z i0 len _)=>if m=w then .and (.atom (0<=n/\n<len)) (K (A (.kN key w (i0+n.toNat) 0)))else .fail "indexAddr: another row"
   | some m,A (.aS key w _z b i0 len _)=>if m=w then .and (.atom (0<=n/\n<len)) (K (A (.iD key w b (i0+n.toNat) 0)))else .fail "indexAddr: another row"
   | some m,A (.fc key w _z b i0 len _)=>if m=w then .and (.atom (0<=n/\n<len)) (K (A (.m8 key w b (i0+n.toNat) 0)))else .fail "indexAddr: another row"
   | _,_=>.fail "indexAddr: slice")
 | _,_=>.fail "indexAddr"
theorem Cs {look:k5}(t:TypeId)(x i:Operand) :
  aW P look σ (λρ=>Q t (ρ x) (ρ i)) (uc P t (σ x) (σ i)):=by
 unfold uc;split
 ·rename_i len elem k l n hd hi;split
  ·rename_i m key o hm hx;split
   ·refine aW.index λh0 h1=>aW.v _ λE w ρ hc hr=> ?_;simp[Q,hr x _ hx,hr i _ hi,SV.val,asIntOf,H,aL hd,cu hm,h0,h1,cQ]
   ·rename_i hcond;have hm1:m=1:=by simp at hcond;exact hcond.2
    refine aW.atom λh0=>aW.v _ λE w ρ hc hr=> ?_;simp[Q,hr x _ hx,hr i _ hi,SV.val,asIntOf,H,aL hd,cu hm,h0.1,h0.2,cQ,hm1]
  ·rename_i g hm hx;refine aW.atom λh0=>aW.v _ λE w ρ hc hr=> ?_;simp[Q,hr x _ hx,hr i _ hi,SV.val,asIntOf,H,aL hd,cu hm,h0.1,h0.2,cQ]
  ·exact aW.fail _
 ·rename_i elem k l n hd hi;split
  ·rename_i m key o len cl c hm hx;split
   ·refine aW.index λh0 h1=>aW.v _ λE w ρ hc hr=> ?_;simp[Q,hr x _ hx,hr i _ hi,SV.val,asIntOf,aL hd,cu hm,h0,h1,cQ]
   ·rename_i hcond;have hm1:m=1:=by simp at hcond;exact hcond.1.2
    refine aW.atom λh0=>aW.v _ λE w ρ hc hr=> ?_;simp[Q,hr x _ hx,hr i _ hi,SV.val,asIntOf,aL hd,cu hm,h0.1,h0.2,cQ,hm1]
  ·rename_i m key w z i0 len c hm hx;refine aW.ite (λe=> ?_) (λ_=>aW.fail _);subst e;refine aW.atom λh0=>aW.v _ λE w ρ hc hr=> ?_
   have hne:R len 0=false:=by cases len with
    | zero=>omega
    | succ n=>rfl
   simp[Q,hr x _ hx,hr i _ hi,SV.val,asIntOf,aL hd,cu hm,h0.1,h0.2,cQ,c6,hne]
  ·rename_i m key w z b i0 len c hm hx;refine aW.ite (λe=> ?_) (λ_=>aW.fail _);subst e;refine aW.atom λh0=>aW.v _ λE w ρ hc hr=> ?_
   have hne:R len 0=false:=by cases len with
    | zero=>omega
    | succ n=>rfl
   simp[Q,hr x _ hx,hr i _ hi,SV.val,asIntOf,aL hd,cu hm,h0.1,h0.2,cQ,c6,hne,W]
  ·rename_i m key w z b i0 len c hm hx;refine aW.ite (λe=> ?_) (λ_=>aW.fail _);subst e;refine aW.atom λh0=>aW.v _ λE w ρ hc hr=> ?_
   have hne:R len 0=false:=by cases len with
    | zero=>omega
    | succ n=>rfl
   simp[Q,hr x _ hx,hr i _ hi,SV.val,asIntOf,aL hd,cu hm,h0.1,h0.2,cQ,c6,hne]
  ·exact aW.fail _
 ·exact aW.fail _
section
variable {P : Program} {look : k5} {σ : Operand -> Option SV}
def qP (k:IntKind)(l:Bool)(n:Int)(K:Option SV->VC):VC :=
 match l with
 | true=>K (A (.int k C (k.wrap n)))
 | false=>match k.signed with
   | true=>.and (.atom (lo k<=n/\n<=hi k)) (K (A (.int k G n)))
   | false=>K (A (.int k G (n% md k)))
theorem lK {k:IntKind}
  (h: ∀ E w ρ,Compat E look w->Reads E σ ρ->(s ρ).run P w=.ok (.int k (k.wrap n)) w):aW P look σ s (qP k l n):=by
 unfold qP;cases l with
 | true=>exact aW.v _ λE w ρ hc hr=>h E w ρ hc hr
 | false =>
   simp only;cases hs:k.signed with
   | true=>exact aW.atom λhb=>aW.v _ λE w ρ hc hr=>by rw[h E w ρ hc hr,sG hb];rfl
   | false=>exact aW.v _ λE w ρ hc hr=>by rw[h E w ρ hc hr,Zo hs];rfl
def Ym (rem:Bool)(k:IntKind)(l:Bool)(a:Int)(l':Bool)(b:Int)(K:Option SV->VC):VC :=
 match l&&l' with
 | true=>if b=0 then .fail "division by zero" else(match rem with
   | true=>K (A (.int k C (a.tmod b)))
   | false=>K (A (.int k C (k.wrap (a.tdiv b)))))
 | false=>.and (.atom (0<=a/\a<=hi k/\0<b)) (match rem with
   | true=>K (A (.int k G (a% b)))
   | false=>K (A (.int k G (a / b))))
theorem DJ (k:IntKind):lo k<=0:=by cases k<;>simp[lo]
theorem Od {rem:Bool}{k:IntKind}{a:Int}
  (h: ∀ E w ρ,Compat E look w->Reads E σ ρ->(s ρ).run P w=(Z (if rem then .rem else .quo) k a b).run P w):aW P look σ s (Ym rem k l a l' b):=by
 unfold Ym;cases (l&&l')with
 | true =>
   refine aW.ite (λ_=>aW.fail _) λhb=> ?_;cases rem with
   | true=>exact aW.v _ λE w ρ hc hr=>by rw[h E w ρ hc hr];simp[Z,hb,SV.val]
   | false=>exact aW.v _ λE w ρ hc hr=>by rw[h E w ρ hc hr];simp[Z,hb,SV.val]
 | false =>
   refine aW.atom fun⟨h0,h1,h2⟩=> ?_;have hb:b≠0:=by omega
   cases rem with
   | true=>exact aW.v _ λE w ρ hc hr=>by rw[h E w ρ hc hr];simp[Z,hb,SV.val,Int.tmod_eq_emod_of_nonneg h0]
   | false =>
     refine aW.v _ λE w ρ hc hr=> ?_;have e:k.wrap (a.tdiv b)=a / b:=by rw[Int.tdiv_eq_ediv_of_nonneg h0];have:a / b<=a:=Int.ediv_le_self b h0;have:0<=a / b:=Int.ediv_nonneg h0 (by omega);exact sG ⟨by have:=DJ k;omega,by omega⟩
     rw[h E w ρ hc hr];simp[Z,hb,SV.val,e]
def Gi (left:Bool)(k:IntKind)(l:Bool)(a:Int)(l':Bool)(b:Int)(K:Option SV->VC):VC :=
 match l' with
 | true=>if b<0 then .fail "negative shift" else(match left with
   | true=>qP k l (a*(2^ (min b.toNat k.bits):Nat)) K
   | false=>K (A (.int k l (a / (2^ (min b.toNat k.bits):Nat)))))
 | false=>.fail "shift by a number that is not known"
theorem D0 {left:Bool}{k yk:IntKind}{a:Int}
  (h: ∀ E w ρ,Compat E look w->Reads E σ ρ->(s ρ).run P w=(c4 (if left then .shl else .shr) k a yk b).run P w):aW P look σ s (Gi left k l a l' b):=by
 unfold Gi;cases l' with
 | false=>exact aW.fail _
 | true =>
   refine aW.ite (λ_=>aW.fail _) λhb=> ?_;cases left with
   | true=>exact lK λE w ρ hc hr=>by rw[h E w ρ hc hr];simp[c4,hb]
   | false =>refine aW.v _ λE w ρ hc hr=> ?_;rw[h E w ρ hc hr];simp only[c4,hb,if_false,a_,S,SV.val];rw[Int.fdiv_eq_ediv_of_nonneg _ (Int.pow_nonneg (by decide))];simp
def bitsOf (op:BinOp)(a b:Int):Int :=
 match op with
 | .and=>Int.ofNat (a.toNat &&& b.toNat)
 | .or=>Int.ofNat (a.toNat ||| b.toNat)
 | _=>Int.ofNat (a.toNat ^^^ b.toNat)
def DZ (op:BinOp)(k:IntKind)(l:Bool)(a b:Int)(K:Option SV->VC):VC :=
 match l with
 | true=>if 0<=a/\a<=hi k/\0<=b/\b<=hi k then K (A (.int k C (bitsOf op a b)))else .fail "bits: below zero"
 | false=>.and (.atom (0<=a/\a<=hi k/\0<=b/\b<=hi k)) (K (A (.int k G (bitsOf op a b))))
theorem hi_lt (k:IntKind):hi k<2^ k.bits:=by cases k<;>decide
theorem toNat_ofInt {w:Nat}{a:Int}(h0:0<=a)(h1:a<2^ w):(BitVec.ofInt w a).toNat=a.toNat:=by rw[BitVec.toNat_ofInt];congr 1;exact Int.emod_eq_of_lt h0 (by exact_mod_cast h1)
theorem G4 (hop:op=.and∨op=.or∨op=.xor){k:IntKind}{a:Int}(h:0<=a/\a<=hi k/\0<=b/\b<=hi k)(w:World) :
  (Y op k a b).run P w=.ok (.int k (bitsOf op a b)) w:=by
 obtain⟨a0,a1,b0,b1⟩:=h;have hk:=hi_lt k;have ea:=toNat_ofInt (w:=k.bits) a0 (by omega);have eb:=toNat_ofInt (w:=k.bits) b0 (by omega)
 have la:a.toNat<2^ k.bits:=by have:(a.toNat:Int)<((2^ k.bits:Nat):Int):=by rw[Int.toNat_of_nonneg a0];push_cast;omega
                               exact_mod_cast this
 have lb:b.toNat<2^ k.bits:=by have:(b.toNat:Int)<((2^ k.bits:Nat):Int):=by rw[Int.toNat_of_nonneg b0];push_cast;omega
                               exact_mod_cast this
 have hh:(hi k).toNat+1=2^ k.bits∨(hi k).toNat+1=2^ (k.bits - 1):=by cases k<;>simp[hi,cx]
 have key: ∀ n:Nat,n<=(hi k).toNat->k.wrap (n:Int)=n:=λn hn=>sG ⟨by have:=DJ k;omega,by
  have:0<=hi k:=by cases k<;>simp[hi]
  omega⟩
 have ba:a.toNat<=(hi k).toNat:=by omega
 have bb:b.toNat<=(hi k).toNat:=by omega
 have hand:a.toNat &&& b.toNat<=(hi k).toNat:=Nat.le_trans Nat.and_le_left ba;have two: ∃ m,(hi k).toNat+1=2^ m:=by rcases hh with h | h<;>exact⟨_,h⟩
 obtain⟨m,hm⟩:=two;have hor:a.toNat ||| b.toNat<=(hi k).toNat:=by have:=Nat.or_lt_two_pow (x:=a.toNat) (y:=b.toNat) (n:=m) (by omega) (by omega);omega
 have hxor:a.toNat ^^^ b.toNat<=(hi k).toNat:=by have:=Nat.xor_lt_two_pow (x:=a.toNat) (y:=b.toNat) (n:=m) (by omega) (by omega);omega
 rcases hop with rfl | rfl | rfl
 ·simp only[Y,bitsOf,S,BitVec.toNat_and,ea,eb];rw[key _ hand];rfl
 ·simp only[Y,bitsOf,S,BitVec.toNat_or,ea,eb];rw[key _ hor];rfl
 ·simp only[Y,bitsOf,S,BitVec.toNat_xor,ea,eb];rw[key _ hxor];rfl
theorem vF (hop:op=.and∨op=.or∨op=.xor){k:IntKind}{a:Int}
  (h: ∀ E w ρ,Compat E look w->Reads E σ ρ->(s ρ).run P w=(Y op k a b).run P w):aW P look σ s (DZ op k l a b):=by
 unfold DZ;cases l with
 | true=>exact aW.ite (λhb=>aW.v _ λE w ρ hc hr=>by rw[h E w ρ hc hr,G4 hop hb];rfl) (λ_=>aW.fail _)
 | false=>exact aW.atom λhb=>aW.v _ λE w ρ hc hr=>by rw[h E w ρ hc hr,G4 hop hb];rfl
def abI (op:BinOp)(k:IntKind)(l:Bool)(a:Int)(l':Bool)(b:Int)(K:Option SV->VC):VC :=
 match op with
 | .add=>qP k (l&&l') (a+b) K
 | .sub=>qP k (l&&l') (a - b) K
 | .mul=>qP k (l&&l') (a*b) K
 | .quo=>Ym G k l a l' b K
 | .rem=>Ym C k l a l' b K
 | .and=>DZ .and k (l&&l') a b K
 | .or=>DZ .or k (l&&l') a b K
 | .xor=>DZ .xor k (l&&l') a b K
 | .eql=>K (A (.bool (l&&l') (N (a=b))))
 | .neq=>K (A (.bool (l&&l') (!decide (a=b))))
 | .lss=>K (A (.bool (l&&l') (N (a<b))))
 | .leq=>K (A (.bool (l&&l') (N (a<=b))))
 | .gtr=>K (A (.bool (l&&l') (N (b<a))))
 | .geq=>K (A (.bool (l&&l') (N (b<=a))))
 | _=>.fail "binOp: integers"
def UG:Int:=9223372036854775807
def cat (a b:e_):e_:=a++b
def abM (op:BinOp)(l:Bool)(a b:e_)(K:Option SV->VC):VC :=
 match op with
 | .add=>match l with
   | true=>if(a.length:Int)+b.length<=UG then K (A (.str C (a++b)))else .fail "a text that is too long"
   | false=>.and (.atom ((a.length:Int)+b.length<=9223372036854775807)) (K (A (.str G (cat a b))))
 | .eql=>K (A (.bool l (N (a=b))))
 | .neq=>K (A (.bool l (!decide (a=b))))
 | .lss=>K (A (.bool l (cB a b)))
 | .leq=>K (A (.bool l (cB a b||decide (a=b))))
 | .gtr=>K (A (.bool l (!(cB a b||decide (a=b)))))
 | .geq=>K (A (.bool l (!Op.bytesLess a b)))
 | _=>.fail "binOp: texts"
theorem ED (a b:e_):(T a.toArray)++(T b.toArray)=T (a++b).toArray:=by apply ey;rw[eu];simp
theorem imax:IntKind.i64.max=9223372036854775807:=by decide
theorem Yr {a b:e_}
  (h: ∀ E w ρ,Compat E look w->Reads E σ ρ->(s ρ).run P w=(b_ op ⟨a.toArray⟩ ⟨b.toArray⟩).run P w):aW P look σ s (abM op l a b):=by
 have he:(a==b)=N (a=b):=by by_cases e:a=b<;>simp[e]
 have sa:(T a.toArray).size=a.length:=by simp[cm]
 have sb:(T b.toArray).size=b.length:=by simp[cm]
 unfold abM;cases op
 case add =>
  have go:(a.length:Int)+b.length<=9223372036854775807->∀ w,(b_ .add ⟨a.toArray⟩ ⟨b.toArray⟩).run P w=.ok (.string ⟨(a++b).toArray⟩) w:=λhb w=>by simp only[b_,sa,sb,imax,ED];rw[if_neg (by omega)];rfl
  cases l with
  | true=>exact aW.ite (λhb=>aW.v _ λE w ρ hc hr=>by rw[h E w ρ hc hr,go hb];rfl) (λ_=>aW.fail _)
  | false=>exact aW.atom λhb=>aW.v _ λE w ρ hc hr=>by rw[h E w ρ hc hr,go hb];rfl
 all_goals first
  | exact aW.fail _
  | (refine aW.v _ λE w ρ hc hr=> ?_;rw[h E w ρ hc hr];simp[b_,SV.val,he])
end
def m7 (x:Bool×Bool)(y:Option (Bool×Bool)):Option (Bool×Bool) :=
 match x with
 | (C,G)=>A (C,G)
 | (l,b)=>match y with
   | some (l',b')=>A (l&&l',b&&b')
   | none=>F
def partOf (P:Program)(t:TypeId)(cs:List SV)(off:Nat):Option SV :=
 match P.underlying t with
 | none=>F
 | some d=>match fy d with
   | true=>match sz P t with
     | some n=>match gv cs off n with
       | some l=>A (.agg l)
       | none=>F
     | none=>F
   | false=>cs[off]?
theorem gN {cs:List SV}{off:Nat}{v:SV}(h:partOf P t cs off=A v) :
  (part t (SV.vals E cs).toArray off).run P w=.ok (v.val E) w:=by
 unfold partOf at h;split at h
 ·cases h
 ·rename_i d hd;split at h
  ·rename_i ha;split at h
   ·rename_i n hn;split at h
    ·rename_i l hl;injection h with h;subst h;have hg:=c7 hl;simp only[part,J,cO hd,ha,L,if_true,cu hn,S,SV.val,SV.bP];congr 2;apply Array.ext';simp only[Array.toList_extract,List.toList_toArray,List.extract_eq_take_drop];rw[show off+n - off=n by omega,List.map_drop.symm,List.map_take.symm];congr 1;apply List.ext_getElem?;intro j;rw[List.getElem?_take];split
     ·rename_i hj;rw[List.getElem?_drop];obtain⟨u,hu⟩: ∃ u,l[j]?=A u:=⟨l[j]'(by omega),V _⟩
      rw[hu,hg.2 j u hu]
     ·rw[List.getElem?_eq_none (by omega)]
    ·cases h
   ·cases h
  ·rename_i ha;simp only[part,J,cO hd,ha,L,SV.bP];simp[h]
def eqv (P:Program):Nat->TypeId->SV->SV->Option (Bool×Bool)
 | 0,_,_,_=>F
 | d+1,t,x,y =>
   match P.underlying t,x,y with
   | some .bool,.bool l a,.bool l' b=>A (l&&l',a==b)
   | some (.int _),.int k l a,.int k' l' b=>if k=k' then A (l&&l',N (a=b))else F
   | some .string,.str l a,.str l' b=>A (l&&l',N (a=b))
   | some (.pointer _),.cH,.cH=>A (C,C)
   | some (.pointer _),.cH,.ptr .. =>A (C,G)
   | some (.pointer _),.ptr ..,.cH=>A (C,G)
   | some (.pointer _),.cH,.kN .. =>A (C,G)
   | some (.pointer _),.kN ..,.cH=>A (C,G)
   | some (.pointer e),.ptr key ol o,.ptr key' ol' o'=>match sz P e with
     | some (_+1)=>if key=key' then A (ol&&ol',N (o=o'))else F
     | _=>F
   | some (.interface _),.aA,.aA=>A (C,C)
   | some (.interface _),.aA,.iface .. =>A (C,G)
   | some (.interface _),.iface ..,.aA=>A (C,G)
   | some (.interface _),.iface tx vx,.iface ty vy=>if tx=ty then(match P.info? tx with
      | some i=>if i.comparable then eqv P d tx vx vy else F
      | none=>F)else A (C,G)
   | some (.slice _),.aK,.aK=>A (C,C)
   | some (.slice _),.aK,.slc .. =>A (C,G)
   | some (.slice _),.slc ..,.aK=>A (C,G)
   | some (.slice _),.aK,.bx _ _ z _ n _=>A (!z,z&&R n 0)
   | some (.slice _),.bx _ _ z _ n _,.aK=>A (!z,z&&R n 0)
   | some (.map _ _),.gr,.gr=>A (C,C)
   | some (.map _ _),.map _,.gr=>A (C,G)
   | some (.func _ _ _),.fk,.fk=>A (C,C)
   | some (.func _ _ _),.fk,.func .. =>A (C,G)
   | some (.func _ _ _),.func ..,.fk=>A (C,G)
   | some (.struct fs),.agg xs,.agg ys=>if P.stoodInHeld t then F else
      fs.toList.foldr (λf acc=>if f.name= "_" then acc else match partOf P f.type xs f.offset,partOf P f.type ys f.offset with
       | some u,A v=>match eqv P d f.type u v with
         | some r=>m7 r acc
         | none=>F
       | _,_=>F) (A (C,C))
   | some (.array len elem),.agg xs,.agg ys=>match sz P elem with
     | some n=>(ep len).foldr (λi acc=>match partOf P elem xs (i*n),partOf P elem ys (i*n)with
        | some u,A v=>match eqv P d elem u v with
          | some r=>m7 r acc
          | none=>F
        | _,_=>F) (A (C,C))
     | none=>F
   | some (.pointer _),.cH,.iD .. =>A (C,G)
   | some (.pointer _),.iD ..,.cH=>A (C,G)
   | some (.slice _),.aK,.aS _ _ z _ _ n _=>A (G,z&&R n 0)
   | some (.slice _),.aS _ _ z _ _ n _,.aK=>A (G,z&&R n 0)
   | some (.pointer _),.cH,.fY .. =>A (C,G)
   | some (.pointer _),.fY ..,.cH=>A (C,G)
   | _,_,_=>F
theorem EZ {d d':Nat}{xs ys:List SV}
  (ih: ∀ t x y l b,eqv P d t x y=A (l,b)->(M d' t (x.val E) (y.val E)).run P w=.ok b w/\(l=C->True)) :
  ∀(fs:List Field) (l b:Bool),fs.foldr (λf acc=>if f.name= "_" then acc else match partOf P f.type xs f.offset,partOf P f.type ys f.offset with
      | some u,A v=>match eqv P d f.type u v with
        | some r=>m7 r acc
        | none=>F
      | _,_=>F) (A (C,C))=A (l,b) ->
   (b5 d' (SV.vals E xs).toArray (SV.vals E ys).toArray fs).run P w=.ok b w:=by
 intro fs;induction fs with
 | nil=>intro l b h;simp at h;obtain⟨rfl,rfl⟩:=h;simp[b5]
 | cons f r ihl =>
   intro l b h;simp only[ek] at h;by_cases hn:f.name= "_"
   ·rw[if_pos hn] at h;simp only[b5];rw[if_neg (by simp[hn])];exact ihl l b h
   ·rw[if_neg hn] at h;simp only[b5];rw[if_pos hn];split at h
    ·rename_i u v hu hv;split at h
     ·rename_i q hq;obtain⟨ql,qb⟩:=q;have hr:=(ih _ _ _ _ _ hq).1;simp only[J,gN hu,gN hv,L,hr,ej];cases qb with
      | false =>
        simp only[c!,if_true,S];unfold m7 at h;split at h
        ·injection h with h;injection h with _ h;rw[h]
        ·rename_i l0 b0 _ heq;injection heq with e1 e2;subst e1;subst e2;split at h
         ·injection h with h;injection h with _ h;simp at h;rw[h]
         ·cases h
      | true =>
        simp only[bl,a_,if_false];unfold m7 at h;split at h
        ·rename_i heq;cases heq
        ·rename_i l0 b0 _ heq;injection heq with e1 e2;subst e1;subst e2;split at h
         ·rename_i l' b' hacc;injection h with h;injection h with _ h;simp at h;subst h;exact ihl _ _ hacc
         ·cases h
     ·cases h
    ·cases h
theorem Hw {d d' n:Nat}{xs ys:List SV}
  (ih: ∀ t x y l b,eqv P d t x y=A (l,b)->(M d' t (x.val E) (y.val E)).run P w=.ok b w) :
  ∀(fs:List Nat) (l b:Bool),fs.foldr (λi acc=>match partOf P t xs (i*n),partOf P t ys (i*n)with
      | some u,A v=>match eqv P d t u v with
        | some r=>m7 r acc
        | none=>F
      | _,_=>F) (A (C,C))=A (l,b) ->
   (cL d' t n (SV.vals E xs).toArray (SV.vals E ys).toArray fs).run P w=.ok b w:=by
 intro fs;induction fs with
 | nil=>intro l b h;simp at h;obtain⟨rfl,rfl⟩:=h;simp[cL]
 | cons f r ihl =>
   intro l b h;simp only[ek] at h;simp only[cL];split at h
   ·rename_i u v hu hv;split at h
    ·rename_i q hq;obtain⟨ql,qb⟩:=q;have hr:=ih _ _ _ _ _ hq;simp only[J,gN hu,gN hv,L,hr,ej];cases qb with
     | false =>
       simp only[c!,if_true,S];unfold m7 at h;split at h
       ·injection h with h;injection h with _ h;rw[h]
       ·rename_i l0 b0 _ heq;injection heq with e1 e2;subst e1;subst e2;split at h
        ·injection h with h;injection h with _ h;simp at h;rw[h]
        ·cases h
     | true =>
       simp only[bl,a_,if_false];unfold m7 at h;split at h
       ·rename_i heq;cases heq
       ·rename_i l0 b0 _ heq;injection heq with e1 e2;subst e1;subst e2;split at h
        ·rename_i l' b' hacc;injection h with h;injection h with _ h;simp at h;subst h;exact ihl _ _ hacc
        ·cases h
    ·cases h
   ·cases h
set_option maxHeartbeats 2000000 in
theorem NC : ∀(d:Nat) (t:TypeId) (x y:SV) (l b:Bool),eqv P d t x y=A (l,b)->∀ e,(M (d+e) t (x.val E) (y.val E)).run P w=.ok b w:=by
 intro d;induction d with
 | zero=>intro t x y l b h;simp[eqv] at h
 | succ d ih =>
   intro t x y l b h e;rw[show d+1+e=(d+e)+1 by omega];unfold eqv at h;split at h
   case h_1=>rename_i hd;injection h with h;injection h with _ h;subst h;simp[M,aL hd,SV.val]
   case h_2 =>
    rename_i k l0 a k' l1 b1 hd;split at h
    ·rename_i hk;subst hk;injection h with h;injection h with _ h;subst h;simp[M,aL hd,SV.val];by_cases e:a=b1<;>simp[e]
    ·cases h
   case h_3 =>rename_i l0 a l1 b1 hd;injection h with h;injection h with _ h;subst h;simp[M,aL hd,SV.val,beq_toListBytes];by_cases e:a=b1<;>simp[e]
   case h_9 =>
    rename_i el key ol o key' ol' o' hd;split at h
    ·rename_i n hn;split at h
     ·rename_i hk;subst hk;injection h with h;injection h with _ h;subst h;simp[M,aL hd,SV.val,cu hn,sameAddr];by_cases e:o=o'<;>simp[e]
     ·cases h
    ·cases h
   case h_13 =>
    rename_i ms tx vx ty vy hd;split at h
    ·rename_i ht;subst ht;split at h
     ·rename_i i hi;split at h
      ·rename_i hcmp;simp only[M,J,aL hd,SV.val,L,ne_eq,not_true_eq_false,if_false,jn hi,hcmp,bl,a_];exact ih _ _ _ _ _ h e
      ·cases h
     ·cases h
    ·rename_i ht;injection h with h;injection h with _ h;subst h;simp[M,aL hd,SV.val,ht]
   case h_24 =>
    rename_i fs xs ys hd;split at h
    ·cases h
    ·rename_i hs;have hf:P.fieldsOf t=fs:=by simp[Program.fieldsOf,hd]
     have:=run_equalIn_struct (P:=P) w (d+e) t (SV.vals E xs).toArray (SV.vals E ys).toArray (by rw[hf];exact hd) (by simpa using hs);simp only[SV.val];rw[this,hf];exact EZ (λt x y l b hq=>⟨ih t x y l b hq e,λ_=>trivial⟩) fs.toList l b h
   case h_25 =>
    rename_i len elem xs ys hd;split at h
    ·rename_i n hn;have hn': ∃ i,P.info? elem=A i/\P.cellsOf elem=n:=by
      unfold sz at hn;split at hn
      ·rename_i i hi;injection hn with hn;exact⟨i,hi,by simp[Program.cellsOf,hi,hn]⟩
      ·cases hn
     obtain⟨i,hi,hc⟩:=hn';simp only[SV.val];rw[run_equalIn_array w (d+e) (SV.vals E xs).toArray (SV.vals E ys).toArray hd hi,hc];exact Hw (λt x y l b hq=>ih t x y l b hq e) (ep len) l b h
    ·cases h
   all_goals first
    | (cases h;done)
    | (rename_i z _ n _ hd;cases hz:z&&R n 0<;>rw[hz] at h<;>injection h with h<;>injection h with _ h<;>subst h<;>simp only[M,J,aL hd,SV.val,L,hz,cond_true,cond_false]<;>rfl)
    | (rename_i z _ _ n _ hd;cases hz:z&&R n 0<;>rw[hz] at h<;>injection h with h<;>injection h with _ h<;>subst h<;>simp only[M,J,aL hd,SV.val,L,hz,cond_true,cond_false]<;>rfl)
    | (rename_i hd;injection h with h;injection h with _ h;subst h;simp only[M,J,aL hd,SV.val,L];rfl)
    | (rename_i hd;injection h with h;injection h with _ h;subst h;simp[M,aL hd,SV.val];done)
section
variable {P : Program} {look : k5} {σ : Operand -> Option SV}
def isConst:Operand->Bool
 | .const _=>C
 | _=>G
def SV.gen:SV->Bool
 | .int .. | .str .. | .raw _=>G
 | _=>C
def lF (P:Program)(t:TypeId)(c:Bool)(x y:SV):Bool :=
 x.gen&&y.gen&&(match x,y with
 | .aA,.aA=>c
 | .agg _,.agg _=>!P.eqGuardType P.depth t
 | _,_=>C)
theorem sU {y:Operand}{b:SV}(h:lF P t (isConst x||isConst y) a b=C) :
  (eqGuard op t x y (a.val E) (b.val E)).run P w=.ok () w:=by
 unfold eqGuard lF at *;cases op
 all_goals try rfl
 all_goals
  simp only[bl,a_,if_false];split at h
  ·simp only[bh] at h;have:=h.2;simp only[SV.val];cases x<;>cases y<;>simp_all [isConst]
  ·simp only[bh] at h;have:=h.2;simp only[SV.val];simp at this;simp[this]
  ·rename_i h1 h2
   cases a<;>cases b<;>simp only[SV.val]<;>first
    | rfl
    | (exact(h1 rfl rfl).elim)
    | (exact(h2 _ _ rfl rfl).elim)
    | (simp[SV.gen] at h;done)
theorem binOp_eql {b:SV}(ha:a.gen=C)(_hb:b.gen=C) :
  binOp .eql t (a.val E) (b.val E)=(do pure (.bool (← b6 t (a.val E) (b.val E))):Sem Value) /\
  binOp .neq t (a.val E) (b.val E)=(do pure (.bool (!(← b6 t (a.val E) (b.val E)))):Sem Value):=by
 cases a<;>first | (simp[SV.gen] at ha;done) | (simp only[SV.val];exact⟨rfl,rfl⟩)
def abG (P:Program)(op:BinOp)(t:TypeId)(c:Bool)(x y:SV)(K:Option SV->VC):VC :=
 match op,x,y with
 | .shl,.int k l a,.int _ l' b=>Gi C k l a l' b K
 | .shr,.int k l a,.int _ l' b=>Gi G k l a l' b K
 | op,.int k l a,.int k' l' b=>if k=k' then abI op k l a l' b K else .fail "binOp: kinds"
 | op,.str l a,.str l' b=>abM op (l&&l') a b K
 | .eql,x,y=>if lF P t c x y then(match eqv P 50 t x y with
    | some (l,b)=>K (A (.bool l b))
    | none=>.fail "eql")else .fail "eql: guard"
 | .neq,x,y=>if lF P t c x y then(match eqv P 50 t x y with
    | some (l,b)=>K (A (.bool l (!b)))
    | none=>.fail "neq")else .fail "neq: guard"
 | _,_,_=>.fail "binOp"
theorem Yn {k:IntKind}{a:Int}(h1:op≠.shl)(h2:op≠.shr)
  (h: ∀ E w ρ,Compat E look w->Reads E σ ρ->(s ρ).run P w=(binOp op 0 (.int k a) (.int k b)).run P w):aW P look σ s (abI op k l a l' b):=by
 unfold abI
 have hb: ∀ w,(binOp op 0 (.int k a) (.int k b)).run P w=(match op with
   | .add | .sub | .mul=>b9 op k a b
   | .quo | .rem=>Z op k a b
   | .and | .or | .xor | .andNot=>Y op k a b
   | _=>ei op a b:Sem Value).run P w:=by
  intro w;cases op<;>first | (exact absurd rfl h1) | (exact absurd rfl h2) | simp[binOp]
 cases op
 case add=>exact lK λE w ρ hc hr=>by rw[h E w ρ hc hr,hb];simp[b9]
 case sub=>exact lK λE w ρ hc hr=>by rw[h E w ρ hc hr,hb];simp[b9]
 case mul=>exact lK λE w ρ hc hr=>by rw[h E w ρ hc hr,hb];simp[b9]
 case quo=>exact Od (rem:=G) λE w ρ hc hr=>by rw[h E w ρ hc hr,hb];rfl
 case rem=>exact Od (rem:=C) λE w ρ hc hr=>by rw[h E w ρ hc hr,hb];rfl
 case and=>exact vF (.inl rfl) λE w ρ hc hr=>by rw[h E w ρ hc hr,hb]
 case or=>exact vF (.inr (.inl rfl)) λE w ρ hc hr=>by rw[h E w ρ hc hr,hb]
 case xor=>exact vF (.inr (.inr rfl)) λE w ρ hc hr=>by rw[h E w ρ hc hr,hb]
 case shl=>exact absurd rfl h1
 case shr=>exact absurd rfl h2
 case andNot=>exact aW.fail _
 all_goals (refine aW.v _ λE w ρ hc hr=> ?_;rw[h E w ρ hc hr,hb];simp[ei,SV.val])
 all_goals (by_cases e:a=b<;>simp[e])
theorem Km {u:TypeId}{k k':IntKind}{a:Int}:binOp op t (.int k a) (.int k' b)=binOp op u (.int k a) (.int k' b):=by cases op<;>rfl
theorem Yk {_yt:TypeId}{y:Operand}{b:SV}(hx:σ x=A a)(hy:σ y=A b) :
  aW P look σ (λρ=>do eqGuard op t x y (ρ x) (ρ y);binOp op t (ρ x) (ρ y)) (abG P op t (isConst x||isConst y) a b):=by
 have hi: ∀ {k k':IntKind} {n m:Int} {w:World},(do eqGuard op t x y (.int k n) (.int k' m);binOp op t (.int k n) (.int k' m):Sem Value).run P w=(binOp op t (.int k n) (.int k' m)).run P w:=by
  intro k k' n m w;simp only[J];have:(eqGuard op t x y (.int k n) (.int k' m)).run P w=.ok () w:=by unfold eqGuard;split<;>simp
  rw[this];rfl
 unfold abG;split
 ·rename_i k l n k' l' m;exact D0 (left:=C) (yk:=k') λE w ρ hc hr=>by rw[hr x _ hx,hr y _ hy];simp only[SV.val];rw[hi];rfl
 ·rename_i k l n k' l' m;exact D0 (left:=G) (yk:=k') λE w ρ hc hr=>by rw[hr x _ hx,hr y _ hy];simp only[SV.val];rw[hi];rfl
 ·rename_i op' k l n k' l' m h1 h2;refine aW.ite (λe=> ?_) (λ_=>aW.fail _);subst e;exact Yn h1 h2 λE w ρ hc hr=>by rw[hr x _ hx,hr y _ hy];simp only[SV.val];rw[hi,Km]
 ·rename_i op' l n l' m;refine Yr λE w ρ hc hr=> ?_;rw[hr x _ hx,hr y _ hy];simp only[SV.val,J];have:(eqGuard op t x y (.string ⟨n.toArray⟩) (.string ⟨m.toArray⟩)).run P w=.ok () w:=by unfold eqGuard;split<;>simp
  rw[this];cases op<;>rfl
 ·rename_i a' b' _ _;refine aW.ite (λhg=> ?_) (λ_=>aW.fail _);split
  ·rename_i l v he;refine aW.v _ λE w ρ hc hr=> ?_;have hq:=NC (E:=E) (w:=w) 50 t a b l v he (ag - 50);have hg':=hg;unfold lF at hg';simp only[bh] at hg';rw[hr x _ hx,hr y _ hy];simp only[J,sU hg,L];rw[(binOp_eql hg'.1.1 hg'.1.2).1];simp only[J,b6];rw[show ag=50+(ag - 50)from rfl,hq];rfl
  ·exact aW.fail _
 ·rename_i a' b' _ _;refine aW.ite (λhg=> ?_) (λ_=>aW.fail _);split
  ·rename_i l v he;refine aW.v _ λE w ρ hc hr=> ?_;have hq:=NC (E:=E) (w:=w) 50 t a b l v he (ag - 50);have hg':=hg;unfold lF at hg';simp only[bh] at hg';rw[hr x _ hx,hr y _ hy];simp only[J,sU hg,L];rw[(binOp_eql hg'.1.1 hg'.1.2).2];simp only[J,b6];rw[show ag=50+(ag - 50)from rfl,hq];rfl
  ·exact aW.fail _
 ·exact aW.fail _
def qun (op:UnOp)(x:SV)(K:Option SV->VC):VC :=
 match op,x with
 | .not,.bool l b=>K (A (.bool l (!b)))
 | .neg,.int k l n=>qP k l (0 - n) K
 | .xor,.int k l n=>(match k.signed with
   | false=>DZ .xor k l (hi k) n K
   | true=>.fail "unOp")
 | _,_=>.fail "unOp"
theorem abw {k:IntKind}(h:k.signed=G):k.max=hi k:=by cases k<;>first | rfl | (simp[bn] at h;done)
theorem abN {op:UnOp}(hx:σ x=A a):aW P look σ (λρ=>Op.unary op (ρ x)) (qun op a):=by
 unfold qun;split
 ·exact aW.v _ λE w ρ hc hr=>by rw[hr x _ hx];rfl
 ·exact lK λE w ρ hc hr=>by rw[hr x _ hx];rfl
 ·rename_i k l n;cases hs:k.signed with
  | true=>exact aW.fail _
  | false =>refine vF (.inr (.inr rfl)) λE w ρ hc hr=> ?_;rw[hr x _ hx];simp only[SV.val,Op.unary,hs,abw hs];rfl
 ·exact aW.fail _
def fits:IntKind->IntKind->Bool
 | .u8,.u16 | .u8,.u32 | .u8,.u64 | .u16,.u32 | .u16,.u64 | .u32,.u64=>C
 | a,b=>decide (a=b)
def Vd (P:Program)(src dst:TypeId)(x:SV)(K:Option SV->VC):VC :=
 match P.underlying src,P.underlying dst,x with
 | some (.int j),A (.int k),.int _ l n=>match l|| !fits j k with
   | true=>qP k l n K
   | false=>.and (.atom (lo k<=n/\n<=hi k)) (K (A (.int k G n)))
 | some .string,A .string,.str l s=>K (A (.str l s))
 | _,_,_=>.fail "convert"
theorem Ve {src dst:TypeId}(hx:σ x=A a):aW P look σ (λρ=>convert src dst (ρ x)) (Vd P src dst a):=by
 unfold Vd;split
 ·rename_i j k k' l n hs hd;have hrun: ∀ w,(convert src dst (.int k' n)).run P w=.ok (.int k (k.wrap n)) w:=λw=>by simp only[convert,J,aL hs,aL hd,L];rfl
  split
  ·exact lK λE w ρ hc hr=>by rw[hr x _ hx];exact hrun w
  ·exact aW.atom λhb=>aW.v _ λE w ρ hc hr=>by rw[hr x _ hx];simp only[SV.val];rw[hrun w,sG hb]
 ·rename_i l s hs hd;exact aW.v _ λE w ρ hc hr=>by rw[hr x _ hx];simp only[SV.val,convert,J,aL hs,aL hd,L];rfl
 ·exact aW.fail _
def ue (P:Program)(t:TypeId)(x:SV)(K:Option SV->VC):VC :=
 match P.concrete t with
 | true=>K (A (.iface t x))
 | false=>.fail "makeInterface"
theorem Ct (hx:σ x=A a):aW P look σ (λρ=>Instr.makeInterface t (ρ x)) (ue P t a):=by
 unfold ue;split
 ·rename_i h;exact aW.v _ λE w ρ hc hr=>by rw[hr x _ hx,run_makeInterface w t _ h];rfl
 ·exact aW.fail _
def E5 (σ:Operand->Option SV):List Operand->Option (List SV)
 | []=>A []
 | x::r=>match σ x,E5 σ r with
   | some v,A l=>A (v::l)
   | _,_=>F
theorem ND {σ:Operand->Option SV}{E:Nat->Nat}{ρ:Operand->Value}(hr:Reads E σ ρ): ∀ {xs:List Operand} {l:List SV},E5 σ xs=A l->xs.map ρ=SV.vals E l
 | [],l,h=>by simp[E5] at h;subst h;rfl
 | x::r,l,h=>by
   simp only[E5] at h;split at h
   ·rename_i v l' hv hl;injection h with h;subst h;simp[SV.vals,hr x v hv,ND hr hl]
   ·cases h
theorem mM {ρ:Operand->Value}(hr:Reads E σ ρ){xs:Array Operand}{l:List SV}(h:E5 σ xs.toList=A l) :
  xs.map ρ=(SV.vals E l).toArray:=by
 rw[← ND hr h];apply Array.ext';simp
def xU (fn:Fn)(a b:Option (List SV))(K:Option SV->VC):VC :=
 match a,b with
 | some a,A b=>K (A (.func fn a b))
 | _,_=>.fail "makeFunc"
theorem Gf {fn:Fn}{xs ys:Array Operand}:aW P look σ (λρ=>Instr.makeFunc fn (xs.map ρ) (ys.map ρ)) (xU fn (E5 σ xs.toList) (E5 σ ys.toList)):=by
 unfold xU;split
 ·rename_i a b ha hb;exact aW.v _ λE w ρ hc hr=>by rw[mM hr ha,mM hr hb];rfl
 ·exact aW.fail _
def BB (x:SV)(i:Nat)(K:Option SV->VC):VC :=
 match x with
 | .aD vs=>(match vs[i]? with
   | some v=>K (A v)
   | none=>.fail "extract")
 | _=>.fail "extract: no tuple"
theorem I8 {i:Nat}(hx:σ x=A a):aW P look σ (λρ=>d_ (ρ x) i) (BB a i):=by
 unfold BB;split
 ·rename_i vs;split
  ·rename_i v hv;refine aW.v _ λE w ρ hc hr=> ?_;rw[hr x _ hx];simp[SV.val,d_,SV.bP,hv]
  ·exact aW.fail _
 ·exact aW.fail _
def Mr (P:Program)(t:TypeId)(x:SV)(f:Nat)(K:Option SV->VC):VC :=
 match P.underlying t,x with
 | some (.struct fs),.agg cs=>(match fs[f]? with
   | some fd=>(match partOf P fd.type cs fd.offset with
     | some v=>K (A v)
     | none=>.fail "field: no such part")
   | none=>.fail "field: no such field")
 | _,_=>.fail "field"
theorem Qv {f:Nat}(hx:σ x=A a):aW P look σ (λρ=>d! t (ρ x) f) (Mr P t a f):=by
 unfold Mr;split
 ·rename_i fs cs hd;split
  ·rename_i fd hf;split
   ·rename_i v hv;refine aW.v _ λE w ρ hc hr=> ?_;rw[hr x _ hx];simp[SV.val,d!,aL hd,hf,asAgg,gN hv]
   ·exact aW.fail _
  ·exact aW.fail _
 ·exact aW.fail _
def ai (s:e_)(i:Int):Int:=((s.getD i.toNat 0).toNat:Int)
def Ms (P:Program)(t:TypeId)(x i:SV)(K:Option SV->VC):VC :=
 match P.underlying t,x,i with
 | some .string,.str l s,.int _ l' n=>(match l&&l' with
   | true=>if 0<=n/\n<s.length then K (A (.int .u8 C (ai s n)))else .fail "index out of range"
   | false=>.and (.atom (0<=n/\n<s.length)) (K (A (.int .u8 G (ai s n)))))
 | some (.array len e),.agg cs,.int _ C n=>(match sz P e with
   | some m=>if 0<=n/\n<len then(match partOf P e cs (n.toNat*m)with
     | some v=>K (A v)
     | none=>.fail "index: no such part")else .fail "index out of range"
   | none=>.fail "index")
 | some (.array len e),.agg cs,.int _ G n=>(match sz P e,P.underlying e with
   | some 1,A .string=>(match nw cs with
     | some ss=>.and (.atom (0<=n/\n<len/\n<ss.length)) (K (A (.str G (bZ ss n.toNat))))
     | none=>.fail "index: no texts")
   | _,_=>.fail "index")
 | _,_,_=>.fail "index"
theorem v7 (hd:P.underlying t=A .string){s:e_}{k:IntKind}(h:0<=n/\n<s.length) :
  (a! t ((SV.str l s).val E) ((SV.int k l' n).val E)).run P w=.ok (.int .u8 (ai s n)) w:=by
 have hn:n.toNat<s.length:=by omega
 simp only[SV.val,a!,asIntOf,J,S,L,aL hd,h.1,if_true];have e:(T s.toArray)[n.toNat]?=A s[n.toNat]:=by rw[getElem?_pos (T s.toArray) n.toNat (by simpa [cm] using hn)];rfl
 rw[e];simp[ai,List.getD_eq_getElem?_getD,hn]
theorem Qw {i:Operand}{b:SV}(hx:σ x=A a)(hi:σ i=A b):aW P look σ (λρ=>a! t (ρ x) (ρ i)) (Ms P t a b):=by
 unfold Ms;split
 ·rename_i l s k l' n hd;split
  ·exact aW.ite (λh=>aW.v _ λE w ρ hc hr=>by rw[hr x _ hx,hr i _ hi];exact v7 hd h) (λ_=>aW.fail _)
  ·exact aW.atom λh=>aW.v _ λE w ρ hc hr=>by rw[hr x _ hx,hr i _ hi];exact v7 hd h
 ·rename_i len e cs k n hd;split
  ·rename_i m hm;refine aW.ite (λh=> ?_) (λ_=>aW.fail _);split
   ·rename_i v hv;refine aW.v _ λE w ρ hc hr=> ?_;rw[hr x _ hx,hr i _ hi];simp[SV.val,a!,asIntOf,aL hd,h.1,h.2,cu hm,gN hv]
   ·exact aW.fail _
  ·exact aW.fail _
 ·rename_i len e cs k n hd;split
  ·rename_i hm he;split
   ·rename_i ss hss;refine aW.atom λh=>aW.v _ λE w ρ hc hr=> ?_;have hl:n.toNat<cs.length:=by rw[← uw hss];omega
    obtain⟨b,hb⟩:=mD hss n.toNat _ (V hl);have hv:partOf P e cs (n.toNat*1)=A (.str b (bZ ss n.toNat)):=by simp only[partOf,he,fy,b!];rw[V hl,hb]
    have hp:=gN (E:=E) (w:=w) hv;rw[hr x _ hx,hr i _ hi];rw[b!] at hp;simp[SV.val,a!,asIntOf,aL hd,h.1,h.2.1,cu hm,hp]
   ·exact aW.fail _
  ·exact aW.fail _
 ·exact aW.fail _
end
end Sx
end Go.Proofs.YtoibaecagklkaaaGreatDoor
