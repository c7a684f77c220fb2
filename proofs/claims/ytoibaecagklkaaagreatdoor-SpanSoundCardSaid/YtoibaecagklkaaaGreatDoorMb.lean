/-
  The framework's second part: operations that leave the world alone.
-/
import Derived.Test.YtoibaecagklkaaaGreatDoorMa
import Derived.Laws.StructEq
import Derived.ChangeKeysEq
import Derived.Laws.Build
namespace Go.Proofs.YtoibaecagklkaaaGreatDoor.Sx
open Go
theorem aC {P:Program}{w:World}{t:TypeId}{d:TypeDesc}(h:P.underlying t=some d):(underlying t).run P w=.ok d w:=by
 simp[underlying,h]
theorem iE {P:Program}{w:World}{t:TypeId}{i:TypeInfo}(h:P.info? t=some i):(typeInfo t).run P w=.ok i w:=by
 simp[typeInfo,h]
def sz (P:Program)(t:TypeId):Option Nat:=match P.info? t with | some i=>some i.size | none=>none
theorem bK {P:Program}{w:World}{t:TypeId}{n:Nat}(h:sz P t=some n):(sizeOf t).run P w=.ok n w:=by
 unfold sz at h
 split at h
 ·rename_i i hi;injection h with h;subst h;simp[sizeOf,iE hi]
 ·cases h
def eB:TypeDesc->Bool
 | .struct _=>true
 | .array _ _=>true
 | _=>false
theorem bZ {P:Program}{w:World}{t:TypeId}{d:TypeDesc}(h:P.underlying t=some d):(isAgg t).run P w=.ok (eB d) w:=by
 cases d<;>simp[isAgg,aC h,eB]
theorem ck (b o n:Nat):(⟨b,o,none⟩:Addr).add n=⟨b,o+n,none⟩:=by
 unfold Addr.add;split<;>simp_all
theorem cell_of {w:World}{b o:Nat}{c:Array Value}{ty:TypeId}{fr:Nat×Nat}(h:w.heap[b]?=some (.cells c ty fr)) :
  w.cell? ⟨b,o,none⟩=c[o]?:=by
 simp[World.cell?,h]
theorem run_loadCellsFrom {P:Program}{w:World}{b:Nat}{c:Array Value}{ty:TypeId}{fr:Nat×Nat}(h:w.heap[b]?=some (.cells c ty fr))(o:Nat) :
  ∀(vs:List Value) (i:Nat) (acc:Array Value),(∀ j v,vs[j]?=some v->c[o+i+j]?=some v) ->
   (loadCellsFrom ⟨b,o,none⟩ i vs.length acc).run P w=.ok (acc++vs.toArray) w:=by
 intro vs
 induction vs with
 | nil=>intro i acc _;simp[loadCellsFrom]
 | cons v r ih =>
   intro i acc hv
   have h0:=hv 0 v rfl
   simp only[List.length_cons,loadCellsFrom,Sem.run_bind,run_load,ck,cell_of h]
   rw[show o+i+0=o+i from rfl] at h0
   rw[h0]
   simp only[Result.andThen_ok]
   rw[ih (i+1) (acc.push v) (fun j u hu=>by have:=hv (j+1) u (by simpa using hu);rw[← this];congr 1;omega)]
   simp
theorem run_loadCells {P:Program}{w:World}{b:Nat}{c:Array Value}{ty:TypeId}{fr:Nat×Nat}(h:w.heap[b]?=some (.cells c ty fr))(o:Nat)
  (vs:List Value) (hv: ∀(j:Nat) v,vs[j]?=some v->c[o+j]?=some v) :
  (loadCells ⟨b,o,none⟩ vs.length).run P w=.ok vs.toArray w:=by
 have:=run_loadCellsFrom (P:=P) h o vs 0 #[] (fun j v hj=>by simpa using hv j v hj)
 simpa [loadCells] using this
def fu (cs:List SV)(o n:Nat):Option (List SV) :=
 match o,cs with
 | 0,cs=>(match n,cs with
   | 0,_=>some []
   | n+1,x::r=>(match fu r 0 n with | some l=>some (x::l) | none=>none)
   | _+1,[]=>none)
 | o+1,_::r=>fu r o n
 | _+1,[]=>none
termination_by structural cs
theorem cc: ∀ {cs:List SV} {o n:Nat} {l:List SV},fu cs o n=some l->l.length=n/\∀ j v,l[j]?=some v->cs[o+j]?=some v
 | cs,0,0,l,h=>by
   cases cs<;>simp[fu] at h<;>subst h<;>simp
 | [],0,n+1,l,h=>by simp[fu] at h
 | x::r,0,n+1,l,h=>by
   simp only[fu] at h
   split at h
   ·rename_i l' hl
    injection h with h;subst h
    have:=cc hl
    refine⟨by simp[this.1],fun j v hj=> ?_⟩
    cases j with
    | zero=>simpa using hj
    | succ j=>have:=this.2 j v (by simpa using hj);simpa using this
   ·cases h
 | [],o+1,n,l,h=>by simp[fu] at h
 | x::r,o+1,n,l,h=>by
   simp only[fu] at h
   have:=cc h
   refine⟨this.1,fun j v hj=> ?_⟩
   have:=this.2 j v hj
   rw[show o+1+j=(o+j)+1 by omega];simpa using this
abbrev QT:=(Option SV->VC)->VC
abbrev jH:=Nat->Option SB
def Compat (E:Nat->Nat)(look:jH)(w:World):Prop:=(∀ k B,look k=some B->B.no=false->∃ o,w.heap[E k]?=some o/\bn E B o)/\pH w/\∀ k B a,look k=some B->B.eO (E k) a->∃ o,w.heap[a]?=some o/\bn E (B.el a) o
def Reads (E:Nat->Nat)(σ:Operand->Option SV)(ρ:Operand->Value):Prop:=∀ x v,σ x=some v->ρ x=v.val E
def aM (P:Program)(look:jH)(σ:Operand->Option SV)(s:(Operand->Value)->Sem Value)(t:QT):Prop :=
 ∃(obl:Prop) (sv:Option SV),(∀ K,(t K).holds↔obl/\(K sv).holds) /\
  (∀ E w ρ,Compat E look w->Reads E σ ρ->obl->∃ r,(s ρ).run P w=.ok r w/\∀ v,sv=some v->r=v.val E)
section
variable {P : Program} {look : jH} {σ : Operand -> Option SV} {s : (Operand -> Value) -> Sem Value}
theorem aM.fail (why:String):aM P look σ s (fun _=>.fail why) :=
 ⟨False,none,fun _K=>⟨fun h=>h.elim,fun h=>h.1.elim⟩,fun _ _ _ _ _ h=>h.elim⟩
theorem aM.k (sv:Option SV)(h: ∀ E w ρ,Compat E look w->Reads E σ ρ->∃ r,(s ρ).run P w=.ok r w/\∀ v,sv=some v->r=v.val E) :
  aM P look σ s (fun K=>K sv) :=
 ⟨True,sv,fun _K=>⟨fun h=>⟨trivial,h⟩,fun h=>h.2⟩,fun E w ρ hc hr _=>h E w ρ hc hr⟩
theorem aM.v (v:SV)(h: ∀ E w ρ,Compat E look w->Reads E σ ρ->(s ρ).run P w=.ok (v.val E) w):aM P look σ s (fun K=>K (some v)) :=
 aM.k _ fun E w ρ hc hr=>⟨_,h E w ρ hc hr,fun v' hv=>by injection hv with hv;rw[hv]⟩
theorem aM.atom {p:Prop}{t:QT}(h:p->aM P look σ s t):aM P look σ s (fun K=>.and (.atom p) (t K)):=by
 by_cases hp:p
 ·obtain⟨obl,sv,h1,h2⟩:=h hp
  exact⟨obl,sv,fun K=>⟨fun x=>(h1 K).1 x.2,fun x=>⟨hp,(h1 K).2 x⟩⟩,h2⟩
 ·exact⟨False,none,fun K=>⟨fun x=>(hp x.1).elim,fun x=>x.1.elim⟩,fun _ _ _ _ _ h=>h.elim⟩
theorem aM.fork {b:Bool}{t:Bool->QT}(h:aM P look σ s (t b)):aM P look σ s (fun K=>Sx.fork b (fun c=>t c K)):=by
 obtain⟨obl,sv,h1,h2⟩:=h
 exact⟨obl,sv,fun K=>by rw[dJ];exact h1 K,h2⟩
theorem aM.ite {c:Prop}[Decidable c]{t u:QT}(h:c->aM P look σ s t)(h': ¬ c->aM P look σ s u) :
  aM P look σ s (fun K=>if c then t K else u K):=by
 by_cases hc:c
 ·simp only[hc,if_true];exact h hc
 ·simp only[hc,if_false];exact h' hc
end
def lo:IntKind->Int
 | .i8=> -128 | .i16=> -32768 | .i32=> -2147483648 | .i64=> -9223372036854775808
 | _=>0
def hi:IntKind->Int
 | .i8=>127 | .i16=>32767 | .i32=>2147483647 | .i64=>9223372036854775807
 | .u8=>255 | .u16=>65535 | .u32=>4294967295 | .u64=>18446744073709551615
def md:IntKind->Int
 | .i8 | .u8=>256 | .i16 | .u16=>65536 | .i32 | .u32=>4294967296 | .i64 | .u64=>18446744073709551616
theorem qu {k:IntKind}{n:Int}(h:lo k<=n/\n<=hi k):k.wrap n=n:=by
 obtain⟨h1,h2⟩:=h
 cases k<;>simp only[lo,hi] at h1 h2<;>simp only[IntKind.wrap,IntKind.bits,IntKind.signed]<;>simp<;>(try split)<;>omega
theorem S7 {k:IntKind}(hs:k.signed=false)(n:Int):k.wrap n=n% md k:=by
 cases k<;>simp[IntKind.signed] at hs<;>simp[IntKind.wrap,IntKind.bits,IntKind.signed,md]
def rB (k:IntKind):List SV->Option (List Int)
 | []=>some []
 | .int k' _ n::r=>if k=k' then(match rB k r with
   | some l=>some (n::l)
   | none=>none)else none
 | _::_=>none
def QX:List SV->IntKind
 | .int k _ _::_=>k
 | _=>.i64
def An (l:List Int)(i:Nat):Int:=l.getD i 0
theorem nc {k:IntKind}: ∀ {cs:List SV} {l:List Int},rB k cs=some l->l.length=cs.length/\∀(i:Nat) (v:SV),cs[i]?=some v->∃ b,v=.int k b (An l i)
 | [],l,h=>by simp[rB] at h;subst h;exact⟨rfl,fun i v hv=>by simp at hv⟩
 | .int k' b n::r,l,h=>by
   simp only[rB] at h
   split at h
   ·rename_i e;subst e
    split at h
    ·rename_i l' hl
     injection h with h;subst h
     obtain⟨h1,h2⟩:=nc hl
     refine⟨by simp[h1],fun i v hv=> ?_⟩
     cases i with
     | zero=>simp at hv;subst hv;exact⟨b,rfl⟩
     | succ i=>obtain⟨b',hb⟩:=h2 i v (by simpa using hv);exact⟨b',by rw[hb];rfl⟩
    ·cases h
   ·cases h
def lR:List SV->Option (List (List UInt8))
 | []=>some []
 | .str _ s::r=>(match lR r with
   | some l=>some (s::l)
   | none=>none)
 | _::_=>none
def bq (l:List (List UInt8))(i:Nat):List UInt8:=l.getD i []
theorem kE: ∀ {cs:List SV} {l:List (List UInt8)},lR cs=some l->∀(i:Nat) (v:SV),cs[i]?=some v->∃ b,v=.str b (bq l i)
 | [],l,h,i,v,hv=>by simp at hv
 | .str b s::r,l,h,i,v,hv=>by
   simp only[lR] at h
   split at h
   ·rename_i l' hl
    injection h with h;subst h
    cases i with
    | zero=>simp at hv;subst hv;exact⟨b,rfl⟩
    | succ i=>obtain⟨b',hb⟩:=kE hl i v (by simpa using hv);exact⟨b',by rw[hb];rfl⟩
   ·cases h
theorem rG: ∀ {cs:List SV} {l:List (List UInt8)},lR cs=some l->l.length=cs.length
 | [],l,h=>by simp[lR] at h;subst h;rfl
 | .str b s::r,l,h=>by
   simp only[lR] at h
   split at h
   ·rename_i l' hl
    injection h with h;subst h
    simp[rG hl]
   ·cases h
def jn (av:List au)(i k n:Nat):Option (List SV):=fu (av.map (au.at i)) k n
noncomputable def C8 (g:Nat):List (Nat×Array Value)->Option (Array Value)
 | []=>none
 | e::r=>if e.1=g then some e.2 else C8 g r
theorem rK {g:Nat}: ∀ {l:List (Nat×Array Value)} {cs:Array Value},C8 g l=some cs->(g,cs)∈ l
 | [],_,h=>by cases h
 | e::r,cs,h=>by
   simp only[C8] at h
   split at h
   ·rename_i he;injection h with h;subst h;subst he;exact List.mem_cons_self ..
   ·exact List.mem_cons_of_mem _ (rK h)
def SV.IV:Value->Option SV
 | .iface t (.agg cs)=>some (.iface t (.agg (cs.toList.map SV.raw)))
 | v=>SV.rF v
theorem SV.Jm {E:Nat->Nat}{v:Value}{x:SV}(h:SV.IV v=some x):x.val E=v:=by
 unfold SV.IV at h
 split at h
 ·injection h with h;subst h
  have: ∀ l:List Value,SV.vals E (l.map SV.raw)=l:=by
   intro l
   induction l with
   | nil=>rfl
   | cons a r ih=>simp only[List.map_cons,SV.vals,SV.val,ih]
  simp[SV.val,this]
 ·exact SV.rU h
def tU (k:IntKind):List Value->Option (List Int)
 | []=>some []
 | .int k' n::r=>if k=k' then(match tU k r with
   | some l=>some (n::l)
   | none=>none)else none
 | _::_=>none
def Tz:List Value->Option IntKind
 | .int k _::_::_=>some k
 | _=>none
theorem wk {k:IntKind}: ∀ {cs:List Value} {l:List Int},tU k cs=some l->l.length=cs.length/\∀(i:Nat),i<l.length->cs[i]?=some (.int k (An l i))
 | [],l,h=>by simp[tU] at h;subst h;exact⟨rfl,fun i hi=>absurd hi (Nat.not_lt_zero _)⟩
 | v::r,l,h=>by
   unfold tU at h
   split at h
   ·rename_i e;cases e
   ·rename_i k' n r' e
    injection e with e1 e2;subst e1;subst e2
    split at h
    ·rename_i e;subst e
     split at h
     ·rename_i l' hl
      injection h with h;subst h
      obtain⟨h1,h2⟩:=wk hl
      refine⟨by simp[h1],fun i hi=> ?_⟩
      cases i with
      | zero=>rfl
      | succ i=>simpa [An] using h2 i (by simpa using hi)
     ·cases h
    ·cases h
   ·cases h
def eS (c:au)(o:Nat):Nat->List SV
 | 0=>[]
 | n+1=>c.at o::eS c (o+1) n
theorem lp (c:au): ∀(n o:Nat),(eS c o n).length=n
 | 0,_=>rfl
 | n+1,o=>by simp[eS,lp c n (o+1)]
theorem n5 (c:au): ∀(n o j:Nat) (v:SV),(eS c o n)[j]?=some v->j<n/\v=c.at (o+j)
 | 0,_,j,v,h=>by simp[eS] at h
 | n+1,o,0,v,h=>by simp[eS] at h;exact⟨Nat.succ_pos _,h.symm⟩
 | n+1,o,j+1,v,h=>by
   simp only[eS,List.getElem?_cons_succ] at h
   obtain⟨h1,h2⟩:=n5 c n (o+1) j v h
   exact⟨by omega,by rw[h2];congr 1;omega⟩
noncomputable def J1 (P:Program)(look:jH)(t:TypeId)(a:Option SV)(K:Option SV->VC):VC :=
 match P.underlying t with
 | none=>.fail "load: no type"
 | some d =>
   match a with
   | some (.ptr key true o)=>(match look key with
     | some (.cells cs _ _)=>(match eB d with
       | true=>(match sz P t with
         | some n=>(match fu cs o n with
           | some l=>K (some (.agg l))
           | none=>.fail "load: not so many cells")
         | none=>.fail "load: no size")
       | false=>(match cs[o]? with
         | some v=>K (some v)
         | none=>.fail "load: no such cell"))
     | some (.rows false n [c] _ _ _)=>(match eB d with
       | true=>(match sz P t with
         | some m=>.and (.atom (o+m<=n)) (K (some (.agg (eS c o m))))
         | none=>.fail "load: no size")
       | false=>.and (.atom (o<n)) (K (some (c.at o))))
     | _=>.fail "load: no such block")
   | some (.jz key w i k)=>(match look key with
     | some (.rows _z n av _ro _tot _ty)=>(if av.length=w then(match eB d with
       | true=>(match sz P t with
         | some m=>(match jn av i k m with
           | some l=>.and (.atom (i<n)) (K (some (.agg l)))
           | none=>.fail "load: not so many columns")
         | none=>.fail "load: no size")
       | false=>(match av[k]? with
         | some c=>.and (.atom (i<n)) (K (some (c.at i)))
         | none=>.fail "load: no such column"))else .fail "load: another row")
     | _=>.fail "load: not a row")
   | some (.gu key w o i k)=>(match look key with
     | some (.view _z o' n av)=>(if av.length=w then(match eB d with
       | true=>(match sz P t with
         | some m=>(match jn av i k m with
           | some l=>.and (.atom (o'=o/\i<n)) (K (some (.agg l)))
           | none=>.fail "load: not so many columns")
         | none=>.fail "load: no size")
       | false=>(match av[k]? with
         | some c=>.and (.atom (o'=o/\i<n)) (K (some (c.at i)))
         | none=>.fail "load: no such column"))else .fail "load: another row")
     | _=>.fail "load: not a view")
   | some (.mR key base n i)=>(match look key with
     | some (.cells cs _ _)=>(match eB d,fu cs base n with
       | false,some l=>(match rB (QX l) l with
         | some zs=>.and (.atom (i<n)) (K (some (.int (QX l) false (An zs i))))
         | none=>(match lR l with
           | some ss=>.and (.atom (i<n)) (K (some (.str false (bq ss i))))
           | none=>.fail "load: no integers"))
       | _,_=>.fail "load: not so many cells")
     | some (.rows false nb [c] _ _ _)=>(match eB d with
       | false=>.and (.atom (i<n/\base+i<nb)) (K (some (c.at (base+i))))
       | true=>.fail "load: not so many cells")
     | _=>.fail "load: no such block")
   | some (.raw (.pointer (some ⟨g,o,none⟩)))=>(match eB d,C8 g nZ with
     | false,some cs=>(match Tz cs.toList with
       | some k=>(match tU k cs.toList with
         | some zs=>.and (.atom (o<zs.length)) (K (some (.int k false (An zs o))))
         | none=>.fail "load: what a variable holds")
       | none=>(match o with
         | 0=>(match cs[0]? with
           | some v=>(match SV.IV v with
             | some x=>K (some x)
             | none=>.fail "load: what a variable holds")
           | none=>.fail "load: no cell")
         | _+1=>.fail "load: a variable's element"))
     | _,_=>.fail "load: a variable that is not listed")
   | some (.eD key a o)=>(match look key with
     | some (.iw D cs _ _ _)=>(match eB d with
       | true=>(match sz P t with
         | some m=>(match jn cs a o m with
           | some l=>.and (.atom (D a=true)) (K (some (.agg l)))
           | none=>.fail "load: not so many columns")
         | none=>.fail "load: no size")
       | false=>(match cs[o]? with
         | some c=>.and (.atom (D a=true)) (K (some (c.at a)))
         | none=>.fail "load: no such column"))
     | _=>.fail "load: no family")
   | some (.lJ key w a i k)=>(match look key with
     | some (.dI D n av _)=>(if(av.map (bU.at a)).length=w then(match eB d with
       | true=>(match sz P t with
         | some m=>(match jn (av.map (bU.at a)) i k m with
           | some l=>.and (.atom (D a=true/\i<n a)) (K (some (.agg l)))
           | none=>.fail "load: not so many columns")
         | none=>.fail "load: no size")
       | false=>(match(av.map (bU.at a))[k]? with
         | some c=>.and (.atom (D a=true/\i<n a)) (K (some (c.at i)))
         | none=>.fail "load: no such column"))else .fail "load: another row")
     | _=>.fail "load: no family")
   | _=>.fail "load: no pointer"
theorem Nj {P:Program}{look:jH}{σ:Operand->Option SV}(t:TypeId)(x:Operand) :
  aM P look σ (fun ρ=>Instr.loadAt t (ρ x)) (J1 P look t (σ x)):=by
 unfold J1
 cases hd:P.underlying t with
 | none=>exact aM.fail _
 | some d =>
   simp only
   split
   ·rename_i key o hx
    split
    ·rename_i cs tot ty hk
     cases ha:eB d with
     | true =>
       simp only
       cases hn:sz P t with
       | none=>exact aM.fail _
       | some n =>
         simp only
         cases hl:fu cs o n with
         | none=>exact aM.fail _
         | some l =>
           refine aM.v _ fun E w ρ hc hr=> ?_
           obtain⟨ob,ho,c,fr,rfl,_,h2,_⟩:=hc.1 key _ hk rfl
           have hg:=cc hl
           have hll:=run_loadCells (P:=P) ho o (l.map (SV.val E)) (fun j v hj=>by
            rw[List.getElem?_map] at hj
            cases hjl:l[j]? with
            | none=>rw[hjl] at hj;cases hj
            | some u=>rw[hjl] at hj;injection hj with hj;subst hj;exact h2 _ _ (hg.2 j u hjl))
           rw[List.length_map,hg.1] at hll
           simp[Instr.loadAt,hr x _ hx,SV.val,Instr.sureAddr,loadVar,bZ hd,ha,bK hn,hll,SV.bp]
     | false =>
       simp only
       cases hv:cs[o]? with
       | none=>exact aM.fail _
       | some v =>
         refine aM.v _ fun E w ρ hc hr=> ?_
         obtain⟨ob,ho,c,fr,rfl,_,h2,_⟩:=hc.1 key _ hk rfl
         simp[Instr.loadAt,hr x _ hx,SV.val,Instr.sureAddr,loadVar,bZ hd,ha,cell_of ho,h2 _ _ hv]
    ·rename_i n col ro tot ty hk
     cases ha:eB d with
     | true =>
       simp only
       cases hn:sz P t with
       | none=>exact aM.fail _
       | some m =>
         refine aM.atom fun hi=>aM.v _ fun E w ρ hc hr=> ?_
         obtain⟨ob,ho,c,fr,rfl,_,_,_,h2⟩:=hc.1 key _ hk rfl
         have hll:=run_loadCells (P:=P) ho o ((eS col o m).map (SV.val E)) (fun j v hj=>by
          rw[List.getElem?_map] at hj
          cases hjl:(eS col o m)[j]? with
          | none=>rw[hjl] at hj;cases hj
          | some u =>
            rw[hjl] at hj;injection hj with hj;subst hj
            obtain⟨g1,g2⟩:=n5 col m o j u hjl
            subst g2
            have:=h2 (o+j) 0 col (by omega) rfl
            simpa using this)
         rw[List.length_map,lp] at hll
         simp[Instr.loadAt,hr x _ hx,SV.val,Instr.sureAddr,loadVar,bZ hd,ha,bK hn,hll,SV.bp]
     | false =>
       refine aM.atom fun hi=>aM.v _ fun E w ρ hc hr=> ?_
       obtain⟨ob,ho,c,fr,rfl,_,_,_,h2⟩:=hc.1 key _ hk rfl
       have h3:=h2 o 0 col hi rfl
       simp only[List.length_cons,List.length_nil,Nat.zero_add,Nat.mul_one,Nat.add_zero] at h3
       simp[Instr.loadAt,hr x _ hx,SV.val,Instr.sureAddr,loadVar,bZ hd,ha,cell_of ho,h3]
    ·exact aM.fail _
   ·rename_i key w i k hx
    split
    ·rename_i z n av ro tot ty hk
     refine aM.ite (fun hw=> ?_) (fun _=>aM.fail _)
     subst hw
     cases ha:eB d with
     | true =>
       simp only
       cases hn:sz P t with
       | none=>exact aM.fail _
       | some m =>
         simp only
         cases hl:jn av i k m with
         | none=>exact aM.fail _
         | some l =>
           refine aM.atom fun hi=>aM.v _ fun E w ρ hc hr=> ?_
           obtain⟨ob,ho,c,fr,rfl,_,h1,_,h2⟩:=hc.1 key _ hk (SB.ic hi)
           have hg:=cc hl
           have hll:=run_loadCells (P:=P) ho (i*av.length+k) (l.map (SV.val E)) (fun j v hj=>by
            rw[List.getElem?_map] at hj
            cases hjl:l[j]? with
            | none=>rw[hjl] at hj;cases hj
            | some u =>
              rw[hjl] at hj;injection hj with hj;subst hj
              have:=hg.2 j u hjl
              rw[List.getElem?_map] at this
              cases hcl:av[k+j]? with
              | none=>rw[hcl] at this;cases this
              | some col =>
                rw[hcl] at this;injection this with this;subst this
                rw[Nat.add_assoc];exact h2 i (k+j) col hi hcl)
           rw[List.length_map,hg.1] at hll
           simp[Instr.loadAt,hr x _ hx,SV.val,Instr.sureAddr,loadVar,bZ hd,ha,bK hn,hll,SV.bp]
     | false =>
       simp only
       cases hv:av[k]? with
       | none=>exact aM.fail _
       | some col =>
         refine aM.atom fun hi=>aM.v _ fun E w ρ hc hr=> ?_
         obtain⟨ob,ho,c,fr,rfl,_,h1,_,h2⟩:=hc.1 key _ hk (SB.ic hi)
         simp[Instr.loadAt,hr x _ hx,SV.val,Instr.sureAddr,loadVar,bZ hd,ha,cell_of ho,h2 _ _ _ hi hv]
    ·exact aM.fail _
   ·rename_i key w o i k hx
    split
    ·rename_i z o' n av hk
     refine aM.ite (fun hw=> ?_) (fun _=>aM.fail _)
     subst hw
     cases ha:eB d with
     | true =>
       simp only
       cases hn:sz P t with
       | none=>exact aM.fail _
       | some m =>
         simp only
         cases hl:jn av i k m with
         | none=>exact aM.fail _
         | some l =>
           refine aM.atom fun hlh=>aM.v _ fun E w ρ hc hr=> ?_
           obtain⟨rfl,hi⟩:=hlh;obtain⟨ob,ho,c,ty,fr,rfl,h2⟩:=hc.1 key _ hk (SB.wS hi)
           have hg:=cc hl
           have hll:=run_loadCells (P:=P) ho (o'+i*av.length+k) (l.map (SV.val E)) (fun j v hj=>by
            rw[List.getElem?_map] at hj
            cases hjl:l[j]? with
            | none=>rw[hjl] at hj;cases hj
            | some u =>
              rw[hjl] at hj;injection hj with hj;subst hj
              have:=hg.2 j u hjl
              rw[List.getElem?_map] at this
              cases hcl:av[k+j]? with
              | none=>rw[hcl] at this;cases this
              | some col =>
                rw[hcl] at this;injection this with this;subst this
                rw[Nat.add_assoc];exact h2 i (k+j) col hi hcl)
           rw[List.length_map,hg.1] at hll
           simp[Instr.loadAt,hr x _ hx,SV.val,Instr.sureAddr,loadVar,bZ hd,ha,bK hn,hll,SV.bp]
     | false =>
       simp only
       cases hv:av[k]? with
       | none=>exact aM.fail _
       | some col =>
         refine aM.atom fun hlh=>aM.v _ fun E w ρ hc hr=> ?_
         obtain⟨rfl,hi⟩:=hlh;obtain⟨ob,ho,c,ty,fr,rfl,h2⟩:=hc.1 key _ hk (SB.wS hi)
         simp[Instr.loadAt,hr x _ hx,SV.val,Instr.sureAddr,loadVar,bZ hd,ha,cell_of ho,h2 _ _ _ hi hv]
    ·exact aM.fail _
   ·rename_i key base n i hx
    split
    ·rename_i cs tot ty hk
     split
     ·rename_i l ha hl
      split
      ·rename_i zs hz
       refine aM.atom fun hi=>aM.v _ fun E w ρ hc hr=> ?_
       obtain⟨ob,ho,c,fr,rfl,_,h2,_⟩:=hc.1 key _ hk rfl
       have hg:=cc hl
       have hzg:=nc hz
       have hil:i<l.length:=by rw[hg.1];exact hi
       obtain⟨b,hb⟩:=hzg.2 i l[i] (List.getElem?_eq_getElem hil)
       have:=h2 _ _ (hg.2 i l[i] (List.getElem?_eq_getElem hil))
       rw[hb] at this
       simp[Instr.loadAt,hr x _ hx,SV.val,Instr.sureAddr,loadVar,bZ hd,ha,cell_of ho,this]
      ·split
       ·rename_i ss hz
        refine aM.atom fun hi=>aM.v _ fun E w ρ hc hr=> ?_
        obtain⟨ob,ho,c,fr,rfl,_,h2,_⟩:=hc.1 key _ hk rfl
        have hg:=cc hl
        have hil:i<l.length:=by rw[hg.1];exact hi
        obtain⟨b,hb⟩:=kE hz i l[i] (List.getElem?_eq_getElem hil)
        have:=h2 _ _ (hg.2 i l[i] (List.getElem?_eq_getElem hil))
        rw[hb] at this
        simp[Instr.loadAt,hr x _ hx,SV.val,Instr.sureAddr,loadVar,bZ hd,ha,cell_of ho,this]
       ·exact aM.fail _
     ·exact aM.fail _
    ·rename_i nb col ro tot ty hk
     split
     ·rename_i ha
      refine aM.atom fun hi=>aM.v _ fun E w ρ hc hr=> ?_
      obtain⟨ob,ho,c,fr,rfl,_,_,_,h2⟩:=hc.1 key _ hk rfl
      have h3:=h2 (base+i) 0 col hi.2 rfl
      simp only[List.length_cons,List.length_nil,Nat.zero_add,Nat.mul_one,Nat.add_zero] at h3
      simp[Instr.loadAt,hr x _ hx,SV.val,Instr.sureAddr,loadVar,bZ hd,ha,cell_of ho,h3]
     ·exact aM.fail _
    ·exact aM.fail _
   ·rename_i g o hx
    split
    ·rename_i cs ha hcs
     split
     ·rename_i k hk
      split
      ·rename_i zs hz
       refine aM.atom fun ho=>aM.v _ fun E w ρ hc hr=> ?_
       obtain⟨c,ty,fr,hg,hgc⟩:=hc.2.1 _ (rK hcs)
       have hv:=(wk hz).2 o ho
       rw[Array.getElem?_toList] at hv
       have hv:=hgc _ _ hv
       simp[Instr.loadAt,hr x _ hx,SV.val,Instr.sureAddr,loadVar,bZ hd,ha,cell_of hg,hv]
      ·exact aM.fail _
     ·split
      ·split
       ·rename_i v hv
        split
        ·rename_i y hy
         refine aM.v _ fun E w ρ hc hr=> ?_
         obtain⟨c,ty,fr,hg,hgc⟩:=hc.2.1 _ (rK hcs)
         simp[Instr.loadAt,hr x _ hx,SV.val,Instr.sureAddr,loadVar,bZ hd,ha,cell_of hg,hgc _ _ hv,SV.Jm hy]
        ·exact aM.fail _
       ·exact aM.fail _
      ·exact aM.fail _
    ·exact aM.fail _
   ·rename_i key a o hx
    split
    ·rename_i D cs tot ty ro hk
     cases ha:eB d with
     | true =>
       simp only
       cases hn:sz P t with
       | none=>exact aM.fail _
       | some m =>
         simp only
         cases hl:jn cs a o m with
         | none=>exact aM.fail _
         | some l =>
           refine aM.atom fun hD=>aM.v _ fun E w ρ hc hr=> ?_
           obtain⟨ob,ho,c,fr,rfl,_,h2,_⟩:=hc.2.2 key _ a hk hD
           have hg:=cc hl
           have hll:=run_loadCells (P:=P) ho o (l.map (SV.val E)) (fun j v hj=>by
            rw[List.getElem?_map] at hj
            cases hjl:l[j]? with
            | none=>rw[hjl] at hj;cases hj
            | some u=>rw[hjl] at hj;injection hj with hj;subst hj;exact h2 _ _ (hg.2 j u hjl))
           rw[List.length_map,hg.1] at hll
           simp[Instr.loadAt,hr x _ hx,SV.val,Instr.sureAddr,loadVar,bZ hd,ha,bK hn,hll,SV.bp]
     | false =>
       simp only
       cases hv:cs[o]? with
       | none=>exact aM.fail _
       | some col =>
         refine aM.atom fun hD=>aM.v _ fun E w ρ hc hr=> ?_
         obtain⟨ob,ho,c,fr,rfl,_,h2,_⟩:=hc.2.2 key _ a hk hD
         simp[Instr.loadAt,hr x _ hx,SV.val,Instr.sureAddr,loadVar,bZ hd,ha,cell_of ho,h2 o (col.at a) (by rw[List.getElem?_map,hv];rfl)]
    ·exact aM.fail _
   ·rename_i key w a i k hx
    split
    ·rename_i D n av ro hk
     have hel:SB.el (.dI D n av ro) a=.view false 0 (n a) (av.map (bU.at a)):=rfl
     generalize av.map (bU.at a)=cl at hel ⊢
     refine aM.ite (fun hw=> ?_) (fun _=>aM.fail _)
     subst hw
     cases ha:eB d with
     | true =>
       simp only
       cases hn:sz P t with
       | none=>exact aM.fail _
       | some m =>
         simp only
         cases hl:jn cl i k m with
         | none=>exact aM.fail _
         | some l =>
           refine aM.atom fun hD=>aM.v _ fun E w ρ hc hr=> ?_
           obtain⟨ob,ho,hb⟩:=hc.2.2 key _ a hk hD.1
           rw[hel] at hb
           obtain⟨c,ty,fr,rfl,h2⟩:=hb
           have hg:=cc hl
           have hll:=run_loadCells (P:=P) ho (i*cl.length+k) (l.map (SV.val E)) (fun j v hj=>by
            rw[List.getElem?_map] at hj
            cases hjl:l[j]? with
            | none=>rw[hjl] at hj;cases hj
            | some u =>
              rw[hjl] at hj;injection hj with hj;subst hj
              have:=hg.2 j u hjl
              rw[List.getElem?_map] at this
              cases hcl:cl[k+j]? with
              | none=>rw[hcl] at this;cases this
              | some col =>
                rw[hcl] at this;injection this with this;subst this
                have:=h2 i (k+j) col hD.2 hcl
                rw[Nat.add_assoc,← this];congr 1;omega)
           rw[List.length_map,hg.1] at hll
           simp[Instr.loadAt,hr x _ hx,SV.val,Instr.sureAddr,loadVar,bZ hd,ha,bK hn,hll,SV.bp]
     | false =>
       simp only
       cases hv:cl[k]? with
       | none=>exact aM.fail _
       | some col =>
         refine aM.atom fun hD=>aM.v _ fun E w ρ hc hr=> ?_
         obtain⟨ob,ho,hb⟩:=hc.2.2 key _ a hk hD.1
         rw[hel] at hb
         obtain⟨c,ty,fr,rfl,h2⟩:=hb
         have:=h2 i k col hD.2 hv
         rw[Nat.zero_add] at this
         simp[Instr.loadAt,hr x _ hx,SV.val,Instr.sureAddr,loadVar,bZ hd,ha,cell_of ho,this]
    ·exact aM.fail _
   ·exact aM.fail _
def Uz (f:Field)(P:Program):Option Nat:=match sz P f.type with
 | some (_n+1)=>some f.offset
 | _=>none
def rZ (P:Program)(s:TypeId)(x:Option SV)(f:Nat)(K:Option SV->VC):VC :=
 match P.underlying s with
 | some (.struct fs)=>(match fs[f]? with
   | some fd=>(match Uz fd P with
     | some o=>(match x with
       | some (.ptr key ol a)=>K (some (.ptr key ol (a+o)))
       | some (.jz key w i k)=>K (some (.jz key w i (k+o)))
       | some (.gu key w b i k)=>K (some (.gu key w b i (k+o)))
       | some (.eD key b i)=>K (some (.eD key b (i+o)))
       | some (.lJ key w b i k)=>K (some (.lJ key w b i (k+o)))
       | _=>.fail "fieldAddr: no pointer")
     | none=>.fail "fieldAddr: a field without cells")
   | none=>.fail "fieldAddr: no such field")
 | _=>.fail "fieldAddr: no struct"
theorem Al {P:Program}{look:jH}{σ:Operand->Option SV}(s:TypeId)(x:Operand)(f:Nat) :
  aM P look σ (fun ρ=>Instr.fieldAt s (ρ x) f) (rZ P s (σ x) f):=by
 unfold rZ
 split
 ·rename_i fs hd
  split
  ·rename_i fd hf
   cases ho:Uz fd P with
   | none=>exact aM.fail _
   | some o =>
     have hsz: ∃ n,sz P fd.type=some (n+1)/\fd.offset=o:=by
      unfold Uz at ho
      split at ho
      ·rename_i n hn;injection ho with ho;exact⟨n,hn,ho⟩
      ·cases ho
     obtain⟨n,hn,rfl⟩:=hsz
     simp only
     split
     ·rename_i key ol a hx
      refine aM.v _ fun E w ρ hc hr=> ?_
      simp[Instr.fieldAt,hr x _ hx,SV.val,Instr.sureAddr,aC hd,hf,fieldPlace,bK hn,ck]
     ·rename_i key w i k hx
      refine aM.v _ fun E w ρ hc hr=> ?_
      simp[Instr.fieldAt,hr x _ hx,SV.val,Instr.sureAddr,aC hd,hf,fieldPlace,bK hn,ck,Nat.add_assoc]
     ·rename_i key w b i k hx
      refine aM.v _ fun E w ρ hc hr=> ?_
      simp[Instr.fieldAt,hr x _ hx,SV.val,Instr.sureAddr,aC hd,hf,fieldPlace,bK hn,ck,Nat.add_assoc]
     ·rename_i key b i hx
      refine aM.v _ fun E w ρ hc hr=> ?_
      simp[Instr.fieldAt,hr x _ hx,SV.val,Instr.sureAddr,aC hd,hf,fieldPlace,bK hn,ck]
     ·rename_i key w b i k hx
      refine aM.v _ fun E w ρ hc hr=> ?_
      simp[Instr.fieldAt,hr x _ hx,SV.val,Instr.sureAddr,aC hd,hf,fieldPlace,bK hn,ck,Nat.add_assoc]
     ·exact aM.fail _
  ·exact aM.fail _
 ·exact aM.fail _
def places (i:Int)(t:Nat->VC):Nat->VC
 | 0=>.tt
 | n+1=>.and (places i t n) (.imp (i=n) (t n))
theorem yE {i:Int}{t:Nat->VC}: ∀ {n:Nat},0<=i->i<n->((places i t n).holds↔(t i.toNat).holds)
 | 0,h,h'=>by omega
 | n+1,h,h'=>by
   simp only[places,VC.holds]
   by_cases e:i=n
   ·subst e
    simp only[Int.toNat_natCast]
    constructor
    ·intro x;exact x.2 trivial
    ·intro x
     refine⟨?_,fun _=>x⟩
     have: ∀ m,m<=n->(places (n:Int) t m).holds:=by
      intro m
      induction m with
      | zero=>intro _;exact trivial
      | succ m ih=>intro hm;exact⟨ih (by omega),fun e=>by omega⟩
     exact this n (Nat.le_refl _)
   ·have:=yE (i:=i) (t:=t) (n:=n) h (by omega)
    rw[this]
    exact⟨fun x=>x.1,fun x=>⟨x,fun e'=>absurd e' e⟩⟩
def qt (l:Bool)(i:Int)(n:Nat)(t:Nat->VC):VC :=
 match l with
 | true=>if 0<=i/\i<n then t i.toNat else .fail "index out of range"
 | false=>.and (.atom (0<=i/\i<n)) (places i t n)
theorem aM.index {P:Program}{look:jH}{σ:Operand->Option SV}{s:(Operand->Value)->Sem Value}{l:Bool}{i:Int}{n:Nat}{t:Nat->QT}
  (h:0<=i->i<n->aM P look σ s (t i.toNat)):aM P look σ s (fun K=>qt l i n (fun j=>t j K)):=by
 unfold qt
 cases l with
 | true=>exact aM.ite (fun hc=>h hc.1 hc.2) (fun _=>aM.fail _)
 | false =>
   refine aM.atom fun hc=> ?_
   obtain⟨obl,sv,h1,h2⟩:=h hc.1 hc.2
   exact⟨obl,sv,fun K=>by rw[yE hc.1 hc.2];exact h1 K,h2⟩
def rT (P:Program)(t:TypeId)(x i:Option SV)(K:Option SV->VC):VC :=
 match P.underlying t,i with
 | some (.array len elem),some (.int _ l n)=>(match sz P elem,x with
   | some m,some (.ptr key true o)=>(match l|| !Nat.beq m 1 with
     | true=>qt l n len (fun j=>K (some (.ptr key true (o+j*m))))
     | false=>.and (.atom (0<=n/\n<len)) (K (some (.mR key o len n.toNat))))
   | some 1,some (.raw (.pointer (some ⟨g,0,none⟩)))=>.and (.atom (0<=n/\n<len)) (K (some (.raw (.pointer (some ⟨g,n.toNat,none⟩)))))
   | _,_=>.fail "indexAddr: array")
 | some (.slice elem),some (.int _ l n)=>(match sz P elem,x with
   | some m,some (.slc key o len _ _)=>(match l|| !Nat.beq m 1||Nat.blt len 16 with
     | true=>qt l n len (fun j=>K (some (.ptr key true (o+j*m))))
     | false=>.and (.atom (0<=n/\n<len)) (K (some (.mR key o len n.toNat))))
   | some m,some (.bw key w _z i0 len _)=>if m=w then .and (.atom (0<=n/\n<len)) (K (some (.jz key w (i0+n.toNat) 0)))else .fail "indexAddr: another row"
   | some m,some (.bP key w _z b i0 len _)=>if m=w then .and (.atom (0<=n/\n<len)) (K (some (.gu key w b (i0+n.toNat) 0)))else .fail "indexAddr: another row"
   | some m,some (.cn key w _z b i0 len _)=>if m=w then .and (.atom (0<=n/\n<len)) (K (some (.lJ key w b (i0+n.toNat) 0)))else .fail "indexAddr: another row"
   | _,_=>.fail "indexAddr: slice")
 | _,_=>.fail "indexAddr"
theorem At {P:Program}{look:jH}{σ:Operand->Option SV}(t:TypeId)(x i:Operand) :
  aM P look σ (fun ρ=>Instr.indexAt t (ρ x) (ρ i)) (rT P t (σ x) (σ i)):=by
 unfold rT
 split
 ·rename_i len elem k l n hd hi
  split
  ·rename_i m key o hm hx
   split
   ·refine aM.index fun h0 h1=>aM.v _ fun E w ρ hc hr=> ?_
    simp[Instr.indexAt,hr x _ hx,hr i _ hi,SV.val,asIntOf,Instr.sureAddr,aC hd,bK hm,h0,h1,ck]
   ·rename_i hcond
    have hm1:m=1:=by simp at hcond;exact hcond.2
    refine aM.atom fun h0=>aM.v _ fun E w ρ hc hr=> ?_
    simp[Instr.indexAt,hr x _ hx,hr i _ hi,SV.val,asIntOf,Instr.sureAddr,aC hd,bK hm,h0.1,h0.2,ck,hm1]
  ·rename_i g hm hx
   refine aM.atom fun h0=>aM.v _ fun E w ρ hc hr=> ?_
   simp[Instr.indexAt,hr x _ hx,hr i _ hi,SV.val,asIntOf,Instr.sureAddr,aC hd,bK hm,h0.1,h0.2,ck]
  ·exact aM.fail _
 ·rename_i elem k l n hd hi
  split
  ·rename_i m key o len cl c hm hx
   split
   ·refine aM.index fun h0 h1=>aM.v _ fun E w ρ hc hr=> ?_
    simp[Instr.indexAt,hr x _ hx,hr i _ hi,SV.val,asIntOf,aC hd,bK hm,h0,h1,ck]
   ·rename_i hcond
    have hm1:m=1:=by simp at hcond;exact hcond.1.2
    refine aM.atom fun h0=>aM.v _ fun E w ρ hc hr=> ?_
    simp[Instr.indexAt,hr x _ hx,hr i _ hi,SV.val,asIntOf,aC hd,bK hm,h0.1,h0.2,ck,hm1]
  ·rename_i m key w z i0 len c hm hx
   refine aM.ite (fun e=> ?_) (fun _=>aM.fail _)
   subst e
   refine aM.atom fun h0=>aM.v _ fun E w ρ hc hr=> ?_
   have hne:Nat.beq len 0=false:=by cases len with
    | zero=>omega
    | succ n=>rfl
   simp[Instr.indexAt,hr x _ hx,hr i _ hi,SV.val,asIntOf,aC hd,bK hm,h0.1,h0.2,ck,Nat.add_mul,hne]
  ·rename_i m key w z b i0 len c hm hx
   refine aM.ite (fun e=> ?_) (fun _=>aM.fail _)
   subst e
   refine aM.atom fun h0=>aM.v _ fun E w ρ hc hr=> ?_
   have hne:Nat.beq len 0=false:=by cases len with
    | zero=>omega
    | succ n=>rfl
   simp[Instr.indexAt,hr x _ hx,hr i _ hi,SV.val,asIntOf,aC hd,bK hm,h0.1,h0.2,ck,Nat.add_mul,hne,Nat.add_assoc]
  ·rename_i m key w z b i0 len c hm hx
   refine aM.ite (fun e=> ?_) (fun _=>aM.fail _)
   subst e
   refine aM.atom fun h0=>aM.v _ fun E w ρ hc hr=> ?_
   have hne:Nat.beq len 0=false:=by cases len with
    | zero=>omega
    | succ n=>rfl
   simp[Instr.indexAt,hr x _ hx,hr i _ hi,SV.val,asIntOf,aC hd,bK hm,h0.1,h0.2,ck,Nat.add_mul,hne]
  ·exact aM.fail _
 ·exact aM.fail _
section
variable {P : Program} {look : jH} {σ : Operand -> Option SV}
def oR (k:IntKind)(l:Bool)(n:Int)(K:Option SV->VC):VC :=
 match l with
 | true=>K (some (.int k true (k.wrap n)))
 | false=>match k.signed with
   | true=>.and (.atom (lo k<=n/\n<=hi k)) (K (some (.int k false n)))
   | false=>K (some (.int k false (n% md k)))
theorem jR {s:(Operand->Value)->Sem Value}{k:IntKind}{l:Bool}{n:Int}
  (h: ∀ E w ρ,Compat E look w->Reads E σ ρ->(s ρ).run P w=.ok (.int k (k.wrap n)) w):aM P look σ s (oR k l n):=by
 unfold oR
 cases l with
 | true=>exact aM.v _ fun E w ρ hc hr=>h E w ρ hc hr
 | false =>
   simp only
   cases hs:k.signed with
   | true=>exact aM.atom fun hb=>aM.v _ fun E w ρ hc hr=>by rw[h E w ρ hc hr,qu hb];rfl
   | false=>exact aM.v _ fun E w ρ hc hr=>by rw[h E w ρ hc hr,S7 hs];rfl
def Tq (rem:Bool)(k:IntKind)(l:Bool)(a:Int)(l':Bool)(b:Int)(K:Option SV->VC):VC :=
 match l&&l' with
 | true=>if b=0 then .fail "division by zero" else(match rem with
   | true=>K (some (.int k true (a.tmod b)))
   | false=>K (some (.int k true (k.wrap (a.tdiv b)))))
 | false=>.and (.atom (0<=a/\a<=hi k/\0<b)) (match rem with
   | true=>K (some (.int k false (a% b)))
   | false=>K (some (.int k false (a / b))))
theorem Cp (k:IntKind):lo k<=0:=by cases k<;>simp[lo]
theorem JB {s:(Operand->Value)->Sem Value}{rem:Bool}{k:IntKind}{l l':Bool}{a b:Int}
  (h: ∀ E w ρ,Compat E look w->Reads E σ ρ->(s ρ).run P w=(Op.intDiv (if rem then .rem else .quo) k a b).run P w):aM P look σ s (Tq rem k l a l' b):=by
 unfold Tq
 cases (l&&l')with
 | true =>
   refine aM.ite (fun _=>aM.fail _) fun hb=> ?_
   cases rem with
   | true=>exact aM.v _ fun E w ρ hc hr=>by rw[h E w ρ hc hr];simp[Op.intDiv,hb,SV.val]
   | false=>exact aM.v _ fun E w ρ hc hr=>by rw[h E w ρ hc hr];simp[Op.intDiv,hb,SV.val]
 | false =>
   refine aM.atom fun⟨h0,h1,h2⟩=> ?_
   have hb:b≠0:=by omega
   cases rem with
   | true=>exact aM.v _ fun E w ρ hc hr=>by rw[h E w ρ hc hr];simp[Op.intDiv,hb,SV.val,Int.tmod_eq_emod_of_nonneg h0]
   | false =>
     refine aM.v _ fun E w ρ hc hr=> ?_
     have e:k.wrap (a.tdiv b)=a / b:=by
      rw[Int.tdiv_eq_ediv_of_nonneg h0]
      have:a / b<=a:=Int.ediv_le_self b h0
      have:0<=a / b:=Int.ediv_nonneg h0 (by omega)
      exact qu ⟨by have:=Cp k;omega,by omega⟩
     rw[h E w ρ hc hr];simp[Op.intDiv,hb,SV.val,e]
def CW (left:Bool)(k:IntKind)(l:Bool)(a:Int)(l':Bool)(b:Int)(K:Option SV->VC):VC :=
 match l' with
 | true=>if b<0 then .fail "negative shift" else(match left with
   | true=>oR k l (a*(2^ (min b.toNat k.bits):Nat)) K
   | false=>K (some (.int k l (a / (2^ (min b.toNat k.bits):Nat)))))
 | false=>.fail "shift by a number that is not known"
theorem Bo {s:(Operand->Value)->Sem Value}{left:Bool}{k yk:IntKind}{l l':Bool}{a b:Int}
  (h: ∀ E w ρ,Compat E look w->Reads E σ ρ->(s ρ).run P w=(Op.shift (if left then .shl else .shr) k a yk b).run P w):aM P look σ s (CW left k l a l' b):=by
 unfold CW
 cases l' with
 | false=>exact aM.fail _
 | true =>
   refine aM.ite (fun _=>aM.fail _) fun hb=> ?_
   cases left with
   | true=>exact jR fun E w ρ hc hr=>by rw[h E w ρ hc hr];simp[Op.shift,hb]
   | false =>
     refine aM.v _ fun E w ρ hc hr=> ?_
     rw[h E w ρ hc hr]
     simp only[Op.shift,hb,if_false,Bool.false_eq_true,Sem.run_pure,SV.val]
     rw[Int.fdiv_eq_ediv_of_nonneg _ (Int.pow_nonneg (by decide))]
     simp
def bitsOf (op:BinOp)(a b:Int):Int :=
 match op with
 | .and=>Int.ofNat (a.toNat &&& b.toNat)
 | .or=>Int.ofNat (a.toNat ||| b.toNat)
 | _=>Int.ofNat (a.toNat ^^^ b.toNat)
def AP (op:BinOp)(k:IntKind)(l:Bool)(a b:Int)(K:Option SV->VC):VC :=
 match l with
 | true=>if 0<=a/\a<=hi k/\0<=b/\b<=hi k then K (some (.int k true (bitsOf op a b)))else .fail "bits: below zero"
 | false=>.and (.atom (0<=a/\a<=hi k/\0<=b/\b<=hi k)) (K (some (.int k false (bitsOf op a b))))
theorem hi_lt (k:IntKind):hi k<2^ k.bits:=by cases k<;>decide
theorem toNat_ofInt {w:Nat}{a:Int}(h0:0<=a)(h1:a<2^ w):(BitVec.ofInt w a).toNat=a.toNat:=by
 rw[BitVec.toNat_ofInt]
 congr 1
 exact Int.emod_eq_of_lt h0 (by exact_mod_cast h1)
theorem E6 {op:BinOp}(hop:op=.and∨op=.or∨op=.xor){k:IntKind}{a b:Int}(h:0<=a/\a<=hi k/\0<=b/\b<=hi k)(w:World) :
  (Op.intBits op k a b).run P w=.ok (.int k (bitsOf op a b)) w:=by
 obtain⟨a0,a1,b0,b1⟩:=h
 have hk:=hi_lt k
 have ea:=toNat_ofInt (w:=k.bits) a0 (by omega)
 have eb:=toNat_ofInt (w:=k.bits) b0 (by omega)
 have la:a.toNat<2^ k.bits:=by have:(a.toNat:Int)<((2^ k.bits:Nat):Int):=by rw[Int.toNat_of_nonneg a0];push_cast;omega
                               exact_mod_cast this
 have lb:b.toNat<2^ k.bits:=by have:(b.toNat:Int)<((2^ k.bits:Nat):Int):=by rw[Int.toNat_of_nonneg b0];push_cast;omega
                               exact_mod_cast this
 have hh:(hi k).toNat+1=2^ k.bits∨(hi k).toNat+1=2^ (k.bits - 1):=by cases k<;>simp[hi,IntKind.bits]
 have key: ∀ n:Nat,n<=(hi k).toNat->k.wrap (n:Int)=n:=fun n hn=>qu ⟨by have:=Cp k;omega,by
  have:0<=hi k:=by cases k<;>simp[hi]
  omega⟩
 have ba:a.toNat<=(hi k).toNat:=by omega
 have bb:b.toNat<=(hi k).toNat:=by omega
 have hand:a.toNat &&& b.toNat<=(hi k).toNat:=Nat.le_trans Nat.and_le_left ba
 have two: ∃ m,(hi k).toNat+1=2^ m:=by rcases hh with h | h<;>exact⟨_,h⟩
 obtain⟨m,hm⟩:=two
 have hor:a.toNat ||| b.toNat<=(hi k).toNat:=by
  have:=Nat.or_lt_two_pow (x:=a.toNat) (y:=b.toNat) (n:=m) (by omega) (by omega);omega
 have hxor:a.toNat ^^^ b.toNat<=(hi k).toNat:=by
  have:=Nat.xor_lt_two_pow (x:=a.toNat) (y:=b.toNat) (n:=m) (by omega) (by omega);omega
 rcases hop with rfl | rfl | rfl
 ·simp only[Op.intBits,bitsOf,Sem.run_pure,BitVec.toNat_and,ea,eb];rw[key _ hand];rfl
 ·simp only[Op.intBits,bitsOf,Sem.run_pure,BitVec.toNat_or,ea,eb];rw[key _ hor];rfl
 ·simp only[Op.intBits,bitsOf,Sem.run_pure,BitVec.toNat_xor,ea,eb];rw[key _ hxor];rfl
theorem sA {s:(Operand->Value)->Sem Value}{op:BinOp}(hop:op=.and∨op=.or∨op=.xor){k:IntKind}{l:Bool}{a b:Int}
  (h: ∀ E w ρ,Compat E look w->Reads E σ ρ->(s ρ).run P w=(Op.intBits op k a b).run P w):aM P look σ s (AP op k l a b):=by
 unfold AP
 cases l with
 | true=>exact aM.ite (fun hb=>aM.v _ fun E w ρ hc hr=>by rw[h E w ρ hc hr,E6 hop hb];rfl) (fun _=>aM.fail _)
 | false=>exact aM.atom fun hb=>aM.v _ fun E w ρ hc hr=>by rw[h E w ρ hc hr,E6 hop hb];rfl
def VO (op:BinOp)(k:IntKind)(l:Bool)(a:Int)(l':Bool)(b:Int)(K:Option SV->VC):VC :=
 match op with
 | .add=>oR k (l&&l') (a+b) K
 | .sub=>oR k (l&&l') (a - b) K
 | .mul=>oR k (l&&l') (a*b) K
 | .quo=>Tq false k l a l' b K
 | .rem=>Tq true k l a l' b K
 | .and=>AP .and k (l&&l') a b K
 | .or=>AP .or k (l&&l') a b K
 | .xor=>AP .xor k (l&&l') a b K
 | .eql=>K (some (.bool (l&&l') (decide (a=b))))
 | .neq=>K (some (.bool (l&&l') (!decide (a=b))))
 | .lss=>K (some (.bool (l&&l') (decide (a<b))))
 | .leq=>K (some (.bool (l&&l') (decide (a<=b))))
 | .gtr=>K (some (.bool (l&&l') (decide (b<a))))
 | .geq=>K (some (.bool (l&&l') (decide (b<=a))))
 | _=>.fail "binOp: integers"
def OI:Int:=9223372036854775807
def cat (a b:List UInt8):List UInt8:=a++b
def V7 (op:BinOp)(l:Bool)(a b:List UInt8)(K:Option SV->VC):VC :=
 match op with
 | .add=>match l with
   | true=>if(a.length:Int)+b.length<=OI then K (some (.str true (a++b)))else .fail "a text that is too long"
   | false=>.and (.atom ((a.length:Int)+b.length<=9223372036854775807)) (K (some (.str false (cat a b))))
 | .eql=>K (some (.bool l (decide (a=b))))
 | .neq=>K (some (.bool l (!decide (a=b))))
 | .lss=>K (some (.bool l (Op.bytesLess a b)))
 | .leq=>K (some (.bool l (Op.bytesLess a b||decide (a=b))))
 | .gtr=>K (some (.bool l (!(Op.bytesLess a b||decide (a=b)))))
 | .geq=>K (some (.bool l (!Op.bytesLess a b)))
 | _=>.fail "binOp: texts"
theorem DI (a b:List UInt8):(ByteArray.mk a.toArray)++(ByteArray.mk b.toArray)=ByteArray.mk (a++b).toArray:=by
 apply ByteArray.ext
 rw[ByteArray.data_append];simp
theorem imax:IntKind.i64.max=9223372036854775807:=by decide
theorem Se {s:(Operand->Value)->Sem Value}{op:BinOp}{l:Bool}{a b:List UInt8}
  (h: ∀ E w ρ,Compat E look w->Reads E σ ρ->(s ρ).run P w=(Op.stringOp op ⟨a.toArray⟩ ⟨b.toArray⟩).run P w):aM P look σ s (V7 op l a b):=by
 have he:(a==b)=decide (a=b):=by by_cases e:a=b<;>simp[e]
 have sa:(ByteArray.mk a.toArray).size=a.length:=by simp[ByteArray.size]
 have sb:(ByteArray.mk b.toArray).size=b.length:=by simp[ByteArray.size]
 unfold V7
 cases op
 case add =>
  have go:(a.length:Int)+b.length<=9223372036854775807->∀ w,(Op.stringOp .add ⟨a.toArray⟩ ⟨b.toArray⟩).run P w=.ok (.string ⟨(a++b).toArray⟩) w:=fun hb w=>by
   simp only[Op.stringOp,sa,sb,imax,DI]
   rw[if_neg (by omega)];rfl
  cases l with
  | true=>exact aM.ite (fun hb=>aM.v _ fun E w ρ hc hr=>by rw[h E w ρ hc hr,go hb];rfl) (fun _=>aM.fail _)
  | false=>exact aM.atom fun hb=>aM.v _ fun E w ρ hc hr=>by rw[h E w ρ hc hr,go hb];rfl
 all_goals first
  | exact aM.fail _
  | (refine aM.v _ fun E w ρ hc hr=> ?_;rw[h E w ρ hc hr];simp[Op.stringOp,SV.val,he])
end
def k7 (x:Bool×Bool)(y:Option (Bool×Bool)):Option (Bool×Bool) :=
 match x with
 | (true,false)=>some (true,false)
 | (l,b)=>match y with
   | some (l',b')=>some (l&&l',b&&b')
   | none=>none
def partOf (P:Program)(t:TypeId)(cs:List SV)(off:Nat):Option SV :=
 match P.underlying t with
 | none=>none
 | some d=>match eB d with
   | true=>match sz P t with
     | some n=>match fu cs off n with
       | some l=>some (.agg l)
       | none=>none
     | none=>none
   | false=>cs[off]?
theorem fH {P:Program}{E:Nat->Nat}{w:World}{t:TypeId}{cs:List SV}{off:Nat}{v:SV}(h:partOf P t cs off=some v) :
  (part t (SV.vals E cs).toArray off).run P w=.ok (v.val E) w:=by
 unfold partOf at h
 split at h
 ·cases h
 ·rename_i d hd
  split at h
  ·rename_i ha
   split at h
   ·rename_i n hn
    split at h
    ·rename_i l hl
     injection h with h;subst h
     have hg:=cc hl
     simp only[part,Sem.run_bind,bZ hd,ha,Result.andThen_ok,if_true,bK hn,Sem.run_pure,SV.val,SV.bp]
     congr 2
     apply Array.ext'
     simp only[Array.toList_extract,List.toList_toArray,List.extract_eq_take_drop]
     rw[show off+n - off=n by omega,List.map_drop.symm,List.map_take.symm]
     congr 1
     apply List.ext_getElem?
     intro j
     rw[List.getElem?_take]
     split
     ·rename_i hj
      rw[List.getElem?_drop]
      obtain⟨u,hu⟩: ∃ u,l[j]?=some u:=⟨l[j]'(by omega),List.getElem?_eq_getElem _⟩
      rw[hu,hg.2 j u hu]
     ·rw[List.getElem?_eq_none (by omega)]
    ·cases h
   ·cases h
  ·rename_i ha
   simp only[part,Sem.run_bind,bZ hd,ha,Result.andThen_ok,SV.bp]
   simp[h]
def eqv (P:Program):Nat->TypeId->SV->SV->Option (Bool×Bool)
 | 0,_,_,_=>none
 | d+1,t,x,y =>
   match P.underlying t,x,y with
   | some .bool,.bool l a,.bool l' b=>some (l&&l',a==b)
   | some (.int _),.int k l a,.int k' l' b=>if k=k' then some (l&&l',decide (a=b))else none
   | some .string,.str l a,.str l' b=>some (l&&l',decide (a=b))
   | some (.pointer _),.bD,.bD=>some (true,true)
   | some (.pointer _),.bD,.ptr .. =>some (true,false)
   | some (.pointer _),.ptr ..,.bD=>some (true,false)
   | some (.pointer _),.bD,.jz .. =>some (true,false)
   | some (.pointer _),.jz ..,.bD=>some (true,false)
   | some (.pointer e),.ptr key ol o,.ptr key' ol' o'=>match sz P e with
     | some (_+1)=>if key=key' then some (ol&&ol',decide (o=o'))else none
     | _=>none
   | some (.interface _),.aI,.aI=>some (true,true)
   | some (.interface _),.aI,.iface .. =>some (true,false)
   | some (.interface _),.iface ..,.aI=>some (true,false)
   | some (.interface _),.iface tx vx,.iface ty vy=>if tx=ty then(match P.info? tx with
      | some i=>if i.comparable then eqv P d tx vx vy else none
      | none=>none)else some (true,false)
   | some (.slice _),.aO,.aO=>some (true,true)
   | some (.slice _),.aO,.slc .. =>some (true,false)
   | some (.slice _),.slc ..,.aO=>some (true,false)
   | some (.slice _),.aO,.bw _ _ z _ n _=>some (!z,z&&Nat.beq n 0)
   | some (.slice _),.bw _ _ z _ n _,.aO=>some (!z,z&&Nat.beq n 0)
   | some (.map _ _),.eM,.eM=>some (true,true)
   | some (.map _ _),.map _,.eM=>some (true,false)
   | some (.func _ _ _),.ee,.ee=>some (true,true)
   | some (.func _ _ _),.ee,.func .. =>some (true,false)
   | some (.func _ _ _),.func ..,.ee=>some (true,false)
   | some (.struct fs),.agg xs,.agg ys=>if P.stoodInHeld t then none else
      fs.toList.foldr (fun f acc=>if f.name= "_" then acc else match partOf P f.type xs f.offset,partOf P f.type ys f.offset with
       | some u,some v=>match eqv P d f.type u v with
         | some r=>k7 r acc
         | none=>none
       | _,_=>none) (some (true,true))
   | some (.array len elem),.agg xs,.agg ys=>match sz P elem with
     | some n=>(List.range len).foldr (fun i acc=>match partOf P elem xs (i*n),partOf P elem ys (i*n)with
        | some u,some v=>match eqv P d elem u v with
          | some r=>k7 r acc
          | none=>none
        | _,_=>none) (some (true,true))
     | none=>none
   | some (.pointer _),.bD,.gu .. =>some (true,false)
   | some (.pointer _),.gu ..,.bD=>some (true,false)
   | some (.slice _),.aO,.bP _ _ z _ _ n _=>some (false,z&&Nat.beq n 0)
   | some (.slice _),.bP _ _ z _ _ n _,.aO=>some (false,z&&Nat.beq n 0)
   | some (.pointer _),.bD,.eD .. =>some (true,false)
   | some (.pointer _),.eD ..,.bD=>some (true,false)
   | _,_,_=>none
theorem Cx {P:Program}{E:Nat->Nat}{w:World}{d d':Nat}{xs ys:List SV}
  (ih: ∀ t x y l b,eqv P d t x y=some (l,b)->(Op.equalIn d' t (x.val E) (y.val E)).run P w=.ok b w/\(l=true->True)) :
  ∀(fs:List Field) (l b:Bool),fs.foldr (fun f acc=>if f.name= "_" then acc else match partOf P f.type xs f.offset,partOf P f.type ys f.offset with
      | some u,some v=>match eqv P d f.type u v with
        | some r=>k7 r acc
        | none=>none
      | _,_=>none) (some (true,true))=some (l,b) ->
   (Op.eqFields d' (SV.vals E xs).toArray (SV.vals E ys).toArray fs).run P w=.ok b w:=by
 intro fs
 induction fs with
 | nil=>intro l b h;simp at h;obtain⟨rfl,rfl⟩:=h;simp[Op.eqFields]
 | cons f r ihl =>
   intro l b h
   simp only[List.foldr_cons] at h
   by_cases hn:f.name= "_"
   ·rw[if_pos hn] at h
    simp only[Op.eqFields]
    rw[if_neg (by simp[hn])]
    exact ihl l b h
   ·rw[if_neg hn] at h
    simp only[Op.eqFields]
    rw[if_pos hn]
    split at h
    ·rename_i u v hu hv
     split at h
     ·rename_i q hq
      obtain⟨ql,qb⟩:=q
      have hr:=(ih _ _ _ _ _ hq).1
      simp only[Sem.run_bind,fH hu,fH hv,Result.andThen_ok,hr,Sem.run_ite]
      cases qb with
      | false =>
        simp only[Bool.not_false,if_true,Sem.run_pure]
        unfold k7 at h
        split at h
        ·injection h with h;injection h with _ h;rw[h]
        ·rename_i l0 b0 _ heq
         injection heq with e1 e2;subst e1;subst e2
         split at h
         ·injection h with h;injection h with _ h;simp at h;rw[h]
         ·cases h
      | true =>
        simp only[Bool.not_true,Bool.false_eq_true,if_false]
        unfold k7 at h
        split at h
        ·rename_i heq;cases heq
        ·rename_i l0 b0 _ heq
         injection heq with e1 e2;subst e1;subst e2
         split at h
         ·rename_i l' b' hacc
          injection h with h;injection h with _ h
          simp at h;subst h
          exact ihl _ _ hacc
         ·cases h
     ·cases h
    ·cases h
theorem Fp {P:Program}{E:Nat->Nat}{w:World}{d d' n:Nat}{t:TypeId}{xs ys:List SV}
  (ih: ∀ t x y l b,eqv P d t x y=some (l,b)->(Op.equalIn d' t (x.val E) (y.val E)).run P w=.ok b w) :
  ∀(fs:List Nat) (l b:Bool),fs.foldr (fun i acc=>match partOf P t xs (i*n),partOf P t ys (i*n)with
      | some u,some v=>match eqv P d t u v with
        | some r=>k7 r acc
        | none=>none
      | _,_=>none) (some (true,true))=some (l,b) ->
   (Op.eqItems d' t n (SV.vals E xs).toArray (SV.vals E ys).toArray fs).run P w=.ok b w:=by
 intro fs
 induction fs with
 | nil=>intro l b h;simp at h;obtain⟨rfl,rfl⟩:=h;simp[Op.eqItems]
 | cons f r ihl =>
   intro l b h
   simp only[List.foldr_cons] at h
   simp only[Op.eqItems]
   split at h
   ·rename_i u v hu hv
    split at h
    ·rename_i q hq
     obtain⟨ql,qb⟩:=q
     have hr:=ih _ _ _ _ _ hq
     simp only[Sem.run_bind,fH hu,fH hv,Result.andThen_ok,hr,Sem.run_ite]
     cases qb with
     | false =>
       simp only[Bool.not_false,if_true,Sem.run_pure]
       unfold k7 at h
       split at h
       ·injection h with h;injection h with _ h;rw[h]
       ·rename_i l0 b0 _ heq
        injection heq with e1 e2;subst e1;subst e2
        split at h
        ·injection h with h;injection h with _ h;simp at h;rw[h]
        ·cases h
     | true =>
       simp only[Bool.not_true,Bool.false_eq_true,if_false]
       unfold k7 at h
       split at h
       ·rename_i heq;cases heq
       ·rename_i l0 b0 _ heq
        injection heq with e1 e2;subst e1;subst e2
        split at h
        ·rename_i l' b' hacc
         injection h with h;injection h with _ h
         simp at h;subst h
         exact ihl _ _ hacc
        ·cases h
    ·cases h
   ·cases h
set_option maxHeartbeats 2000000 in
theorem JL {P:Program}{E:Nat->Nat}{w:World}: ∀(d:Nat) (t:TypeId) (x y:SV) (l b:Bool),eqv P d t x y=some (l,b)->∀ e,(Op.equalIn (d+e) t (x.val E) (y.val E)).run P w=.ok b w:=by
 intro d
 induction d with
 | zero=>intro t x y l b h;simp[eqv] at h
 | succ d ih =>
   intro t x y l b h e
   rw[show d+1+e=(d+e)+1 by omega]
   unfold eqv at h
   split at h
   case h_1=>rename_i hd;injection h with h;injection h with _ h;subst h;simp[Op.equalIn,aC hd,SV.val]
   case h_2 =>
    rename_i k l0 a k' l1 b1 hd
    split at h
    ·rename_i hk;subst hk
     injection h with h;injection h with _ h;subst h;simp[Op.equalIn,aC hd,SV.val]
     by_cases e:a=b1<;>simp[e]
    ·cases h
   case h_3 =>
    rename_i l0 a l1 b1 hd
    injection h with h;injection h with _ h;subst h
    simp[Op.equalIn,aC hd,SV.val,beq_toListBytes]
    by_cases e:a=b1<;>simp[e]
   case h_9 =>
    rename_i el key ol o key' ol' o' hd
    split at h
    ·rename_i n hn
     split at h
     ·rename_i hk;subst hk
      injection h with h;injection h with _ h;subst h
      simp[Op.equalIn,aC hd,SV.val,bK hn,sameAddr]
      by_cases e:o=o'<;>simp[e]
     ·cases h
    ·cases h
   case h_13 =>
    rename_i ms tx vx ty vy hd
    split at h
    ·rename_i ht;subst ht
     split at h
     ·rename_i i hi
      split at h
      ·rename_i hcmp
       simp only[Op.equalIn,Sem.run_bind,aC hd,SV.val,Result.andThen_ok,ne_eq,not_true_eq_false,if_false,iE hi,hcmp,Bool.not_true,Bool.false_eq_true]
       exact ih _ _ _ _ _ h e
      ·cases h
     ·cases h
    ·rename_i ht
     injection h with h;injection h with _ h;subst h
     simp[Op.equalIn,aC hd,SV.val,ht]
   case h_24 =>
    rename_i fs xs ys hd
    split at h
    ·cases h
    ·rename_i hs
     have hf:P.fieldsOf t=fs:=by simp[Program.fieldsOf,hd]
     have:=run_equalIn_struct (P:=P) w (d+e) t (SV.vals E xs).toArray (SV.vals E ys).toArray (by rw[hf];exact hd) (by simpa using hs)
     simp only[SV.val]
     rw[this,hf]
     exact Cx (fun t x y l b hq=>⟨ih t x y l b hq e,fun _=>trivial⟩) fs.toList l b h
   case h_25 =>
    rename_i len elem xs ys hd
    split at h
    ·rename_i n hn
     have hn': ∃ i,P.info? elem=some i/\P.cellsOf elem=n:=by
      unfold sz at hn
      split at hn
      ·rename_i i hi;injection hn with hn;exact⟨i,hi,by simp[Program.cellsOf,hi,hn]⟩
      ·cases hn
     obtain⟨i,hi,hc⟩:=hn'
     simp only[SV.val]
     rw[run_equalIn_array w (d+e) (SV.vals E xs).toArray (SV.vals E ys).toArray hd hi,hc]
     exact Fp (fun t x y l b hq=>ih t x y l b hq e) (List.range len) l b h
    ·cases h
   all_goals first
    | (cases h;done)
    | (rename_i z _ n _ hd;cases hz:z&&Nat.beq n 0<;>rw[hz] at h<;>injection h with h<;>injection h with _ h<;>subst h<;>simp only[Op.equalIn,Sem.run_bind,aC hd,SV.val,Result.andThen_ok,hz,cond_true,cond_false]<;>rfl)
    | (rename_i z _ _ n _ hd;cases hz:z&&Nat.beq n 0<;>rw[hz] at h<;>injection h with h<;>injection h with _ h<;>subst h<;>simp only[Op.equalIn,Sem.run_bind,aC hd,SV.val,Result.andThen_ok,hz,cond_true,cond_false]<;>rfl)
    | (rename_i hd;injection h with h;injection h with _ h;subst h;simp only[Op.equalIn,Sem.run_bind,aC hd,SV.val,Result.andThen_ok];rfl)
    | (rename_i hd;injection h with h;injection h with _ h;subst h;simp[Op.equalIn,aC hd,SV.val];done)
section
variable {P : Program} {look : jH} {σ : Operand -> Option SV}
def isConst:Operand->Bool
 | .const _=>true
 | _=>false
def SV.gen:SV->Bool
 | .int .. | .str .. | .raw _=>false
 | _=>true
def jV (P:Program)(t:TypeId)(c:Bool)(x y:SV):Bool :=
 x.gen&&y.gen&&(match x,y with
 | .aI,.aI=>c
 | .agg _,.agg _=>!P.eqGuardType P.depth t
 | _,_=>true)
theorem qN {E:Nat->Nat}{w:World}{op:BinOp}{t:TypeId}{x y:Operand}{a b:SV}(h:jV P t (isConst x||isConst y) a b=true) :
  (eqGuard op t x y (a.val E) (b.val E)).run P w=.ok () w:=by
 unfold eqGuard jV at *
 cases op
 all_goals try rfl
 all_goals
  simp only[Bool.not_true,Bool.false_eq_true,if_false]
  split at h
  ·simp only[Bool.and_eq_true] at h
   have:=h.2
   simp only[SV.val]
   cases x<;>cases y<;>simp_all [isConst]
  ·simp only[Bool.and_eq_true] at h
   have:=h.2
   simp only[SV.val]
   simp at this
   simp[this]
  ·rename_i h1 h2
   cases a<;>cases b<;>simp only[SV.val]<;>first
    | rfl
    | (exact(h1 rfl rfl).elim)
    | (exact(h2 _ _ rfl rfl).elim)
    | (simp[SV.gen] at h;done)
theorem binOp_eql {E:Nat->Nat}{t:TypeId}{a b:SV}(ha:a.gen=true)(_hb:b.gen=true) :
  binOp .eql t (a.val E) (b.val E)=(do pure (.bool (← Op.equal t (a.val E) (b.val E))):Sem Value) /\
  binOp .neq t (a.val E) (b.val E)=(do pure (.bool (!(← Op.equal t (a.val E) (b.val E)))):Sem Value):=by
 cases a<;>first | (simp[SV.gen] at ha;done) | (simp only[SV.val];exact⟨rfl,rfl⟩)
def U2 (P:Program)(op:BinOp)(t:TypeId)(c:Bool)(x y:SV)(K:Option SV->VC):VC :=
 match op,x,y with
 | .shl,.int k l a,.int _ l' b=>CW true k l a l' b K
 | .shr,.int k l a,.int _ l' b=>CW false k l a l' b K
 | op,.int k l a,.int k' l' b=>if k=k' then VO op k l a l' b K else .fail "binOp: kinds"
 | op,.str l a,.str l' b=>V7 op (l&&l') a b K
 | .eql,x,y=>if jV P t c x y then(match eqv P 50 t x y with
    | some (l,b)=>K (some (.bool l b))
    | none=>.fail "eql")else .fail "eql: guard"
 | .neq,x,y=>if jV P t c x y then(match eqv P 50 t x y with
    | some (l,b)=>K (some (.bool l (!b)))
    | none=>.fail "neq")else .fail "neq: guard"
 | _,_,_=>.fail "binOp"
theorem SC {s:(Operand->Value)->Sem Value}{op:BinOp}{k:IntKind}{l l':Bool}{a b:Int}(h1:op≠.shl)(h2:op≠.shr)
  (h: ∀ E w ρ,Compat E look w->Reads E σ ρ->(s ρ).run P w=(binOp op 0 (.int k a) (.int k b)).run P w):aM P look σ s (VO op k l a l' b):=by
 unfold VO
 have hb: ∀ w,(binOp op 0 (.int k a) (.int k b)).run P w=(match op with
   | .add | .sub | .mul=>Op.intArith op k a b
   | .quo | .rem=>Op.intDiv op k a b
   | .and | .or | .xor | .andNot=>Op.intBits op k a b
   | _=>Op.intCmp op a b:Sem Value).run P w:=by
  intro w;cases op<;>first | (exact absurd rfl h1) | (exact absurd rfl h2) | simp[binOp]
 cases op
 case add=>exact jR fun E w ρ hc hr=>by rw[h E w ρ hc hr,hb];simp[Op.intArith]
 case sub=>exact jR fun E w ρ hc hr=>by rw[h E w ρ hc hr,hb];simp[Op.intArith]
 case mul=>exact jR fun E w ρ hc hr=>by rw[h E w ρ hc hr,hb];simp[Op.intArith]
 case quo=>exact JB (rem:=false) fun E w ρ hc hr=>by rw[h E w ρ hc hr,hb];rfl
 case rem=>exact JB (rem:=true) fun E w ρ hc hr=>by rw[h E w ρ hc hr,hb];rfl
 case and=>exact sA (.inl rfl) fun E w ρ hc hr=>by rw[h E w ρ hc hr,hb]
 case or=>exact sA (.inr (.inl rfl)) fun E w ρ hc hr=>by rw[h E w ρ hc hr,hb]
 case xor=>exact sA (.inr (.inr rfl)) fun E w ρ hc hr=>by rw[h E w ρ hc hr,hb]
 case shl=>exact absurd rfl h1
 case shr=>exact absurd rfl h2
 case andNot=>exact aM.fail _
 all_goals (refine aM.v _ fun E w ρ hc hr=> ?_;rw[h E w ρ hc hr,hb];simp[Op.intCmp,SV.val])
 all_goals (by_cases e:a=b<;>simp[e])
theorem Jo {op:BinOp}{t u:TypeId}{k k':IntKind}{a b:Int}:binOp op t (.int k a) (.int k' b)=binOp op u (.int k a) (.int k' b):=by
 cases op<;>rfl
theorem RL {op:BinOp}{t _yt:TypeId}{x y:Operand}{a b:SV}(hx:σ x=some a)(hy:σ y=some b) :
  aM P look σ (fun ρ=>do eqGuard op t x y (ρ x) (ρ y);binOp op t (ρ x) (ρ y)) (U2 P op t (isConst x||isConst y) a b):=by
 have hi: ∀ {k k':IntKind} {n m:Int} {w:World},(do eqGuard op t x y (.int k n) (.int k' m);binOp op t (.int k n) (.int k' m):Sem Value).run P w=(binOp op t (.int k n) (.int k' m)).run P w:=by
  intro k k' n m w
  simp only[Sem.run_bind]
  have:(eqGuard op t x y (.int k n) (.int k' m)).run P w=.ok () w:=by unfold eqGuard;split<;>simp
  rw[this];rfl
 unfold U2
 split
 ·rename_i k l n k' l' m
  exact Bo (left:=true) (yk:=k') fun E w ρ hc hr=>by rw[hr x _ hx,hr y _ hy];simp only[SV.val];rw[hi];rfl
 ·rename_i k l n k' l' m
  exact Bo (left:=false) (yk:=k') fun E w ρ hc hr=>by rw[hr x _ hx,hr y _ hy];simp only[SV.val];rw[hi];rfl
 ·rename_i op' k l n k' l' m h1 h2
  refine aM.ite (fun e=> ?_) (fun _=>aM.fail _)
  subst e
  exact SC h1 h2 fun E w ρ hc hr=>by rw[hr x _ hx,hr y _ hy];simp only[SV.val];rw[hi,Jo]
 ·rename_i op' l n l' m
  refine Se fun E w ρ hc hr=> ?_
  rw[hr x _ hx,hr y _ hy];simp only[SV.val,Sem.run_bind]
  have:(eqGuard op t x y (.string ⟨n.toArray⟩) (.string ⟨m.toArray⟩)).run P w=.ok () w:=by unfold eqGuard;split<;>simp
  rw[this]
  cases op<;>rfl
 ·rename_i a' b' _ _
  refine aM.ite (fun hg=> ?_) (fun _=>aM.fail _)
  split
  ·rename_i l v he
   refine aM.v _ fun E w ρ hc hr=> ?_
   have hq:=JL (E:=E) (w:=w) 50 t a b l v he (Op.maxDepth - 50)
   have hg':=hg
   unfold jV at hg'
   simp only[Bool.and_eq_true] at hg'
   rw[hr x _ hx,hr y _ hy]
   simp only[Sem.run_bind,qN hg,Result.andThen_ok]
   rw[(binOp_eql hg'.1.1 hg'.1.2).1]
   simp only[Sem.run_bind,Op.equal]
   rw[show Op.maxDepth=50+(Op.maxDepth - 50)from rfl,hq];rfl
  ·exact aM.fail _
 ·rename_i a' b' _ _
  refine aM.ite (fun hg=> ?_) (fun _=>aM.fail _)
  split
  ·rename_i l v he
   refine aM.v _ fun E w ρ hc hr=> ?_
   have hq:=JL (E:=E) (w:=w) 50 t a b l v he (Op.maxDepth - 50)
   have hg':=hg
   unfold jV at hg'
   simp only[Bool.and_eq_true] at hg'
   rw[hr x _ hx,hr y _ hy]
   simp only[Sem.run_bind,qN hg,Result.andThen_ok]
   rw[(binOp_eql hg'.1.1 hg'.1.2).2]
   simp only[Sem.run_bind,Op.equal]
   rw[show Op.maxDepth=50+(Op.maxDepth - 50)from rfl,hq];rfl
  ·exact aM.fail _
 ·exact aM.fail _
def Xw (op:UnOp)(x:SV)(K:Option SV->VC):VC :=
 match op,x with
 | .not,.bool l b=>K (some (.bool l (!b)))
 | .neg,.int k l n=>oR k l (0 - n) K
 | .xor,.int k l n=>(match k.signed with
   | false=>AP .xor k l (hi k) n K
   | true=>.fail "unOp")
 | _,_=>.fail "unOp"
theorem UY {k:IntKind}(h:k.signed=false):k.max=hi k:=by
 cases k<;>first | rfl | (simp[IntKind.signed] at h;done)
theorem UC {op:UnOp}{x:Operand}{a:SV}(hx:σ x=some a):aM P look σ (fun ρ=>Op.unary op (ρ x)) (Xw op a):=by
 unfold Xw
 split
 ·exact aM.v _ fun E w ρ hc hr=>by rw[hr x _ hx];rfl
 ·exact jR fun E w ρ hc hr=>by rw[hr x _ hx];rfl
 ·rename_i k l n
  cases hs:k.signed with
  | true=>exact aM.fail _
  | false =>
    refine sA (.inr (.inr rfl)) fun E w ρ hc hr=> ?_
    rw[hr x _ hx]
    simp only[SV.val,Op.unary,hs,UY hs]
    rfl
 ·exact aM.fail _
def fits:IntKind->IntKind->Bool
 | .u8,.u16 | .u8,.u32 | .u8,.u64 | .u16,.u32 | .u16,.u64 | .u32,.u64=>true
 | a,b=>decide (a=b)
def Pj (P:Program)(src dst:TypeId)(x:SV)(K:Option SV->VC):VC :=
 match P.underlying src,P.underlying dst,x with
 | some (.int j),some (.int k),.int _ l n=>match l|| !fits j k with
   | true=>oR k l n K
   | false=>.and (.atom (lo k<=n/\n<=hi k)) (K (some (.int k false n)))
 | some .string,some .string,.str l s=>K (some (.str l s))
 | _,_,_=>.fail "convert"
theorem Q3 {src dst:TypeId}{x:Operand}{a:SV}(hx:σ x=some a):aM P look σ (fun ρ=>convert src dst (ρ x)) (Pj P src dst a):=by
 unfold Pj
 split
 ·rename_i j k k' l n hs hd
  have hrun: ∀ w,(convert src dst (.int k' n)).run P w=.ok (.int k (k.wrap n)) w:=fun w=>by
   simp only[convert,Sem.run_bind,aC hs,aC hd,Result.andThen_ok];rfl
  split
  ·exact jR fun E w ρ hc hr=>by rw[hr x _ hx];exact hrun w
  ·exact aM.atom fun hb=>aM.v _ fun E w ρ hc hr=>by rw[hr x _ hx];simp only[SV.val];rw[hrun w,qu hb]
 ·rename_i l s hs hd
  exact aM.v _ fun E w ρ hc hr=>by
   rw[hr x _ hx];simp only[SV.val,convert,Sem.run_bind,aC hs,aC hd,Result.andThen_ok];rfl
 ·exact aM.fail _
def rS (P:Program)(t:TypeId)(x:SV)(K:Option SV->VC):VC :=
 match P.concrete t with
 | true=>K (some (.iface t x))
 | false=>.fail "makeInterface"
theorem AB {t:TypeId}{x:Operand}{a:SV}(hx:σ x=some a):aM P look σ (fun ρ=>Instr.makeInterface t (ρ x)) (rS P t a):=by
 unfold rS
 split
 ·rename_i h
  exact aM.v _ fun E w ρ hc hr=>by rw[hr x _ hx,run_makeInterface w t _ h];rfl
 ·exact aM.fail _
def D0 (σ:Operand->Option SV):List Operand->Option (List SV)
 | []=>some []
 | x::r=>match σ x,D0 σ r with
   | some v,some l=>some (v::l)
   | _,_=>none
theorem JX {σ:Operand->Option SV}{E:Nat->Nat}{ρ:Operand->Value}(hr:Reads E σ ρ): ∀ {xs:List Operand} {l:List SV},D0 σ xs=some l->xs.map ρ=SV.vals E l
 | [],l,h=>by simp[D0] at h;subst h;rfl
 | x::r,l,h=>by
   simp only[D0] at h
   split at h
   ·rename_i v l' hv hl
    injection h with h;subst h
    simp[SV.vals,hr x v hv,JX hr hl]
   ·cases h
theorem kU {σ:Operand->Option SV}{E:Nat->Nat}{ρ:Operand->Value}(hr:Reads E σ ρ){xs:Array Operand}{l:List SV}(h:D0 σ xs.toList=some l) :
  xs.map ρ=(SV.vals E l).toArray:=by
 rw[← JX hr h];apply Array.ext';simp
def uC (fn:Fn)(a b:Option (List SV))(K:Option SV->VC):VC :=
 match a,b with
 | some a,some b=>K (some (.func fn a b))
 | _,_=>.fail "makeFunc"
theorem Dz {fn:Fn}{xs ys:Array Operand}:aM P look σ (fun ρ=>Instr.makeFunc fn (xs.map ρ) (ys.map ρ)) (uC fn (D0 σ xs.toList) (D0 σ ys.toList)):=by
 unfold uC
 split
 ·rename_i a b ha hb
  exact aM.v _ fun E w ρ hc hr=>by rw[kU hr ha,kU hr hb];rfl
 ·exact aM.fail _
def yp (x:SV)(i:Nat)(K:Option SV->VC):VC :=
 match x with
 | .aL vs=>(match vs[i]? with
   | some v=>K (some v)
   | none=>.fail "extract")
 | _=>.fail "extract: no tuple"
theorem EZ {x:Operand}{a:SV}{i:Nat}(hx:σ x=some a):aM P look σ (fun ρ=>Instr.extract (ρ x) i) (yp a i):=by
 unfold yp
 split
 ·rename_i vs
  split
  ·rename_i v hv
   refine aM.v _ fun E w ρ hc hr=> ?_
   rw[hr x _ hx];simp[SV.val,Instr.extract,SV.bp,hv]
  ·exact aM.fail _
 ·exact aM.fail _
def HY (P:Program)(t:TypeId)(x:SV)(f:Nat)(K:Option SV->VC):VC :=
 match P.underlying t,x with
 | some (.struct fs),.agg cs=>(match fs[f]? with
   | some fd=>(match partOf P fd.type cs fd.offset with
     | some v=>K (some v)
     | none=>.fail "field: no such part")
   | none=>.fail "field: no such field")
 | _,_=>.fail "field"
theorem Lh {t:TypeId}{x:Operand}{a:SV}{f:Nat}(hx:σ x=some a):aM P look σ (fun ρ=>Instr.field t (ρ x) f) (HY P t a f):=by
 unfold HY
 split
 ·rename_i fs cs hd
  split
  ·rename_i fd hf
   split
   ·rename_i v hv
    refine aM.v _ fun E w ρ hc hr=> ?_
    rw[hr x _ hx];simp[SV.val,Instr.field,aC hd,hf,asAgg,fH hv]
   ·exact aM.fail _
  ·exact aM.fail _
 ·exact aM.fail _
def ai (s:List UInt8)(i:Int):Int:=((s.getD i.toNat 0).toNat:Int)
def Jr (P:Program)(t:TypeId)(x i:SV)(K:Option SV->VC):VC :=
 match P.underlying t,x,i with
 | some .string,.str l s,.int _ l' n=>(match l&&l' with
   | true=>if 0<=n/\n<s.length then K (some (.int .u8 true (ai s n)))else .fail "index out of range"
   | false=>.and (.atom (0<=n/\n<s.length)) (K (some (.int .u8 false (ai s n)))))
 | some (.array len e),.agg cs,.int _ true n=>(match sz P e with
   | some m=>if 0<=n/\n<len then(match partOf P e cs (n.toNat*m)with
     | some v=>K (some v)
     | none=>.fail "index: no such part")else .fail "index out of range"
   | none=>.fail "index")
 | some (.array len e),.agg cs,.int _ false n=>(match sz P e,P.underlying e with
   | some 1,some .string=>(match lR cs with
     | some ss=>.and (.atom (0<=n/\n<len/\n<ss.length)) (K (some (.str false (bq ss n.toNat))))
     | none=>.fail "index: no texts")
   | _,_=>.fail "index")
 | _,_,_=>.fail "index"
theorem sG {E:Nat->Nat}{w:World}{t:TypeId}(hd:P.underlying t=some .string){l:Bool}{s:List UInt8}{k:IntKind}{l':Bool}{n:Int}(h:0<=n/\n<s.length) :
  (Instr.index t ((SV.str l s).val E) ((SV.int k l' n).val E)).run P w=.ok (.int .u8 (ai s n)) w:=by
 have hn:n.toNat<s.length:=by omega
 simp only[SV.val,Instr.index,asIntOf,Sem.run_bind,Sem.run_pure,Result.andThen_ok,aC hd,h.1,if_true]
 have e:(ByteArray.mk s.toArray)[n.toNat]?=some s[n.toNat]:=by
  rw[getElem?_pos (ByteArray.mk s.toArray) n.toNat (by simpa [ByteArray.size] using hn)];rfl
 rw[e]
 simp[ai,List.getD_eq_getElem?_getD,hn]
theorem MK {t:TypeId}{x i:Operand}{a b:SV}(hx:σ x=some a)(hi:σ i=some b):aM P look σ (fun ρ=>Instr.index t (ρ x) (ρ i)) (Jr P t a b):=by
 unfold Jr
 split
 ·rename_i l s k l' n hd
  split
  ·exact aM.ite (fun h=>aM.v _ fun E w ρ hc hr=>by rw[hr x _ hx,hr i _ hi];exact sG hd h) (fun _=>aM.fail _)
  ·exact aM.atom fun h=>aM.v _ fun E w ρ hc hr=>by rw[hr x _ hx,hr i _ hi];exact sG hd h
 ·rename_i len e cs k n hd
  split
  ·rename_i m hm
   refine aM.ite (fun h=> ?_) (fun _=>aM.fail _)
   split
   ·rename_i v hv
    refine aM.v _ fun E w ρ hc hr=> ?_
    rw[hr x _ hx,hr i _ hi]
    simp[SV.val,Instr.index,asIntOf,aC hd,h.1,h.2,bK hm,fH hv]
   ·exact aM.fail _
  ·exact aM.fail _
 ·rename_i len e cs k n hd
  split
  ·rename_i hm he
   split
   ·rename_i ss hss
    refine aM.atom fun h=>aM.v _ fun E w ρ hc hr=> ?_
    have hl:n.toNat<cs.length:=by rw[← rG hss];omega
    obtain⟨b,hb⟩:=kE hss n.toNat _ (List.getElem?_eq_getElem hl)
    have hv:partOf P e cs (n.toNat*1)=some (.str b (bq ss n.toNat)):=by
     simp only[partOf,he,eB,Nat.mul_one]
     rw[List.getElem?_eq_getElem hl,hb]
    have hp:=fH (E:=E) (w:=w) hv
    rw[hr x _ hx,hr i _ hi]
    rw[Nat.mul_one] at hp
    simp[SV.val,Instr.index,asIntOf,aC hd,h.1,h.2.1,bK hm,hp]
   ·exact aM.fail _
  ·exact aM.fail _
 ·exact aM.fail _
end
end Go.Proofs.YtoibaecagklkaaaGreatDoor.Sx
