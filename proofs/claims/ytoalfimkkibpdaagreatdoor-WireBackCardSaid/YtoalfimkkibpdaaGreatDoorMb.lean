/-
  The framework's third part: more operations that leave the world alone: arithmetic, comparisons, strings, structs.
-/
import Derived.Test.YtoalfimkkibpdaaGreatDoorMa
import Derived.ChangeKeysEq
import Derived.Laws.Build
import Derived.BigFrame
namespace Go.Proofs.YtoalfimkkibpdaaGreatDoor.Sx
open Go
section
variable {P : Program} {look : Look} {σ : Operand → Option SV}
def qarith (k:IntKind)(l:Bool)(n:Int)(K:Option SV→VC):VC :=
 match l with
 | true=>K (some (.int k true (k.wrap n)))
 | false=>match k.signed with
   | true=>.and (.atom (lo k≤n∧n≤hi k)) (K (some (.int k false n)))
   | false=>K (some (.int k false (n% md k)))
theorem qarith_ok {s:(Operand→Value)→Sem Value} {k:IntKind} {l:Bool} {n:Int}
  (h: ∀ E w ρ,Compat E look w→Reads E σ ρ→(s ρ).run P w=.ok (.int k (k.wrap n)) w):QOk P look σ s (qarith k l n):=by
 unfold qarith
 cases l with
 | true=>exact QOk.v _ fun E w ρ hc hr=>h E w ρ hc hr
 | false =>
   simp only
   cases hs:k.signed with
   | true=>exact QOk.atom fun hb=>QOk.v _ fun E w ρ hc hr=>by rw[h E w ρ hc hr,wrap_in hb];rfl
   | false=>exact QOk.v _ fun E w ρ hc hr=>by rw[h E w ρ hc hr,wrap_un hs];rfl
def qdiv (rem:Bool)(k:IntKind)(l:Bool)(a:Int)(l':Bool)(b:Int)(K:Option SV→VC):VC :=
 match l&&l' with
 | true=>if b=0 then .fail "division by zero" else(match rem with
   | true=>K (some (.int k true (a.tmod b)))
   | false=>K (some (.int k true (k.wrap (a.tdiv b)))))
 | false=>.and (.atom (0≤a∧a≤hi k∧0<b)) (match rem with
   | true=>K (some (.int k false (a% b)))
   | false=>K (some (.int k false (a / b))))
theorem lo_nonpos (k:IntKind):lo k≤0:=by cases k<;>simp[lo]
theorem qdiv_ok {s:(Operand→Value)→Sem Value} {rem:Bool} {k:IntKind} {l l':Bool} {a b:Int}
  (h: ∀ E w ρ,Compat E look w→Reads E σ ρ→(s ρ).run P w=(Op.intDiv (if rem then .rem else .quo) k a b).run P w):QOk P look σ s (qdiv rem k l a l' b):=by
 unfold qdiv
 cases (l&&l')with
 | true =>
   refine QOk.ite (fun _=>QOk.fail _) fun hb=> ?_
   cases rem with
   | true=>exact QOk.v _ fun E w ρ hc hr=>by rw[h E w ρ hc hr];simp[Op.intDiv,hb,SV.val]
   | false=>exact QOk.v _ fun E w ρ hc hr=>by rw[h E w ρ hc hr];simp[Op.intDiv,hb,SV.val]
 | false =>
   refine QOk.atom fun⟨h0,h1,h2⟩=> ?_
   have hb:b≠0:=by omega
   cases rem with
   | true=>exact QOk.v _ fun E w ρ hc hr=>by rw[h E w ρ hc hr];simp[Op.intDiv,hb,SV.val,Int.tmod_eq_emod_of_nonneg h0]
   | false =>
     refine QOk.v _ fun E w ρ hc hr=> ?_
     have e:k.wrap (a.tdiv b)=a / b:=by
      rw[Int.tdiv_eq_ediv_of_nonneg h0]
      have:a / b≤a:=Int.ediv_le_self b h0
      have:0≤a / b:=Int.ediv_nonneg h0 (by omega)
      exact wrap_in ⟨by have:=lo_nonpos k;omega,by omega⟩
     rw[h E w ρ hc hr];simp[Op.intDiv,hb,SV.val,e]
def qshift (left:Bool)(k:IntKind)(l:Bool)(a:Int)(l':Bool)(b:Int)(K:Option SV→VC):VC :=
 match l' with
 | true=>if b<0 then .fail "negative shift" else(match left with
   | true=>qarith k l (a*(2^ (min b.toNat k.bits):Nat)) K
   | false=>K (some (.int k l (a / (2^ (min b.toNat k.bits):Nat)))))
 | false=>.fail "shift by a number that is not known"
theorem qshift_ok {s:(Operand→Value)→Sem Value} {left:Bool} {k yk:IntKind} {l l':Bool} {a b:Int}
  (h: ∀ E w ρ,Compat E look w→Reads E σ ρ→(s ρ).run P w=(Op.shift (if left then .shl else .shr) k a yk b).run P w):QOk P look σ s (qshift left k l a l' b):=by
 unfold qshift
 cases l' with
 | false=>exact QOk.fail _
 | true =>
   refine QOk.ite (fun _=>QOk.fail _) fun hb=> ?_
   cases left with
   | true=>exact qarith_ok fun E w ρ hc hr=>by rw[h E w ρ hc hr];simp[Op.shift,hb]
   | false =>
     refine QOk.v _ fun E w ρ hc hr=> ?_
     rw[h E w ρ hc hr]
     simp only[Op.shift,hb,if_false,Bool.false_eq_true,Sem.run_pure,SV.val]
     rw[Int.fdiv_eq_ediv_of_nonneg _ (Int.pow_nonneg (by decide))]
     simp
def bitsOf (op:BinOp)(a b:Int):Int :=
 match op with
 | .and=>Int.ofNat (a.toNat &&& b.toNat)
 | .or=>Int.ofNat (a.toNat ||| b.toNat)
 | _=>Int.ofNat (a.toNat ^^^ b.toNat)
def qbits (op:BinOp)(k:IntKind)(l:Bool)(a b:Int)(K:Option SV→VC):VC :=
 match l with
 | true=>if 0≤a∧a≤hi k∧0≤b∧b≤hi k then K (some (.int k true (bitsOf op a b)))else .fail "bits: below zero"
 | false=>.and (.atom (0≤a∧a≤hi k∧0≤b∧b≤hi k)) (K (some (.int k false (bitsOf op a b))))
theorem hi_lt (k:IntKind):hi k<2^ k.bits:=by cases k<;>decide
theorem toNat_ofInt {w:Nat} {a:Int} (h0:0≤a)(h1:a<2^ w):(BitVec.ofInt w a).toNat=a.toNat:=by
 rw[BitVec.toNat_ofInt]
 congr 1
 exact Int.emod_eq_of_lt h0 (by exact_mod_cast h1)
theorem bits_run {op:BinOp} (hop:op=.and∨op=.or∨op=.xor) {k:IntKind} {a b:Int} (h:0≤a∧a≤hi k∧0≤b∧b≤hi k)(w:World) :
  (Op.intBits op k a b).run P w=.ok (.int k (bitsOf op a b)) w:=by
 obtain⟨a0,a1,b0,b1⟩:=h
 have hk:=hi_lt k
 have ea:=toNat_ofInt (w:=k.bits) a0 (by omega)
 have eb:=toNat_ofInt (w:=k.bits) b0 (by omega)
 have la:a.toNat<2^ k.bits:=by have:(a.toNat:Int)<((2^ k.bits:Nat):Int):=by rw[Int.toNat_of_nonneg a0];push_cast;omega
                               exact_mod_cast this
 have lb:b.toNat<2^ k.bits:=by have:(b.toNat:Int)<((2^ k.bits:Nat):Int):=by rw[Int.toNat_of_nonneg b0];push_cast;omega
                               exact_mod_cast this
 have hh:(hi k).toNat+1=2^ k.bits∨(hi k).toNat+1=2^ (k.bits - 1):=by cases k<;>simp[hi,IntKind.bits]
 have key: ∀ n:Nat,n≤(hi k).toNat→k.wrap (n:Int)=n:=fun n hn=>wrap_in ⟨by have:=lo_nonpos k;omega,by
  have:0≤hi k:=by cases k<;>simp[hi]
  omega⟩
 have ba:a.toNat≤(hi k).toNat:=by omega
 have bb:b.toNat≤(hi k).toNat:=by omega
 have hand:a.toNat &&& b.toNat≤(hi k).toNat:=Nat.le_trans Nat.and_le_left ba
 have two: ∃ m,(hi k).toNat+1=2^ m:=by rcases hh with h | h<;>exact⟨_,h⟩
 obtain⟨m,hm⟩:=two
 have hor:a.toNat ||| b.toNat≤(hi k).toNat:=by
  have:=Nat.or_lt_two_pow (x:=a.toNat) (y:=b.toNat) (n:=m) (by omega) (by omega);omega
 have hxor:a.toNat ^^^ b.toNat≤(hi k).toNat:=by
  have:=Nat.xor_lt_two_pow (x:=a.toNat) (y:=b.toNat) (n:=m) (by omega) (by omega);omega
 rcases hop with rfl | rfl | rfl
 ·simp only[Op.intBits,bitsOf,Sem.run_pure,BitVec.toNat_and,ea,eb];rw[key _ hand];rfl
 ·simp only[Op.intBits,bitsOf,Sem.run_pure,BitVec.toNat_or,ea,eb];rw[key _ hor];rfl
 ·simp only[Op.intBits,bitsOf,Sem.run_pure,BitVec.toNat_xor,ea,eb];rw[key _ hxor];rfl
theorem qbits_ok {s:(Operand→Value)→Sem Value} {op:BinOp} (hop:op=.and∨op=.or∨op=.xor) {k:IntKind} {l:Bool} {a b:Int}
  (h: ∀ E w ρ,Compat E look w→Reads E σ ρ→(s ρ).run P w=(Op.intBits op k a b).run P w):QOk P look σ s (qbits op k l a b):=by
 unfold qbits
 cases l with
 | true=>exact QOk.ite (fun hb=>QOk.v _ fun E w ρ hc hr=>by rw[h E w ρ hc hr,bits_run hop hb];rfl) (fun _=>QOk.fail _)
 | false=>exact QOk.atom fun hb=>QOk.v _ fun E w ρ hc hr=>by rw[h E w ρ hc hr,bits_run hop hb];rfl
def qint (op:BinOp)(k:IntKind)(l:Bool)(a:Int)(l':Bool)(b:Int)(K:Option SV→VC):VC :=
 match op with
 | .add=>qarith k (l&&l') (a+b) K
 | .sub=>qarith k (l&&l') (a - b) K
 | .mul=>qarith k (l&&l') (a*b) K
 | .quo=>qdiv false k l a l' b K
 | .rem=>qdiv true k l a l' b K
 | .and=>qbits .and k (l&&l') a b K
 | .or=>qbits .or k (l&&l') a b K
 | .xor=>qbits .xor k (l&&l') a b K
 | .eql=>K (some (.bool (l&&l') (decide (a=b))))
 | .neq=>K (some (.bool (l&&l') (!decide (a=b))))
 | .lss=>K (some (.bool (l&&l') (decide (a<b))))
 | .leq=>K (some (.bool (l&&l') (decide (a≤b))))
 | .gtr=>K (some (.bool (l&&l') (decide (b<a))))
 | .geq=>K (some (.bool (l&&l') (decide (b≤a))))
 | _=>.fail "binOp: integers"
def maxLen64:Int:=9223372036854775807
def cat (a b:List UInt8):List UInt8:=a++b
def qstr (op:BinOp)(l:Bool)(a b:List UInt8)(K:Option SV→VC):VC :=
 match op with
 | .add=>match l with
   | true=>if(a.length:Int)+b.length≤maxLen64 then K (some (.str true (a++b)))else .fail "a text that is too long"
   | false=>.and (.atom ((a.length:Int)+b.length≤9223372036854775807)) (K (some (.str false (cat a b))))
 | .eql=>K (some (.bool l (decide (a=b))))
 | .neq=>K (some (.bool l (!decide (a=b))))
 | .lss=>K (some (.bool l (Op.bytesLess a b)))
 | .leq=>K (some (.bool l (Op.bytesLess a b||decide (a=b))))
 | .gtr=>K (some (.bool l (!(Op.bytesLess a b||decide (a=b)))))
 | .geq=>K (some (.bool l (!Op.bytesLess a b)))
 | _=>.fail "binOp: texts"
theorem bytes_append (a b:List UInt8):(ByteArray.mk a.toArray)++(ByteArray.mk b.toArray)=ByteArray.mk (a++b).toArray:=by
 apply ByteArray.ext
 rw[ByteArray.data_append];simp
theorem imax:IntKind.i64.max=9223372036854775807:=by decide
theorem qstr_ok {s:(Operand→Value)→Sem Value} {op:BinOp} {l:Bool} {a b:List UInt8}
  (h: ∀ E w ρ,Compat E look w→Reads E σ ρ→(s ρ).run P w=(Op.stringOp op ⟨a.toArray⟩ ⟨b.toArray⟩).run P w):QOk P look σ s (qstr op l a b):=by
 have he:(a==b)=decide (a=b):=by by_cases e:a=b<;>simp[e]
 have sa:(ByteArray.mk a.toArray).size=a.length:=by simp[ByteArray.size]
 have sb:(ByteArray.mk b.toArray).size=b.length:=by simp[ByteArray.size]
 unfold qstr
 cases op
 case add =>
  have go:(a.length:Int)+b.length≤9223372036854775807→∀ w,(Op.stringOp .add ⟨a.toArray⟩ ⟨b.toArray⟩).run P w=.ok (.string ⟨(a++b).toArray⟩) w:=fun hb w=>by
   simp only[Op.stringOp,sa,sb,imax,bytes_append]
   rw[if_neg (by omega)];rfl
  cases l with
  | true=>exact QOk.ite (fun hb=>QOk.v _ fun E w ρ hc hr=>by rw[h E w ρ hc hr,go hb];rfl) (fun _=>QOk.fail _)
  | false=>exact QOk.atom fun hb=>QOk.v _ fun E w ρ hc hr=>by rw[h E w ρ hc hr,go hb];rfl
 all_goals first
  | exact QOk.fail _
  | (refine QOk.v _ fun E w ρ hc hr=> ?_;rw[h E w ρ hc hr];simp[Op.stringOp,SV.val,he])
end
def stepAnd (x:Bool×Bool)(y:Option (Bool×Bool)):Option (Bool×Bool) :=
 match x with
 | (true,false)=>some (true,false)
 | (l,b)=>match y with
   | some (l',b')=>some (l&&l',b&&b')
   | none=>none
def partOf (P:Program)(t:TypeId)(cs:List SV)(off:Nat):Option SV :=
 match P.underlying t with
 | none=>none
 | some d=>match isAggD d with
   | true=>match sz P t with
     | some n=>match takeAt cs off n with
       | some l=>some (.agg l)
       | none=>none
     | none=>none
   | false=>cs[off]?
theorem partOf_run {P:Program} {E:Nat→Nat} {w:World} {t:TypeId} {cs:List SV} {off:Nat} {v:SV} (h:partOf P t cs off=some v) :
  (part t (SV.vals E cs).toArray off).run P w=.ok (v.val E) w:=by
 unfold partOf at h
 split at h
 ·cases h
 ·rename_i d hd
  split at h
  ·rename_i ha
   split at h
   ·rename_i n hn
    split at h
    ·rename_i l hl
     injection h with h;subst h
     have hg:=takeAt_get hl
     simp only[part,Sem.run_bind,run_isAgg hd,ha,Result.andThen_ok,if_true,run_sz hn,Sem.run_pure,SV.val,SV.vals_eq]
     congr 2
     apply Array.ext'
     simp only[Array.toList_extract,List.toList_toArray,List.extract_eq_take_drop]
     rw[show off+n - off=n by omega,List.map_drop.symm,List.map_take.symm]
     congr 1
     apply List.ext_getElem?
     intro j
     rw[List.getElem?_take]
     split
     ·rename_i hj
      rw[List.getElem?_drop]
      obtain⟨u,hu⟩: ∃ u,l[j]?=some u:=⟨l[j]'(by omega),List.getElem?_eq_getElem _⟩
      rw[hu,hg.2 j u hu]
     ·rw[List.getElem?_eq_none (by omega)]
    ·cases h
   ·cases h
  ·rename_i ha
   simp only[part,Sem.run_bind,run_isAgg hd,ha,Result.andThen_ok,SV.vals_eq]
   simp[h]
def eqv (P:Program):Nat→TypeId→SV→SV→Option (Bool×Bool)
 | 0,_,_,_=>none
 | d+1,t,x,y =>
   match P.underlying t,x,y with
   | some .bool,.bool l a,.bool l' b=>some (l&&l',a==b)
   | some (.int _),.int k l a,.int k' l' b=>if k=k' then some (l&&l',decide (a=b))else none
   | some .string,.str l a,.str l' b=>some (l&&l',decide (a=b))
   | some (.pointer _),.nilptr,.nilptr=>some (true,true)
   | some (.pointer _),.nilptr,.ptr .. =>some (true,false)
   | some (.pointer _),.ptr ..,.nilptr=>some (true,false)
   | some (.pointer _),.nilptr,.eptr .. =>some (true,false)
   | some (.pointer _),.eptr ..,.nilptr=>some (true,false)
   | some (.pointer e),.ptr key ol o,.ptr key' ol' o'=>match sz P e with
     | some (_+1)=>if key=key' then some (ol&&ol',decide (o=o'))else none
     | _=>none
   | some (.interface _),.niliface,.niliface=>some (true,true)
   | some (.interface _),.niliface,.iface .. =>some (true,false)
   | some (.interface _),.iface ..,.niliface=>some (true,false)
   | some (.interface _),.iface tx vx,.iface ty vy=>if tx=ty then(match P.info? tx with
      | some i=>if i.comparable then eqv P d tx vx vy else none
      | none=>none)else some (true,false)
   | some (.slice _),.nilslc,.nilslc=>some (true,true)
   | some (.slice _),.nilslc,.slc .. =>some (true,false)
   | some (.slice _),.slc ..,.nilslc=>some (true,false)
   | some (.slice _),.nilslc,.rslc _ _ z _ n _=>some (!z,z&&Nat.beq n 0)
   | some (.slice _),.rslc _ _ z _ n _,.nilslc=>some (!z,z&&Nat.beq n 0)
   | some (.map _ _),.nilmap,.nilmap=>some (true,true)
   | some (.map _ _),.map _,.nilmap=>some (true,false)
   | some (.func _ _ _),.nilfunc,.nilfunc=>some (true,true)
   | some (.func _ _ _),.nilfunc,.func .. =>some (true,false)
   | some (.func _ _ _),.func ..,.nilfunc=>some (true,false)
   | some (.struct fs),.agg xs,.agg ys=>if P.stoodInHeld t then none else
      fs.toList.foldr (fun f acc=>if f.name= "_" then acc else match partOf P f.type xs f.offset,partOf P f.type ys f.offset with
       | some u,some v=>match eqv P d f.type u v with
         | some r=>stepAnd r acc
         | none=>none
       | _,_=>none) (some (true,true))
   | some (.array len elem),.agg xs,.agg ys=>match sz P elem with
     | some n=>(List.range len).foldr (fun i acc=>match partOf P elem xs (i*n),partOf P elem ys (i*n)with
        | some u,some v=>match eqv P d elem u v with
          | some r=>stepAnd r acc
          | none=>none
        | _,_=>none) (some (true,true))
     | none=>none
   | some (.pointer _),.nilptr,.veptr .. =>some (true,false)
   | some (.pointer _),.veptr ..,.nilptr=>some (true,false)
   | some (.slice _),.nilslc,.vslc _ _ z _ _ n _=>some (false,z&&Nat.beq n 0)
   | some (.slice _),.vslc _ _ z _ _ n _,.nilslc=>some (false,z&&Nat.beq n 0)
   | _,_,_=>none
theorem eqFields_run {P:Program} {E:Nat→Nat} {w:World} {d d':Nat} {xs ys:List SV}
  (ih: ∀ t x y l b,eqv P d t x y=some (l,b)→(Op.equalIn d' t (x.val E) (y.val E)).run P w=.ok b w∧(l=true→True)) :
  ∀(fs:List Field) (l b:Bool),fs.foldr (fun f acc=>if f.name= "_" then acc else match partOf P f.type xs f.offset,partOf P f.type ys f.offset with
      | some u,some v=>match eqv P d f.type u v with
        | some r=>stepAnd r acc
        | none=>none
      | _,_=>none) (some (true,true))=some (l,b) →
   (Op.eqFields d' (SV.vals E xs).toArray (SV.vals E ys).toArray fs).run P w=.ok b w:=by
 intro fs
 induction fs with
 | nil=>intro l b h;simp at h;obtain⟨rfl,rfl⟩:=h;simp[Op.eqFields]
 | cons f r ihl =>
   intro l b h
   simp only[List.foldr_cons] at h
   by_cases hn:f.name= "_"
   ·rw[if_pos hn] at h
    simp only[Op.eqFields]
    rw[if_neg (by simp[hn])]
    exact ihl l b h
   ·rw[if_neg hn] at h
    simp only[Op.eqFields]
    rw[if_pos hn]
    split at h
    ·rename_i u v hu hv
     split at h
     ·rename_i q hq
      obtain⟨ql,qb⟩:=q
      have hr:=(ih _ _ _ _ _ hq).1
      simp only[Sem.run_bind,partOf_run hu,partOf_run hv,Result.andThen_ok,hr,Sem.run_ite]
      cases qb with
      | false =>
        simp only[Bool.not_false,if_true,Sem.run_pure]
        unfold stepAnd at h
        split at h
        ·injection h with h;injection h with _ h;rw[h]
        ·rename_i l0 b0 _ heq
         injection heq with e1 e2;subst e1;subst e2
         split at h
         ·injection h with h;injection h with _ h;simp at h;rw[h]
         ·cases h
      | true =>
        simp only[Bool.not_true,Bool.false_eq_true,if_false]
        unfold stepAnd at h
        split at h
        ·rename_i heq;cases heq
        ·rename_i l0 b0 _ heq
         injection heq with e1 e2;subst e1;subst e2
         split at h
         ·rename_i l' b' hacc
          injection h with h;injection h with _ h
          simp at h;subst h
          exact ihl _ _ hacc
         ·cases h
     ·cases h
    ·cases h
theorem eqItems_run {P:Program} {E:Nat→Nat} {w:World} {d d' n:Nat} {t:TypeId} {xs ys:List SV}
  (ih: ∀ t x y l b,eqv P d t x y=some (l,b)→(Op.equalIn d' t (x.val E) (y.val E)).run P w=.ok b w) :
  ∀(fs:List Nat) (l b:Bool),fs.foldr (fun i acc=>match partOf P t xs (i*n),partOf P t ys (i*n)with
      | some u,some v=>match eqv P d t u v with
        | some r=>stepAnd r acc
        | none=>none
      | _,_=>none) (some (true,true))=some (l,b) →
   (Op.eqItems d' t n (SV.vals E xs).toArray (SV.vals E ys).toArray fs).run P w=.ok b w:=by
 intro fs
 induction fs with
 | nil=>intro l b h;simp at h;obtain⟨rfl,rfl⟩:=h;simp[Op.eqItems]
 | cons f r ihl =>
   intro l b h
   simp only[List.foldr_cons] at h
   simp only[Op.eqItems]
   split at h
   ·rename_i u v hu hv
    split at h
    ·rename_i q hq
     obtain⟨ql,qb⟩:=q
     have hr:=ih _ _ _ _ _ hq
     simp only[Sem.run_bind,partOf_run hu,partOf_run hv,Result.andThen_ok,hr,Sem.run_ite]
     cases qb with
     | false =>
       simp only[Bool.not_false,if_true,Sem.run_pure]
       unfold stepAnd at h
       split at h
       ·injection h with h;injection h with _ h;rw[h]
       ·rename_i l0 b0 _ heq
        injection heq with e1 e2;subst e1;subst e2
        split at h
        ·injection h with h;injection h with _ h;simp at h;rw[h]
        ·cases h
     | true =>
       simp only[Bool.not_true,Bool.false_eq_true,if_false]
       unfold stepAnd at h
       split at h
       ·rename_i heq;cases heq
       ·rename_i l0 b0 _ heq
        injection heq with e1 e2;subst e1;subst e2
        split at h
        ·rename_i l' b' hacc
         injection h with h;injection h with _ h
         simp at h;subst h
         exact ihl _ _ hacc
        ·cases h
    ·cases h
   ·cases h
set_option maxHeartbeats 2000000 in
theorem eqv_run {P:Program} {E:Nat→Nat} {w:World}: ∀(d:Nat)(t:TypeId)(x y:SV)(l b:Bool),eqv P d t x y=some (l,b)→∀ e,(Op.equalIn (d+e) t (x.val E) (y.val E)).run P w=.ok b w:=by
 intro d
 induction d with
 | zero=>intro t x y l b h;simp[eqv] at h
 | succ d ih =>
   intro t x y l b h e
   rw[show d+1+e=(d+e)+1 by omega]
   unfold eqv at h
   split at h
   case h_1=>rename_i hd;injection h with h;injection h with _ h;subst h;simp[Op.equalIn,run_und hd,SV.val]
   case h_2 =>
    rename_i k l0 a k' l1 b1 hd
    split at h
    ·rename_i hk;subst hk
     injection h with h;injection h with _ h;subst h;simp[Op.equalIn,run_und hd,SV.val]
     by_cases e:a=b1<;>simp[e]
    ·cases h
   case h_3 =>
    rename_i l0 a l1 b1 hd
    injection h with h;injection h with _ h;subst h
    simp[Op.equalIn,run_und hd,SV.val,beq_toListBytes]
    by_cases e:a=b1<;>simp[e]
   case h_9 =>
    rename_i el key ol o key' ol' o' hd
    split at h
    ·rename_i n hn
     split at h
     ·rename_i hk;subst hk
      injection h with h;injection h with _ h;subst h
      simp[Op.equalIn,run_und hd,SV.val,run_sz hn,sameAddr]
      by_cases e:o=o'<;>simp[e]
     ·cases h
    ·cases h
   case h_13 =>
    rename_i ms tx vx ty vy hd
    split at h
    ·rename_i ht;subst ht
     split at h
     ·rename_i i hi
      split at h
      ·rename_i hcmp
       simp only[Op.equalIn,Sem.run_bind,run_und hd,SV.val,Result.andThen_ok,ne_eq,not_true_eq_false,if_false,run_info hi,hcmp,Bool.not_true,Bool.false_eq_true]
       exact ih _ _ _ _ _ h e
      ·cases h
     ·cases h
    ·rename_i ht
     injection h with h;injection h with _ h;subst h
     simp[Op.equalIn,run_und hd,SV.val,ht]
   case h_24 =>
    rename_i fs xs ys hd
    split at h
    ·cases h
    ·rename_i hs
     have hf:P.fieldsOf t=fs:=by simp[Program.fieldsOf,hd]
     have:=run_equalIn_struct (P:=P) w (d+e) t (SV.vals E xs).toArray (SV.vals E ys).toArray (by rw[hf];exact hd) (by simpa using hs)
     simp only[SV.val]
     rw[this,hf]
     exact eqFields_run (fun t x y l b hq=>⟨ih t x y l b hq e,fun _=>trivial⟩) fs.toList l b h
   case h_25 =>
    rename_i len elem xs ys hd
    split at h
    ·rename_i n hn
     have hn': ∃ i,P.info? elem=some i∧P.cellsOf elem=n:=by
      unfold sz at hn
      split at hn
      ·rename_i i hi;injection hn with hn;exact⟨i,hi,by simp[Program.cellsOf,hi,hn]⟩
      ·cases hn
     obtain⟨i,hi,hc⟩:=hn'
     simp only[SV.val]
     rw[run_equalIn_array w (d+e) (SV.vals E xs).toArray (SV.vals E ys).toArray hd hi,hc]
     exact eqItems_run (fun t x y l b hq=>ih t x y l b hq e) (List.range len) l b h
    ·cases h
   all_goals first
    | (cases h;done)
    | (rename_i z _ n _ hd;cases hz:z&&Nat.beq n 0<;>rw[hz] at h<;>injection h with h<;>injection h with _ h<;>subst h<;>simp only[Op.equalIn,Sem.run_bind,run_und hd,SV.val,Result.andThen_ok,hz,cond_true,cond_false]<;>rfl)
    | (rename_i z _ _ n _ hd;cases hz:z&&Nat.beq n 0<;>rw[hz] at h<;>injection h with h<;>injection h with _ h<;>subst h<;>simp only[Op.equalIn,Sem.run_bind,run_und hd,SV.val,Result.andThen_ok,hz,cond_true,cond_false]<;>rfl)
    | (rename_i hd;injection h with h;injection h with _ h;subst h;simp only[Op.equalIn,Sem.run_bind,run_und hd,SV.val,Result.andThen_ok];rfl)
    | (rename_i hd;injection h with h;injection h with _ h;subst h;simp[Op.equalIn,run_und hd,SV.val];done)
end Go.Proofs.YtoalfimkkibpdaaGreatDoor.Sx
namespace Go.Proofs.YtoalfimkkibpdaaGreatDoor.Sx
open Go
section
variable {P : Program} {look : Look} {σ : Operand → Option SV}
def isConst:Operand→Bool
 | .const _=>true
 | _=>false
def SV.gen:SV→Bool
 | .int .. | .str .. | .raw _=>false
 | _=>true
def guardFree (P:Program)(t:TypeId)(c:Bool)(x y:SV):Bool :=
 x.gen&&y.gen&&(match x,y with
 | .niliface,.niliface=>c
 | .agg _,.agg _=>!P.eqGuardType P.depth t
 | _,_=>true)
theorem guardFree_run {E:Nat→Nat} {w:World} {op:BinOp} {t:TypeId} {x y:Operand} {a b:SV} (h:guardFree P t (isConst x||isConst y) a b=true) :
  (eqGuard op t x y (a.val E) (b.val E)).run P w=.ok () w:=by
 unfold eqGuard guardFree at *
 cases op
 all_goals try rfl
 all_goals
  simp only[Bool.not_true,Bool.false_eq_true,if_false]
  split at h
  ·simp only[Bool.and_eq_true] at h
   have:=h.2
   simp only[SV.val]
   cases x<;>cases y<;>simp_all [isConst]
  ·simp only[Bool.and_eq_true] at h
   have:=h.2
   simp only[SV.val]
   simp at this
   simp[this]
  ·rename_i h1 h2
   cases a<;>cases b<;>simp only[SV.val]<;>first
    | rfl
    | (exact(h1 rfl rfl).elim)
    | (exact(h2 _ _ rfl rfl).elim)
    | (simp[SV.gen] at h;done)
theorem binOp_eql {E:Nat→Nat} {t:TypeId} {a b:SV} (ha:a.gen=true)(_hb:b.gen=true) :
  binOp .eql t (a.val E) (b.val E)=(do pure (.bool (← Op.equal t (a.val E) (b.val E))):Sem Value) ∧
  binOp .neq t (a.val E) (b.val E)=(do pure (.bool (!(← Op.equal t (a.val E) (b.val E)))):Sem Value):=by
 cases a<;>first | (simp[SV.gen] at ha;done) | (simp only[SV.val];exact⟨rfl,rfl⟩)
def qbin (P:Program)(op:BinOp)(t:TypeId)(c:Bool)(x y:SV)(K:Option SV→VC):VC :=
 match op,x,y with
 | .shl,.int k l a,.int _ l' b=>qshift true k l a l' b K
 | .shr,.int k l a,.int _ l' b=>qshift false k l a l' b K
 | op,.int k l a,.int k' l' b=>if k=k' then qint op k l a l' b K else .fail "binOp: kinds"
 | op,.str l a,.str l' b=>qstr op (l&&l') a b K
 | .eql,x,y=>if guardFree P t c x y then(match eqv P 50 t x y with
    | some (l,b)=>K (some (.bool l b))
    | none=>.fail "eql")else .fail "eql: guard"
 | .neq,x,y=>if guardFree P t c x y then(match eqv P 50 t x y with
    | some (l,b)=>K (some (.bool l (!b)))
    | none=>.fail "neq")else .fail "neq: guard"
 | _,_,_=>.fail "binOp"
theorem qint_ok {s:(Operand→Value)→Sem Value} {op:BinOp} {k:IntKind} {l l':Bool} {a b:Int} (h1:op≠.shl)(h2:op≠.shr)
  (h: ∀ E w ρ,Compat E look w→Reads E σ ρ→(s ρ).run P w=(binOp op 0 (.int k a) (.int k b)).run P w):QOk P look σ s (qint op k l a l' b):=by
 unfold qint
 have hb: ∀ w,(binOp op 0 (.int k a) (.int k b)).run P w=(match op with
   | .add | .sub | .mul=>Op.intArith op k a b
   | .quo | .rem=>Op.intDiv op k a b
   | .and | .or | .xor | .andNot=>Op.intBits op k a b
   | _=>Op.intCmp op a b:Sem Value).run P w:=by
  intro w;cases op<;>first | (exact absurd rfl h1) | (exact absurd rfl h2) | simp[binOp]
 cases op
 case add=>exact qarith_ok fun E w ρ hc hr=>by rw[h E w ρ hc hr,hb];simp[Op.intArith]
 case sub=>exact qarith_ok fun E w ρ hc hr=>by rw[h E w ρ hc hr,hb];simp[Op.intArith]
 case mul=>exact qarith_ok fun E w ρ hc hr=>by rw[h E w ρ hc hr,hb];simp[Op.intArith]
 case quo=>exact qdiv_ok (rem:=false) fun E w ρ hc hr=>by rw[h E w ρ hc hr,hb];rfl
 case rem=>exact qdiv_ok (rem:=true) fun E w ρ hc hr=>by rw[h E w ρ hc hr,hb];rfl
 case and=>exact qbits_ok (.inl rfl) fun E w ρ hc hr=>by rw[h E w ρ hc hr,hb]
 case or=>exact qbits_ok (.inr (.inl rfl)) fun E w ρ hc hr=>by rw[h E w ρ hc hr,hb]
 case xor=>exact qbits_ok (.inr (.inr rfl)) fun E w ρ hc hr=>by rw[h E w ρ hc hr,hb]
 case shl=>exact absurd rfl h1
 case shr=>exact absurd rfl h2
 case andNot=>exact QOk.fail _
 all_goals (refine QOk.v _ fun E w ρ hc hr=> ?_;rw[h E w ρ hc hr,hb];simp[Op.intCmp,SV.val])
 all_goals (by_cases e:a=b<;>simp[e])
theorem binOp_type {op:BinOp} {t u:TypeId} {k k':IntKind} {a b:Int}:binOp op t (.int k a) (.int k' b)=binOp op u (.int k a) (.int k' b):=by
 cases op<;>rfl
theorem qbin_ok {op:BinOp} {t _yt:TypeId} {x y:Operand} {a b:SV} (hx:σ x=some a)(hy:σ y=some b) :
  QOk P look σ (fun ρ=>do eqGuard op t x y (ρ x) (ρ y);binOp op t (ρ x) (ρ y)) (qbin P op t (isConst x||isConst y) a b):=by
 have hi: ∀ {k k':IntKind} {n m:Int} {w:World},(do eqGuard op t x y (.int k n) (.int k' m);binOp op t (.int k n) (.int k' m):Sem Value).run P w=(binOp op t (.int k n) (.int k' m)).run P w:=by
  intro k k' n m w
  simp only[Sem.run_bind]
  have:(eqGuard op t x y (.int k n) (.int k' m)).run P w=.ok () w:=by unfold eqGuard;split<;>simp
  rw[this];rfl
 unfold qbin
 split
 ·rename_i k l n k' l' m
  exact qshift_ok (left:=true) (yk:=k') fun E w ρ hc hr=>by rw[hr x _ hx,hr y _ hy];simp only[SV.val];rw[hi];rfl
 ·rename_i k l n k' l' m
  exact qshift_ok (left:=false) (yk:=k') fun E w ρ hc hr=>by rw[hr x _ hx,hr y _ hy];simp only[SV.val];rw[hi];rfl
 ·rename_i op' k l n k' l' m h1 h2
  refine QOk.ite (fun e=> ?_) (fun _=>QOk.fail _)
  subst e
  exact qint_ok h1 h2 fun E w ρ hc hr=>by rw[hr x _ hx,hr y _ hy];simp only[SV.val];rw[hi,binOp_type]
 ·rename_i op' l n l' m
  refine qstr_ok fun E w ρ hc hr=> ?_
  rw[hr x _ hx,hr y _ hy];simp only[SV.val,Sem.run_bind]
  have:(eqGuard op t x y (.string ⟨n.toArray⟩) (.string ⟨m.toArray⟩)).run P w=.ok () w:=by unfold eqGuard;split<;>simp
  rw[this]
  cases op<;>rfl
 ·rename_i a' b' _ _
  refine QOk.ite (fun hg=> ?_) (fun _=>QOk.fail _)
  split
  ·rename_i l v he
   refine QOk.v _ fun E w ρ hc hr=> ?_
   have hq:=eqv_run (E:=E) (w:=w) 50 t a b l v he (Op.maxDepth - 50)
   have hg':=hg
   unfold guardFree at hg'
   simp only[Bool.and_eq_true] at hg'
   rw[hr x _ hx,hr y _ hy]
   simp only[Sem.run_bind,guardFree_run hg,Result.andThen_ok]
   rw[(binOp_eql hg'.1.1 hg'.1.2).1]
   simp only[Sem.run_bind,Op.equal]
   rw[show Op.maxDepth=50+(Op.maxDepth - 50)from rfl,hq];rfl
  ·exact QOk.fail _
 ·rename_i a' b' _ _
  refine QOk.ite (fun hg=> ?_) (fun _=>QOk.fail _)
  split
  ·rename_i l v he
   refine QOk.v _ fun E w ρ hc hr=> ?_
   have hq:=eqv_run (E:=E) (w:=w) 50 t a b l v he (Op.maxDepth - 50)
   have hg':=hg
   unfold guardFree at hg'
   simp only[Bool.and_eq_true] at hg'
   rw[hr x _ hx,hr y _ hy]
   simp only[Sem.run_bind,guardFree_run hg,Result.andThen_ok]
   rw[(binOp_eql hg'.1.1 hg'.1.2).2]
   simp only[Sem.run_bind,Op.equal]
   rw[show Op.maxDepth=50+(Op.maxDepth - 50)from rfl,hq];rfl
  ·exact QOk.fail _
 ·exact QOk.fail _
def qun (op:UnOp)(x:SV)(K:Option SV→VC):VC :=
 match op,x with
 | .not,.bool l b=>K (some (.bool l (!b)))
 | .neg,.int k l n=>qarith k l (0 - n) K
 | .xor,.int k l n=>(match k.signed with
   | false=>qbits .xor k l (hi k) n K
   | true=>.fail "unOp")
 | _,_=>.fail "unOp"
theorem max_hi {k:IntKind} (h:k.signed=false):k.max=hi k:=by
 cases k<;>first | rfl | (simp[IntKind.signed] at h;done)
theorem qun_ok {op:UnOp} {x:Operand} {a:SV} (hx:σ x=some a):QOk P look σ (fun ρ=>Op.unary op (ρ x)) (qun op a):=by
 unfold qun
 split
 ·exact QOk.v _ fun E w ρ hc hr=>by rw[hr x _ hx];rfl
 ·exact qarith_ok fun E w ρ hc hr=>by rw[hr x _ hx];rfl
 ·rename_i k l n
  cases hs:k.signed with
  | true=>exact QOk.fail _
  | false =>
    refine qbits_ok (.inr (.inr rfl)) fun E w ρ hc hr=> ?_
    rw[hr x _ hx]
    simp only[SV.val,Op.unary,hs,max_hi hs]
    rfl
 ·exact QOk.fail _
def fits:IntKind→IntKind→Bool
 | .u8,.u16 | .u8,.u32 | .u8,.u64 | .u16,.u32 | .u16,.u64 | .u32,.u64=>true
 | a,b=>decide (a=b)
def qconv (P:Program)(src dst:TypeId)(x:SV)(K:Option SV→VC):VC :=
 match P.underlying src,P.underlying dst,x with
 | some (.int j),some (.int k),.int _ l n=>match l|| !fits j k with
   | true=>qarith k l n K
   | false=>.and (.atom (lo k≤n∧n≤hi k)) (K (some (.int k false n)))
 | some .string,some .string,.str l s=>K (some (.str l s))
 | _,_,_=>.fail "convert"
theorem qconv_ok {src dst:TypeId} {x:Operand} {a:SV} (hx:σ x=some a):QOk P look σ (fun ρ=>convert src dst (ρ x)) (qconv P src dst a):=by
 unfold qconv
 split
 ·rename_i j k k' l n hs hd
  have hrun: ∀ w,(convert src dst (.int k' n)).run P w=.ok (.int k (k.wrap n)) w:=fun w=>by
   simp only[convert,Sem.run_bind,run_und hs,run_und hd,Result.andThen_ok];rfl
  split
  ·exact qarith_ok fun E w ρ hc hr=>by rw[hr x _ hx];exact hrun w
  ·exact QOk.atom fun hb=>QOk.v _ fun E w ρ hc hr=>by rw[hr x _ hx];simp only[SV.val];rw[hrun w,wrap_in hb]
 ·rename_i l s hs hd
  exact QOk.v _ fun E w ρ hc hr=>by
   rw[hr x _ hx];simp only[SV.val,convert,Sem.run_bind,run_und hs,run_und hd,Result.andThen_ok];rfl
 ·exact QOk.fail _
def qmakeIface (P:Program)(t:TypeId)(x:SV)(K:Option SV→VC):VC :=
 match P.concrete t with
 | true=>K (some (.iface t x))
 | false=>.fail "makeInterface"
theorem qmakeIface_ok {t:TypeId} {x:Operand} {a:SV} (hx:σ x=some a):QOk P look σ (fun ρ=>Instr.makeInterface t (ρ x)) (qmakeIface P t a):=by
 unfold qmakeIface
 split
 ·rename_i h
  exact QOk.v _ fun E w ρ hc hr=>by rw[hr x _ hx,run_makeInterface w t _ h];rfl
 ·exact QOk.fail _
def evs (σ:Operand→Option SV):List Operand→Option (List SV)
 | []=>some []
 | x::r=>match σ x,evs σ r with
   | some v,some l=>some (v::l)
   | _,_=>none
theorem evs_val {σ:Operand→Option SV} {E:Nat→Nat} {ρ:Operand→Value} (hr:Reads E σ ρ): ∀ {xs:List Operand} {l:List SV},evs σ xs=some l→xs.map ρ=SV.vals E l
 | [],l,h=>by simp[evs] at h;subst h;rfl
 | x::r,l,h=>by
   simp only[evs] at h
   split at h
   ·rename_i v l' hv hl
    injection h with h;subst h
    simp[SV.vals,hr x v hv,evs_val hr hl]
   ·cases h
theorem evs_arr {σ:Operand→Option SV} {E:Nat→Nat} {ρ:Operand→Value} (hr:Reads E σ ρ) {xs:Array Operand} {l:List SV} (h:evs σ xs.toList=some l) :
  xs.map ρ=(SV.vals E l).toArray:=by
 rw[← evs_val hr h];apply Array.ext';simp
def qmakeFunc (fn:Fn)(a b:Option (List SV))(K:Option SV→VC):VC :=
 match a,b with
 | some a,some b=>K (some (.func fn a b))
 | _,_=>.fail "makeFunc"
theorem qmakeFunc_ok {fn:Fn} {xs ys:Array Operand}:QOk P look σ (fun ρ=>Instr.makeFunc fn (xs.map ρ) (ys.map ρ)) (qmakeFunc fn (evs σ xs.toList) (evs σ ys.toList)):=by
 unfold qmakeFunc
 split
 ·rename_i a b ha hb
  exact QOk.v _ fun E w ρ hc hr=>by rw[evs_arr hr ha,evs_arr hr hb];rfl
 ·exact QOk.fail _
def qextract (x:SV)(i:Nat)(K:Option SV→VC):VC :=
 match x with
 | .tup vs=>(match vs[i]? with
   | some v=>K (some v)
   | none=>.fail "extract")
 | _=>.fail "extract: no tuple"
theorem qextract_ok {x:Operand} {a:SV} {i:Nat} (hx:σ x=some a):QOk P look σ (fun ρ=>Instr.extract (ρ x) i) (qextract a i):=by
 unfold qextract
 split
 ·rename_i vs
  split
  ·rename_i v hv
   refine QOk.v _ fun E w ρ hc hr=> ?_
   rw[hr x _ hx];simp[SV.val,Instr.extract,SV.vals_eq,hv]
  ·exact QOk.fail _
 ·exact QOk.fail _
def qfield (P:Program)(t:TypeId)(x:SV)(f:Nat)(K:Option SV→VC):VC :=
 match P.underlying t,x with
 | some (.struct fs),.agg cs=>(match fs[f]? with
   | some fd=>(match partOf P fd.type cs fd.offset with
     | some v=>K (some v)
     | none=>.fail "field: no such part")
   | none=>.fail "field: no such field")
 | _,_=>.fail "field"
theorem qfield_ok {t:TypeId} {x:Operand} {a:SV} {f:Nat} (hx:σ x=some a):QOk P look σ (fun ρ=>Instr.field t (ρ x) f) (qfield P t a f):=by
 unfold qfield
 split
 ·rename_i fs cs hd
  split
  ·rename_i fd hf
   split
   ·rename_i v hv
    refine QOk.v _ fun E w ρ hc hr=> ?_
    rw[hr x _ hx];simp[SV.val,Instr.field,run_und hd,hf,asAgg,partOf_run hv]
   ·exact QOk.fail _
  ·exact QOk.fail _
 ·exact QOk.fail _
def byteAt (s:List UInt8)(i:Int):Int:=((s.getD i.toNat 0).toNat:Int)
def qindex (P:Program)(t:TypeId)(x i:SV)(K:Option SV→VC):VC :=
 match P.underlying t,x,i with
 | some .string,.str l s,.int _ l' n=>(match l&&l' with
   | true=>if 0≤n∧n<s.length then K (some (.int .u8 true (byteAt s n)))else .fail "index out of range"
   | false=>.and (.atom (0≤n∧n<s.length)) (K (some (.int .u8 false (byteAt s n)))))
 | some (.array len e),.agg cs,.int _ true n=>(match sz P e with
   | some m=>if 0≤n∧n<len then(match partOf P e cs (n.toNat*m)with
     | some v=>K (some v)
     | none=>.fail "index: no such part")else .fail "index out of range"
   | none=>.fail "index")
 | some (.array len e),.agg cs,.int _ false n=>(match sz P e,P.underlying e with
   | some 1,some .string=>(match strsAt cs with
     | some ss=>.and (.atom (0≤n∧n<len∧n<ss.length)) (K (some (.str false (selS ss n.toNat))))
     | none=>.fail "index: no texts")
   | _,_=>.fail "index")
 | _,_,_=>.fail "index"
theorem string_index {E:Nat→Nat} {w:World} {t:TypeId} (hd:P.underlying t=some .string) {l:Bool} {s:List UInt8} {k:IntKind} {l':Bool} {n:Int} (h:0≤n∧n<s.length) :
  (Instr.index t ((SV.str l s).val E) ((SV.int k l' n).val E)).run P w=.ok (.int .u8 (byteAt s n)) w:=by
 have hn:n.toNat<s.length:=by omega
 simp only[SV.val,Instr.index,asIntOf,Sem.run_bind,Sem.run_pure,Result.andThen_ok,run_und hd,h.1,if_true]
 have e:(ByteArray.mk s.toArray)[n.toNat]?=some s[n.toNat]:=by
  rw[getElem?_pos (ByteArray.mk s.toArray) n.toNat (by simpa [ByteArray.size] using hn)];rfl
 rw[e]
 simp[byteAt,List.getD_eq_getElem?_getD,hn]
theorem qindex_ok {t:TypeId} {x i:Operand} {a b:SV} (hx:σ x=some a)(hi:σ i=some b):QOk P look σ (fun ρ=>Instr.index t (ρ x) (ρ i)) (qindex P t a b):=by
 unfold qindex
 split
 ·rename_i l s k l' n hd
  split
  ·exact QOk.ite (fun h=>QOk.v _ fun E w ρ hc hr=>by rw[hr x _ hx,hr i _ hi];exact string_index hd h) (fun _=>QOk.fail _)
  ·exact QOk.atom fun h=>QOk.v _ fun E w ρ hc hr=>by rw[hr x _ hx,hr i _ hi];exact string_index hd h
 ·rename_i len e cs k n hd
  split
  ·rename_i m hm
   refine QOk.ite (fun h=> ?_) (fun _=>QOk.fail _)
   split
   ·rename_i v hv
    refine QOk.v _ fun E w ρ hc hr=> ?_
    rw[hr x _ hx,hr i _ hi]
    simp[SV.val,Instr.index,asIntOf,run_und hd,h.1,h.2,run_sz hm,partOf_run hv]
   ·exact QOk.fail _
  ·exact QOk.fail _
 ·rename_i len e cs k n hd
  split
  ·rename_i hm he
   split
   ·rename_i ss hss
    refine QOk.atom fun h=>QOk.v _ fun E w ρ hc hr=> ?_
    have hl:n.toNat<cs.length:=by rw[← strsAt_len hss];omega
    obtain⟨b,hb⟩:=strsAt_get hss n.toNat _ (List.getElem?_eq_getElem hl)
    have hv:partOf P e cs (n.toNat*1)=some (.str b (selS ss n.toNat)):=by
     simp only[partOf,he,isAggD,Nat.mul_one]
     rw[List.getElem?_eq_getElem hl,hb]
    have hp:=partOf_run (E:=E) (w:=w) hv
    rw[hr x _ hx,hr i _ hi]
    rw[Nat.mul_one] at hp
    simp[SV.val,Instr.index,asIntOf,run_und hd,h.1,h.2.1,run_sz hm,hp]
   ·exact QOk.fail _
  ·exact QOk.fail _
 ·exact QOk.fail _
end
end Go.Proofs.YtoalfimkkibpdaaGreatDoor.Sx
namespace Go.Proofs.YtoalfimkkibpdaaGreatDoor.Sx
open Go
section
variable {P : Program} {look : Look} {σ : Operand → Option SV}
def bound (σ:Operand→Option SV)(d:Bool×Int):Option Operand→Option (Bool×Int)
 | none=>some d
 | some x=>match σ x with
   | some (.int _ l n)=>some (l,n)
   | _=>none
def subStr (s:List UInt8):Option Operand→Option Operand→Int→Int→List UInt8
 | none,none,_,_=>s
 | none,some _,_,h=>s.take h.toNat
 | some _,none,l,_=>s.drop l.toNat
 | some _,some _,l,h=>(s.drop l.toNat).take (h.toNat - l.toNat)
def chk (l:Bool)(c:Prop) [Decidable c] (t:VC):VC :=
 match l with
 | true=>if c then t else .fail "a bound"
 | false=>.and (.atom c) t
theorem QOk.chk {s:(Operand→Value)→Sem Value} {l:Bool} {c:Prop} [Decidable c] {t:QT} (h:c→QOk P look σ s t):QOk P look σ s (fun K=>Sx.chk l c (t K)):=by
 unfold Sx.chk
 cases l
 ·exact QOk.atom h
 ·exact QOk.ite h (fun _=>QOk.fail _)
def qsliceStr (σ:Operand→Option SV)(l:Bool)(s:List UInt8)(lo hi:Option Operand)(K:Option SV→VC):VC :=
 match bound σ (true,0) lo,bound σ (l,s.length) hi with
 | some (l1,a),some (l2,b)=>chk (l&&l1&&l2) (0≤a∧a≤b∧b≤s.length) (K (some (.str (l&&l1&&l2) (subStr s lo hi a b))))
 | _,_=>.fail "slice of a text"
def qsliceSlc (σ:Operand→Option SV)(m:Nat)(_arr:Bool)(key o n:Nat)(cl:Bool)(c:Nat)(lo hi:Option Operand)(K:Option SV→VC):VC :=
 match bound σ (true,0) lo,bound σ (true,n) hi with
 | some (true,a),some (true,b)=>chk true (0≤a∧a≤b) (chk cl (b≤c) (match cl with
   | true=>K (some (.slc key (if c=a.toNat then o else o+a.toNat*m) (b.toNat - a.toNat) cl (c - a.toNat)))
   | false=>fork (decide (c=a.toNat)) (fun e=>match e with
     | true=>K (some (.slc key o (b.toNat - a.toNat) cl (c - a.toNat)))
     | false=>K (some (.slc key (o+a.toNat*m) (b.toNat - a.toNat) cl (c - a.toNat))))))
 | _,_=>.fail "slice: bounds that are not known"
def qsliceRow (σ:Operand→Option SV)(key w i n c:Nat)(lo hi:Option Operand)(K:Option SV→VC):VC :=
 match bound σ (true,0) lo,bound σ (false,n) hi with
 | some (_,a),some (_,b)=>.and (.atom (0≤a∧a≤b∧b≤c)) (fork (decide (c=a.toNat)) (fun e=>match e with
    | true=>K (some (.rslc key w false i (b.toNat - a.toNat) (c - a.toNat)))
    | false=>K (some (.rslc key w false (i+a.toNat) (b.toNat - a.toNat) (c - a.toNat)))))
 | _,_=>.fail "slice: bounds"
def litBounds (σ:Operand→Option SV)(n:Nat)(lo hi:Option Operand):Bool :=
 match bound σ (true,0) lo,bound σ (true,n) hi with
 | some (true,_),some (true,_)=>true
 | _,_=>false
def qsliceArr (σ:Operand→Option SV)(key o n:Nat)(lo hi:Option Operand)(K:Option SV→VC):VC :=
 match bound σ (true,0) lo,bound σ (true,n) hi with
 | some (_,a),some (_,b)=>.and (.atom (0≤a∧a≤b∧b≤n)) (fork (decide (n=a.toNat)) (fun e=>match e with
    | true=>K (some (.rslc key 1 false o (b.toNat - a.toNat) (n - a.toNat)))
    | false=>K (some (.rslc key 1 false (o+a.toNat) (b.toNat - a.toNat) (n - a.toNat)))))
 | _,_=>.fail "slice: bounds"
def qslice3 (σ:Operand→Option SV)(m:Nat)(key o n c:Nat)(lo hi:Option Operand)(mx:Operand)(K:Option SV→VC):VC :=
 match hi,bound σ (true,0) lo,bound σ (true,n) hi,bound σ (true,c) (some mx)with
 | some _,some (true,a),some (true,b),some (true,z)=>chk true (0≤a∧a≤b∧b≤z∧z≤c)
    (K (some (.slc key (if z.toNat=a.toNat then o else o+a.toNat*m) (b.toNat - a.toNat) true (z.toNat - a.toNat))))
 | _,_,_,_=>.fail "slice: bounds that are not known"
def qslice (P:Program)(σ:Operand→Option SV)(t:TypeId)(x:Option SV)(lo hi mx:Option Operand)(K:Option SV→VC):VC :=
 match mx,P.underlying t,x with
 | none,some .string,some (.str l s)=>qsliceStr σ l s lo hi K
 | none,some (.array n e),some (.ptr key true o)=>(match sz P e with
   | some m=>(match !litBounds σ n lo hi&&Nat.beq m 1 with
     | true=>qsliceArr σ key o n lo hi K
     | false=>qsliceSlc σ m true key o n true n lo hi K)
   | none=>.fail "slice")
 | some z,some (.array n e),some (.ptr key true o)=>(match sz P e with
   | some m=>qslice3 σ m key o n n lo hi z K
   | none=>.fail "slice")
 | some z,some (.slice e),some (.slc key o n true c)=>(match sz P e with
   | some m=>qslice3 σ m key o n c lo hi z K
   | none=>.fail "slice")
 | none,some (.slice e),some (.slc key o n cl c)=>(match sz P e with
   | some m=>qsliceSlc σ m false key o n cl c lo hi K
   | none=>.fail "slice")
 | none,some (.slice e),some (.rslc key w false i n c)=>(match sz P e with
   | some m=>if m=w then qsliceRow σ key w i n c lo hi K else .fail "slice: another row"
   | none=>.fail "slice")
 | _,_,_=>.fail "slice"
theorem bound_run {E:Nat→Nat} {w:World} {ρ:Operand→Value} (hr:Reads E σ ρ) {d:Bool×Int} {x:Operand} {l:Bool} {n:Int}
  (h:bound σ d (some x)=some (l,n)) {y:Nat} {code:BoundsCode} (h0:0≤n) (h1:n≤y):(Instr.sliceBound (ρ x) y code).run P w=.ok n.toNat w:=by
 simp only[bound] at h
 split at h
 ·rename_i k l' n' hx
  injection h with h;injection h with _ h;subst h
  rw[hr x _ hx]
  simp[SV.val,Instr.sliceBound,asIntOf,h0,h1]
 ·cases h
theorem bounds_run {E:Nat→Nat} {w:World} {ρ:Operand→Value} (hr:Reads E σ ρ) {isSlice:Bool} {n c:Nat} {lo hi:Option Operand} {la lb ld:Bool} {a b:Int}
  (ha:bound σ (true,0) lo=some (la,a)) (hb:bound σ (ld,(n:Int)) hi=some (lb,b)) (h0:0≤a) (h1:a≤b) (h2:b≤c) :
  (Instr.sliceBounds isSlice n c (lo.map ρ) (hi.map ρ) none).run P w=.ok (a.toNat,b.toNat,c) w:=by
 cases hi with
 | none =>
   simp only[bound] at hb;injection hb with hb;injection hb with _ hb;subst hb
   cases lo with
   | none =>
     simp only[bound] at ha;injection ha with ha;injection ha with _ ha;subst ha
     simp[Instr.sliceBounds]
   | some x =>
     have hx:=fun code=>bound_run (P:=P) (w:=w) hr ha (y:=n) (code:=code) h0 h1
     simp[Instr.sliceBounds,hx]
 | some y =>
   have hy:=fun code=>bound_run (P:=P) (w:=w) hr hb (y:=c) (code:=code) (by omega) h2
   cases lo with
   | none =>
     simp only[bound] at ha;injection ha with ha;injection ha with _ ha;subst ha
     simp[Instr.sliceBounds,hy]
   | some x =>
     have hx:=fun code=>bound_run (P:=P) (w:=w) hr ha (y:=b.toNat) (code:=code) h0 (by omega)
     simp[Instr.sliceBounds,hy,hx]
theorem bounds3_run {E:Nat→Nat} {w:World} {ρ:Operand→Value} (hr:Reads E σ ρ) {isSlice:Bool} {n c:Nat} {lo:Option Operand} {hi mx:Operand} {la lb ld lz:Bool} {a b z:Int}
  (ha:bound σ (true,0) lo=some (la,a)) (hb:bound σ (ld,(n:Int)) (some hi)=some (lb,b)) (hz:bound σ (true,(c:Int)) (some mx)=some (lz,z)) (h0:0≤a) (h1:a≤b) (h2:b≤z) (h3:z≤c) :
  (Instr.sliceBounds isSlice n c (lo.map ρ) (some (ρ hi)) (some (ρ mx))).run P w=.ok (a.toNat,b.toNat,z.toNat) w:=by
 have hmz:=fun code=>bound_run (P:=P) (w:=w) hr hz (y:=c) (code:=code) (by omega) h3
 have hy:=fun code=>bound_run (P:=P) (w:=w) hr hb (y:=z.toNat) (code:=code) (by omega) (by omega)
 cases lo with
 | none =>
   simp only[bound] at ha;injection ha with ha;injection ha with _ ha;subst ha
   simp[Instr.sliceBounds,hmz,hy]
 | some x =>
   have hx:=fun code=>bound_run (P:=P) (w:=w) hr ha (y:=b.toNat) (code:=code) h0 (by omega)
   simp[Instr.sliceBounds,hmz,hy,hx]
theorem bytes_extract (s:List UInt8)(l h:Nat):(ByteArray.mk s.toArray).extract l h=⟨((s.drop l).take (h - l)).toArray⟩:=by
 apply ByteArray.ext
 rw[ByteArray.data_extract]
 simp
theorem subStr_eq {σ:Operand→Option SV} {s:List UInt8} {ls la lb:Bool} {lo hi:Option Operand} {a b:Int}
  (ha:bound σ (true,0) lo=some (la,a)) (hb:bound σ (ls,(s.length:Int)) hi=some (lb,b)) (h:0≤a∧a≤b∧b≤s.length) :
  (s.drop a.toNat).take (b.toNat - a.toNat)=subStr s lo hi a b:=by
 cases lo with
 | none =>
   simp only[bound] at ha;injection ha with ha;injection ha with _ ha;subst ha
   cases hi with
   | none=>simp only[bound] at hb;injection hb with hb;injection hb with _ hb;subst hb;simp[subStr]
   | some y=>simp[subStr]
 | some x =>
   cases hi with
   | none =>
     simp only[bound] at hb;injection hb with hb;injection hb with _ hb;subst hb
     simp only[subStr]
     rw[List.take_of_length_le];simp
   | some y=>rfl
theorem qslice_ok {t:TypeId} {x:Operand} {lo hi mx:Option Operand} :
  QOk P look σ (fun ρ=>Instr.sliceAt t (ρ x) (lo.map ρ) (hi.map ρ) (mx.map ρ)) (qslice P σ t (σ x) lo hi mx):=by
 unfold qslice
 split
 ·rename_i l s hd hx
  unfold qsliceStr
  split
  ·rename_i l1 a l2 b ha hb
   refine QOk.chk fun h=>QOk.v _ fun E w ρ hc hr=> ?_
   have hs:(ByteArray.mk s.toArray).size=s.length:=by simp[ByteArray.size]
   have:=bounds_run (P:=P) (w:=w) hr (isSlice:=false) (c:=s.length) ha hb h.1 h.2.1 h.2.2
   simp only[hr x _ hx,SV.val,Instr.sliceAt,Sem.run_bind,run_und hd,Result.andThen_ok,Instr.slice,Option.map,hs]
   simp only[Option.map] at this
   simp only[Option.isSome_none,Bool.false_eq_true,if_false,Sem.run_bind]
   rw[this]
   simp only[Result.andThen_ok,Sem.run_pure,bytes_extract,subStr_eq ha hb h]
  ·exact QOk.fail _
 ·rename_i n e key o hd hx
  split
  ·rename_i m hm
   split
   ·rename_i hlit
    have hm1:m=1:=by simp at hlit;exact hlit.2
    subst hm1
    unfold qsliceArr
    split
    ·rename_i l1 a l2 b ha hb
     refine QOk.atom fun h=>QOk.fork ?_
     have main: ∀ E w ρ,Reads E σ ρ→(Instr.sliceAt t (ρ x) (lo.map ρ) (hi.map ρ) ((none:Option Operand).map ρ)).run P w =
       .ok ((SV.rslc key 1 false (if n=a.toNat then o else o+a.toNat) (b.toNat - a.toNat) (n - a.toNat)).val E) w:=by
      intro E w ρ hr
      have:=bounds_run (P:=P) (w:=w) hr (isSlice:=false) (c:=n) ha hb h.1 h.2.1 h.2.2
      simp only[Option.map] at this
      simp only[hr x _ hx,SV.val,Instr.sliceAt,Sem.run_bind,run_und hd,Result.andThen_ok,Option.map,Instr.sureAddr,Sem.run_pure,this,run_sz hm,add_none]
      split<;>simp
     by_cases hca:n=a.toNat
     ·rw[decide_eq_true hca]
      refine QOk.v _ fun E w ρ hc hr=> ?_
      have:=main E w ρ hr
      rw[if_pos hca] at this;exact this
     ·rw[decide_eq_false hca]
      refine QOk.v _ fun E w ρ hc hr=> ?_
      have:=main E w ρ hr
      rw[if_neg hca] at this;exact this
    ·exact QOk.fail _
   ·unfold qsliceSlc
    split
    ·rename_i a b ha hb
     refine QOk.chk fun h=>QOk.chk fun h'=>QOk.v _ fun E w ρ hc hr=> ?_
     have:=bounds_run (P:=P) (w:=w) hr (isSlice:=false) (c:=n) ha hb h.1 h.2 h'
     simp only[Option.map] at this
     simp only[hr x _ hx,SV.val,Instr.sliceAt,Sem.run_bind,run_und hd,Result.andThen_ok,Option.map,Instr.sureAddr,Sem.run_pure,this,run_sz hm,add_none]
     split<;>rfl
    ·exact QOk.fail _
  ·exact QOk.fail _
 ·rename_i z n e key o hd hx
  split
  ·rename_i m hm
   unfold qslice3
   split
   ·rename_i y a b c ha hz hb
    refine QOk.chk fun h=>QOk.v _ fun E w ρ hc hr=> ?_
    have:=bounds3_run (P:=P) (w:=w) hr (isSlice:=false) (c:=n) ha hb hz h.1 h.2.1 h.2.2.1 h.2.2.2
    simp only[Option.map] at this
    simp only[hr x _ hx,SV.val,Instr.sliceAt,Sem.run_bind,run_und hd,Result.andThen_ok,Option.map,Instr.sureAddr,Sem.run_pure,this,run_sz hm,add_none]
    split<;>rfl
   ·exact QOk.fail _
  ·exact QOk.fail _
 ·rename_i z e key o n c hd hx
  split
  ·rename_i m hm
   unfold qslice3
   split
   ·rename_i y a b c' ha hz hb
    refine QOk.chk fun h=>QOk.v _ fun E w ρ hc hr=> ?_
    have:=bounds3_run (P:=P) (w:=w) hr (isSlice:=true) (c:=c) ha hb hz h.1 h.2.1 h.2.2.1 h.2.2.2
    simp only[Option.map] at this
    simp only[hr x _ hx,SV.val,Instr.sliceAt,Sem.run_bind,run_und hd,Result.andThen_ok,Option.map,Instr.slice,this,run_sz hm,add_none,Sem.run_pure]
    split<;>rfl
   ·exact QOk.fail _
  ·exact QOk.fail _
 ·rename_i e key o n cl c hd hx
  split
  ·rename_i m hm
   have main: ∀ {la lb:Bool} {a b:Int},bound σ (true,0) lo=some (la,a)→bound σ (true,(n:Int)) hi=some (lb,b)→0≤a→a≤b→b≤c →
     ∀ E w ρ,Reads E σ ρ→(Instr.sliceAt t (ρ x) (lo.map ρ) (hi.map ρ) ((none:Option Operand).map ρ)).run P w =
       .ok ((SV.slc key (if c=a.toNat then o else o+a.toNat*m) (b.toNat - a.toNat) cl (c - a.toNat)).val E) w:=by
    intro la lb a b ha hb h0 h1 h2 E w ρ hr
    have:=bounds_run (P:=P) (w:=w) hr (isSlice:=true) (c:=c) ha hb h0 h1 h2
    simp only[Option.map] at this
    simp only[hr x _ hx,SV.val,Instr.sliceAt,Sem.run_bind,run_und hd,Result.andThen_ok,Option.map,Instr.slice,this,run_sz hm,add_none,Sem.run_pure]
    split<;>rfl
   unfold qsliceSlc
   split
   ·rename_i a b ha hb
    refine QOk.chk fun h=>QOk.chk fun h'=> ?_
    cases cl with
    | true=>exact QOk.v _ fun E w ρ hc hr=>main ha hb h.1 h.2 h' E w ρ hr
    | false =>
      refine QOk.fork ?_
      by_cases hca:c=a.toNat
      ·rw[decide_eq_true hca]
       refine QOk.v _ fun E w ρ hc hr=> ?_
       have:=main ha hb h.1 h.2 h' E w ρ hr
       rw[if_pos hca] at this;exact this
      ·rw[decide_eq_false hca]
       refine QOk.v _ fun E w ρ hc hr=> ?_
       have:=main ha hb h.1 h.2 h' E w ρ hr
       rw[if_neg hca] at this;exact this
   ·exact QOk.fail _
  ·exact QOk.fail _
 ·rename_i e key w0 i n c hd hx
  split
  ·rename_i m hm
   refine QOk.ite (fun hmw=> ?_) (fun _=>QOk.fail _)
   subst hmw
   unfold qsliceRow
   split
   ·rename_i l1 a l2 b ha hb
    refine QOk.atom fun h=>QOk.fork ?_
    have main: ∀ E w ρ,Reads E σ ρ→(Instr.sliceAt t (ρ x) (lo.map ρ) (hi.map ρ) ((none:Option Operand).map ρ)).run P w =
      .ok ((SV.rslc key m false (if c=a.toNat then i else i+a.toNat) (b.toNat - a.toNat) (c - a.toNat)).val E) w:=by
     intro E w ρ hr
     have:=bounds_run (P:=P) (w:=w) hr (isSlice:=true) (c:=c) ha hb h.1 h.2.1 h.2.2
     simp only[Option.map] at this
     simp only[hr x _ hx,SV.val,Bool.false_and,cond_false,Instr.sliceAt,Sem.run_bind,run_und hd,Result.andThen_ok,Option.map,Instr.slice,this,run_sz hm,add_none,Sem.run_pure]
     split
     ·rfl
     ·simp[Nat.add_mul]
    by_cases hca:c=a.toNat
    ·rw[decide_eq_true hca]
     refine QOk.v _ fun E w ρ hc hr=> ?_
     have:=main E w ρ hr
     rw[if_pos hca] at this;exact this
    ·rw[decide_eq_false hca]
     refine QOk.v _ fun E w ρ hc hr=> ?_
     have:=main E w ρ hr
     rw[if_neg hca] at this;exact this
   ·exact QOk.fail _
  ·exact QOk.fail _
 ·exact QOk.fail _
end
end Go.Proofs.YtoalfimkkibpdaaGreatDoor.Sx
namespace Go.Proofs.YtoalfimkkibpdaaGreatDoor.Sx
open Go
section
variable {P : Program} {look : Look} {σ : Operand → Option SV}
def zeroSV (P:Program)(t:TypeId):Option SV :=
 match P.info? t with
 | some i=>(match i.zero with
   | some v=>SV.ofConst v
   | none=>none)
 | none=>none
theorem zeroSV_run {E:Nat→Nat} {w:World} {t:TypeId} {v:SV} (h:zeroSV P t=some v):(zeroValue t).run P w=.ok (v.val E) w:=by
 unfold zeroSV at h
 split at h
 ·rename_i i hi
  split at h
  ·rename_i z hz
   simp[zeroValue,run_info hi,hz,SV.ofConst_val (E:=E) h]
  ·cases h
 ·cases h
def asrHolds (ok:Bool)(v:SV)(K:Option SV→VC):VC :=
 match ok with
 | true=>K (some (.tup [v,.bool true true]))
 | false=>K (some v)
def asrFails (P:Program)(at_:TypeId)(ok:Bool)(K:Option SV→VC):VC :=
 match ok with
 | true=>(match zeroSV P at_ with
   | some z=>K (some (.tup [z,.bool true false]))
   | none=>.fail "typeAssert: no zero")
 | false=>.fail "typeAssert fails"
theorem asrFails_ok {s:(Operand→Value)→Sem Value} {at_:TypeId} {ok:Bool} (h: ∀ E w ρ,Reads E σ ρ→ok=true→∀ z,(zeroValue at_).run P w=.ok z w→(s ρ).run P w=.ok (.tuple #[z,.bool false]) w) :
  QOk P look σ s (asrFails P at_ ok):=by
 unfold asrFails
 cases ok with
 | false=>exact QOk.fail _
 | true =>
   cases hz:zeroSV P at_ with
   | none=>exact QOk.fail _
   | some z=>exact QOk.v _ fun E w ρ hc hr=>by rw[h E w ρ hr rfl _ (zeroSV_run (E:=E) hz)];rfl
theorem asrHolds_ok {s:(Operand→Value)→Sem Value} {ok:Bool} (v:SV)(h: ∀ E w ρ,Reads E σ ρ→(s ρ).run P w=.ok (if ok then .tuple #[v.val E,.bool true] else v.val E) w) :
  QOk P look σ s (asrHolds ok v):=by
 unfold asrHolds
 cases ok with
 | false=>exact QOk.v _ fun E w ρ hc hr=>by rw[h E w ρ hr];rfl
 | true=>exact QOk.v _ fun E w ρ hc hr=>by rw[h E w ρ hr];rfl
def isIface:TypeDesc→Option (Array (String×TypeId))
 | .interface want=>some want
 | _=>none
def lacks (want:Array (String×TypeId))(got:Array Method):Bool:=want.toList.any fun x=>!got.any fun m=>m.name==x.1&&m.sig==x.2
theorem least_some {l:List String} (h:l≠[]): ∃ m,Instr.least l=some m:=by
 cases l with
 | nil=>exact absurd rfl h
 | cons s r=>exact⟨_,rfl⟩
def missingOf (missing:List String):Option String :=
 Instr.least (missing.partition (·.contains '.')).2 <|> Instr.least ((missing.partition (·.contains '.')).1.map fun id=>(id.splitOn ".").getLastD id)
theorem missing_eq (want:Array (String×TypeId))(got:Array Method):Instr.missingMethod want got=missingOf ((want.toList.filter fun(x:String×TypeId)=>!got.any fun m=>m.name==x.1&&m.sig==x.2).map (·.1)):=rfl
theorem lacks_false {want:Array (String×TypeId)} {got:Array Method} (h:lacks want got=false):Instr.missingMethod want got=none:=by
 have:(want.toList.filter fun(x:String×TypeId)=>!got.any fun m=>m.name==x.1&&m.sig==x.2)=[]:=by
  rw[List.filter_eq_nil_iff]
  intro x hx hb
  unfold lacks at h
  rw[List.any_eq_false] at h
  exact h x hx hb
 rw[missing_eq,this];rfl
theorem lacks_true {want:Array (String×TypeId)} {got:Array Method} (h:lacks want got=true): ∃ m,Instr.missingMethod want got=some m:=by
 unfold lacks at h
 rw[List.any_eq_true] at h
 obtain⟨x,hx,hb⟩:=h
 have hmem:x.1∈ (want.toList.filter fun(x:String×TypeId)=>!got.any fun m=>m.name==x.1&&m.sig==x.2).map (·.1):=List.mem_map.2 ⟨x,List.mem_filter.2 ⟨hx,hb⟩,rfl⟩
 rw[missing_eq]
 unfold missingOf
 generalize (want.toList.filter fun(x:String×TypeId)=>!got.any fun m=>m.name==x.1&&m.sig==x.2).map (·.1)=missing at hmem
 rw[List.partition_eq_filter_filter]
 show ∃ m,(Instr.least (missing.filter (not∘ fun s=>s.contains '.')) <|> Instr.least ((missing.filter fun s=>s.contains '.').map fun id=>(id.splitOn ".").getLastD id))=some m
 by_cases hd:x.1.contains '.'=true
 ·have hne:(missing.filter fun s=>s.contains '.')≠[]:=by
   intro h0;rw[List.filter_eq_nil_iff] at h0;exact h0 _ hmem hd
  obtain⟨m,hm⟩:=least_some (l:=(missing.filter fun s=>s.contains '.').map fun id=>(id.splitOn ".").getLastD id) (by simpa using hne)
  cases hl:Instr.least (missing.filter (not∘ fun s=>s.contains '.'))with
  | none=>exact⟨m,by rw[hm];rfl⟩
  | some q=>exact⟨q,rfl⟩
 ·have hne:(missing.filter (not∘ fun s=>s.contains '.'))≠[]:=by
   intro h0;rw[List.filter_eq_nil_iff] at h0;exact h0 _ hmem (by simpa using hd)
  obtain⟨m,hm⟩:=least_some hne
  exact⟨m,by rw[hm];rfl⟩
def qassert (P:Program)(x:SV)(at_:TypeId)(ok:Bool)(K:Option SV→VC):VC :=
 match P.underlying at_,x with
 | some _,.niliface=>asrFails P at_ ok K
 | some d,.iface u v=>(match isIface d with
   | some want=>(match P.info? u with
     | some i=>(match lacks want i.methods with
       | false=>asrHolds ok (.iface u v) K
       | true=>asrFails P at_ ok K)
     | none=>.fail "typeAssert")
   | none=>if u=at_ then asrHolds ok v K else asrFails P at_ ok K)
 | _,_=>.fail "typeAssert"
theorem qassert_ok {x:Operand} {a:SV} {t at_:TypeId} {ok:Bool} (hx:σ x=some a):QOk P look σ (fun ρ=>Instr.typeAssert (ρ x) t at_ ok) (qassert P a at_ ok):=by
 unfold qassert
 split
 ·rename_i d hd
  exact asrFails_ok fun E w ρ hr hok z hz=>by rw[hr x _ hx];cases d<;>simp[SV.val,Instr.typeAssert,run_und hd,hok,hz]
 ·rename_i d u v hd
  split
  ·rename_i want hw
   have hd':P.underlying at_=some (.interface want):=by cases d<;>simp[isIface] at hw;subst hw;exact hd
   split
   ·rename_i i hi
    split
    ·rename_i hm
     have hm:=lacks_false hm
     exact asrHolds_ok _ fun E w ρ hr=>by
      rw[hr x _ hx];simp only[SV.val,Instr.typeAssert,Sem.run_bind,run_und hd',Result.andThen_ok,run_info hi,hm];cases ok<;>rfl
    ·rename_i hm
     obtain⟨m,hm⟩:=lacks_true hm
     exact asrFails_ok fun E w ρ hr hok z hz=>by rw[hr x _ hx];simp[SV.val,Instr.typeAssert,run_und hd',run_info hi,hm,hok,hz]
   ·exact QOk.fail _
  ·rename_i hw
   refine QOk.ite (fun e=> ?_) (fun e=> ?_)
   ·subst e
    exact asrHolds_ok _ fun E w ρ hr=>by
     rw[hr x _ hx];cases d<;>simp only[isIface] at hw<;>first
      | (cases hw;done)
      | (simp only[SV.val,Instr.typeAssert,Sem.run_bind,run_und hd,Result.andThen_ok,if_true];cases ok<;>rfl)
   ·exact asrFails_ok fun E w ρ hr hok z hz=>by
     rw[hr x _ hx];cases d<;>simp only[isIface] at hw<;>first
      | (cases hw;done)
      | simp[SV.val,Instr.typeAssert,run_und hd,e,hok,hz]
 ·exact QOk.fail _
def qlen (P:Program)(t:TypeId)(x:SV)(K:Option SV→VC):VC :=
 match P.underlying t,x with
 | some .string,.str l s=>K (some (.int .i64 l s.length))
 | some (.slice _),.slc _ _ n _ _=>K (some (.int .i64 true n))
 | some (.slice _),.rslc _ _ _ _ n _=>K (some (.int .i64 false n))
 | some (.slice _),.vslc _ _ _ _ _ n _=>K (some (.int .i64 false n))
 | some (.slice _),.nilslc=>K (some (.int .i64 true 0))
 | some (.array n _),_=>K (some (.int .i64 true n))
 | some (.map _ _),.nilmap=>K (some (.int .i64 true 0))
 | _,_=>.fail "len"
theorem qlen_ok {t:TypeId} {ats:Array TypeId} {ty:TypeId} {x:Operand} {a:SV} (hx:σ x=some a)(h0:ats[0]?=some t) :
  QOk P look σ (fun ρ=>Builtin.len_ ats ty #[ρ x]) (qlen P t a):=by
 unfold qlen
 have hs: ∀ s:List UInt8,(ByteArray.mk s.toArray).size=s.length:=fun s=>by simp[ByteArray.size]
 split<;>first
  | exact QOk.fail _
  | (rename_i hd;exact QOk.v _ fun E w ρ hc hr=>by
      rw[hr x _ hx]
      simp only[SV.val,Builtin.len_,h0,List.getElem?_toArray,List.getElem?_cons_zero,Sem.run_bind,run_und hd,Result.andThen_ok]
      first
       | rfl
       | (show Result.ok (goInt (ByteArray.mk _).size) w=_;rw[hs];rfl))
def qcap (P:Program)(t:TypeId)(x:SV)(K:Option SV→VC):VC :=
 match P.underlying t,x with
 | some (.slice _),.slc _ _ _ l c=>K (some (.int .i64 l c))
 | some (.slice _),.rslc _ _ false _ _ c=>K (some (.int .i64 false c))
 | some (.slice _),.nilslc=>K (some (.int .i64 true 0))
 | some (.array n _),_=>K (some (.int .i64 true n))
 | _,_=>.fail "cap"
theorem qcap_ok {t:TypeId} {ats:Array TypeId} {ty:TypeId} {x:Operand} {a:SV} (hx:σ x=some a)(h0:ats[0]?=some t) :
  QOk P look σ (fun ρ=>Builtin.cap_ ats ty #[ρ x]) (qcap P t a):=by
 unfold qcap
 split<;>first
  | exact QOk.fail _
  | (rename_i hd;exact QOk.v _ fun E w ρ hc hr=>by rw[hr x _ hx];simp[SV.val,Builtin.cap_,h0,run_und hd,goInt])
def qminmax (mx:Bool)(x y:SV)(K:Option SV→VC):VC :=
 match x,y with
 | .int k l a,.int k' l' b=>if k=k' then K (some (.int k (l&&l') (match mx with | true=>max a b | false=>min a b)))else .fail "min, max: kinds"
 | _,_=>.fail "min, max"
theorem qmin_ok {ats:Array TypeId} {ty:TypeId} {x y:Operand} {a b:SV} (hx:σ x=some a)(hy:σ y=some b) :
  QOk P look σ (fun ρ=>Builtin.min_ ats ty #[ρ x,ρ y]) (qminmax false a b):=by
 unfold qminmax
 split
 ·rename_i k l m k' l' n
  refine QOk.ite (fun e=>QOk.v _ fun E w ρ hc hr=> ?_) (fun _=>QOk.fail _)
  subst e
  rw[hr x _ hx,hr y _ hy]
  simp only[SV.val,Builtin.min_,List.foldlM_cons,List.foldlM_nil,Builtin.min2,Sem.run_bind,Sem.run_pure,Result.andThen_ok]
  congr 2
  by_cases h:n<m
  ·rw[if_pos h];omega
  ·rw[if_neg h];omega
 ·exact QOk.fail _
theorem qmax_ok {ats:Array TypeId} {ty:TypeId} {x y:Operand} {a b:SV} (hx:σ x=some a)(hy:σ y=some b) :
  QOk P look σ (fun ρ=>Builtin.max_ ats ty #[ρ x,ρ y]) (qminmax true a b):=by
 unfold qminmax
 split
 ·rename_i k l m k' l' n
  refine QOk.ite (fun e=>QOk.v _ fun E w ρ hc hr=> ?_) (fun _=>QOk.fail _)
  subst e
  rw[hr x _ hx,hr y _ hy]
  simp only[SV.val,Builtin.max_,List.foldlM_cons,List.foldlM_nil,Builtin.max2,Sem.run_bind,Sem.run_pure,Result.andThen_ok]
  congr 2
  by_cases h:n>m
  ·rw[if_pos h];omega
  ·rw[if_neg h];omega
 ·exact QOk.fail _
def setRange {α:Type} (cs:List α)(off:Nat):List α→List α
 | []=>cs
 | v::r=>setRange (cs.set off v) (off+1) r
theorem setRange_map {α β:Type} (f:α→β): ∀(vs cs:List α)(off:Nat),(setRange cs off vs).map f=setRange (cs.map f) off (vs.map f)
 | [],_,_=>rfl
 | v::r,cs,off=>by simp[setRange,setRange_map f r,List.map_set]
theorem foldl_setRange: ∀(vs:List Value)(cells:Array Value)(off k:Nat),
  ((vs.zipIdx k).foldl (fun cs (x:Value×Nat)=>cs.setIfInBounds (off+x.2) x.1) cells).toList=setRange cells.toList (off+k) vs
 | [],_,_,_=>rfl
 | v::r,cells,off,k=>by
   simp only[List.zipIdx_cons,List.foldl_cons,setRange]
   rw[foldl_setRange r]
   simp[Nat.add_assoc]
def fillS (place:Nat→Option (Nat×Nat))(cells:List SV):List (Nat×SV)→Option (List SV)
 | []=>some cells
 | (i,v)::rest =>
   match place i with
   | none=>none
   | some (off,size) =>
     if v.plain&&decide (v.cells.length=size)&&decide (off+size≤cells.length)then fillS place (setRange cells off v.cells) rest else none
theorem fillS_run {E:Nat→Nat} {place:Nat→Option (Nat×Nat)}: ∀(parts:List (Nat×SV))(cells out:List SV),fillS place cells parts=some out →
  Instr.fill place (SV.vals E cells).toArray (parts.map fun p=>(p.1,p.2.val E))=some (SV.vals E out).toArray
 | [],cells,out,h=>by simp[fillS] at h;subst h;rfl
 | (i,v)::rest,cells,out,h=>by
   simp only[fillS] at h
   split at h
   ·cases h
   ·rename_i off size hp
    split at h
    ·rename_i hc
     simp only[Bool.and_eq_true,decide_eq_true_eq] at hc
     obtain⟨⟨h1,h2⟩,h3⟩:=hc
     have ih:=fillS_run (E:=E) rest _ out h
     simp only[List.map_cons,Instr.fill,hp]
     rw[SV.cells_val h1]
     rw[if_neg (by simp[h2,SV.vals_eq];omega)]
     rw[← ih]
     congr 1
     apply Array.ext'
     rw[← Array.foldl_toList,Array.toList_zipIdx,foldl_setRange]
     simp[SV.vals_eq,setRange_map]
    ·cases h
def partsOf (σ:Operand→Option SV):List (Nat×Operand)→Option (List (Nat×SV))
 | []=>some []
 | (i,x)::r=>match σ x,partsOf σ r with
   | some v,some l=>some ((i,v)::l)
   | _,_=>none
theorem partsOf_val {σ:Operand→Option SV} {E:Nat→Nat} {ρ:Operand→Value} (hr:Reads E σ ρ): ∀ {ps:List (Nat×Operand)} {l:List (Nat×SV)},partsOf σ ps=some l →
  ps.map (fun p=>(p.1,ρ p.2))=l.map fun p=>(p.1,p.2.val E)
 | [],l,h=>by simp[partsOf] at h;subst h;rfl
 | (i,x)::r,l,h=>by
   simp only[partsOf] at h
   split at h
   ·rename_i v l' hv hl
    injection h with h;subst h
    simp[hr x v hv,partsOf_val hr hl]
   ·cases h
def fieldPlaces (P:Program):List Field→Option (List (Nat×Nat))
 | []=>some []
 | f::r=>match sz P f.type,fieldPlaces P r with
   | some n,some l=>some ((f.offset,n)::l)
   | _,_=>none
theorem fieldPlaces_run {w:World}: ∀ {fs:List Field} {l:List (Nat×Nat)},fieldPlaces P fs=some l →
  (fs.mapM (fun f=>do pure (f.offset,← sizeOf f.type)):Sem (List (Nat×Nat))).run P w=.ok l w
 | [],l,h=>by simp[fieldPlaces] at h;subst h;simp
 | f::r,l,h=>by
   simp only[fieldPlaces] at h
   split at h
   ·rename_i n l' hn hl
    injection h with h;subst h
    have ih:=fieldPlaces_run (w:=w) hl
    simp at ih
    simp[List.mapM_cons,run_sz hn,ih]
   ·cases h
def qbuild (P:Program)(σ:Operand→Option SV)(t:TypeId)(parts:List (Nat×Operand))(K:Option SV→VC):VC :=
 match P.underlying t,zeroSV P t,partsOf σ parts with
 | some (.struct fs),some (.agg zs),some ps=>(match fieldPlaces P fs.toList with
   | some pl=>(match fillS (fun i=>pl[i]?) zs ps with
     | some out=>K (some (.agg out))
     | none=>.fail "build: fill")
   | none=>.fail "build: places")
 | some (.array _ e),some (.agg zs),some ps=>(match sz P e with
   | some m=>(match fillS (fun i=>some (i*m,m)) zs ps with
     | some out=>K (some (.agg out))
     | none=>.fail "build: fill")
   | none=>.fail "build: places")
 | _,_,_=>.fail "build"
theorem qbuild_ok {t:TypeId} {parts:Array (Nat×Operand)} :
  QOk P look σ (fun ρ=>Instr.build t (parts.map fun(i,x)=>(i,ρ x))) (qbuild P σ t parts.toList):=by
 unfold qbuild
 split
 ·rename_i fs zs ps hd hz hp
  split
  ·rename_i pl hpl
   split
   ·rename_i out hf
    refine QOk.v _ fun E w ρ hc hr=> ?_
    have hm:(fs.mapM (fun f=>do pure (f.offset,← sizeOf f.type)):Sem (Array (Nat×Nat))).run P w=.ok pl.toArray w:=by
     have:=fieldPlaces_run (P:=P) (w:=w) hpl
     rw[Array.mapM_eq_mapM_toList]
     simp only[Sem.run_map,this,Result.andThen_ok]
    have hfill:=fillS_run (E:=E) ps zs out hf
    have hparts:=partsOf_val hr hp
    have hpp:(parts.map fun(x:Nat×Operand)=>(x.1,ρ x.2)).toList=ps.map fun p=>(p.1,p.2.val E):=by rw[← hparts];simp
    simp only[Instr.build,Sem.run_bind,zeroSV_run (E:=E) hz,Result.andThen_ok,run_und hd,hm]
    simp only[SV.val,Value.cells,hpp,List.getElem?_toArray,hfill]
    rfl
   ·exact QOk.fail _
  ·exact QOk.fail _
 ·rename_i e zs ps hd hz hp
  split
  ·rename_i m hm
   split
   ·rename_i out hf
    refine QOk.v _ fun E w ρ hc hr=> ?_
    have hfill:=fillS_run (E:=E) ps zs out hf
    have hparts:=partsOf_val hr hp
    have hpp:(parts.map fun(x:Nat×Operand)=>(x.1,ρ x.2)).toList=ps.map fun p=>(p.1,p.2.val E):=by rw[← hparts];simp
    simp only[Instr.build,Sem.run_bind,zeroSV_run (E:=E) hz,Result.andThen_ok,run_und hd,run_sz hm]
    simp only[SV.val,Value.cells,hpp,hfill]
    rfl
   ·exact QOk.fail _
  ·exact QOk.fail _
 ·exact QOk.fail _
end
end Go.Proofs.YtoalfimkkibpdaaGreatDoor.Sx
