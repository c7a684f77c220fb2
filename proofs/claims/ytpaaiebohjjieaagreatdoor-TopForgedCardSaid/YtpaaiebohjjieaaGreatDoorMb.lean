/-
  The framework's third part: more operations that leave the world alone: arithmetic, comparisons, strings, structs.
-/
import Derived.Test.YtpaaiebohjjieaaGreatDoorMa
import Derived.ChangeKeysEq
import Derived.Laws.Build
import Derived.BigFrame
import Derived.MapKept
namespace Go.Proofs.YtpaaiebohjjieaaGreatDoor.Sx
open Go
section
variable {P : Program} {look : qA} {σ : Operand -> Option SV}
def xY (k:IntKind)(l:Bool)(n:Int)(K:Option SV->VC):VC :=
 match l with
 | true=>K (some (.int k true (k.wrap n)))
 | false=>match k.signed with
   | true=>.and (.atom (lo k<=n/\n<=hi k)) (K (some (.int k false n)))
   | false=>K (some (.int k false (n% md k)))
theorem qY {s:(Operand->Value)->Sem Value}{k:IntKind}{l:Bool}{n:Int}
  (h: ∀ E w ρ,Compat E look w->Reads E σ ρ->(s ρ).run P w=.ok (.int k (k.wrap n)) w):aM P look σ s (xY k l n):=by
 unfold xY;cases l with
 | true=>exact aM.v _ fun E w ρ hc hr=>h E w ρ hc hr
 | false =>
   simp only;cases hs:k.signed with
   | true=>exact aM.atom fun hb=>aM.v _ fun E w ρ hc hr=>by rw[h E w ρ hc hr,zV hb];rfl
   | false=>exact aM.v _ fun E w ρ hc hr=>by rw[h E w ρ hc hr,amd hs];rfl
def akX (rem:Bool)(k:IntKind)(l:Bool)(a:Int)(l':Bool)(b:Int)(K:Option SV->VC):VC :=
 match l&&l' with
 | true=>if b=0 then .fail "division by zero" else(match rem with
   | true=>K (some (.int k true (a.tmod b)))
   | false=>K (some (.int k true (k.wrap (a.tdiv b)))))
 | false=>.and (.atom (0<=a/\a<=hi k/\0<b)) (match rem with
   | true=>K (some (.int k false (a% b)))
   | false=>K (some (.int k false (a / b))))
theorem M8 (k:IntKind):lo k<=0:=by cases k<;>simp[lo]
theorem Zk {s:(Operand->Value)->Sem Value}{rem:Bool}{k:IntKind}{l l':Bool}{a b:Int}
  (h: ∀ E w ρ,Compat E look w->Reads E σ ρ->(s ρ).run P w=(Op.intDiv (if rem then .rem else .quo) k a b).run P w):aM P look σ s (akX rem k l a l' b):=by
 unfold akX;cases (l&&l')with
 | true =>
   refine aM.ite (fun _=>aM.fail _) fun hb=> ?_;cases rem with
   | true=>exact aM.v _ fun E w ρ hc hr=>by rw[h E w ρ hc hr];simp[Op.intDiv,hb,SV.val]
   | false=>exact aM.v _ fun E w ρ hc hr=>by rw[h E w ρ hc hr];simp[Op.intDiv,hb,SV.val]
 | false =>
   refine aM.atom fun⟨h0,h1,h2⟩=> ?_;have hb:b≠0:=by omega
   cases rem with
   | true=>exact aM.v _ fun E w ρ hc hr=>by rw[h E w ρ hc hr];simp[Op.intDiv,hb,SV.val,Int.tmod_eq_emod_of_nonneg h0]
   | false =>
     refine aM.v _ fun E w ρ hc hr=> ?_;have e:k.wrap (a.tdiv b)=a / b:=by
      rw[Int.tdiv_eq_ediv_of_nonneg h0];have:a / b<=a:=Int.ediv_le_self b h0;have:0<=a / b:=Int.ediv_nonneg h0 (by omega)
      grind [zV,M8]
     rw[h E w ρ hc hr];simp[Op.intDiv,hb,SV.val,e]
def QH (left:Bool)(k:IntKind)(l:Bool)(a:Int)(l':Bool)(b:Int)(K:Option SV->VC):VC :=
 match l' with
 | true=>if b<0 then .fail "negative shift" else(match left with
   | true=>xY k l (a*(2^ (min b.toNat k.bits):Nat)) K
   | false=>K (some (.int k l (a / (2^ (min b.toNat k.bits):Nat)))))
 | false=>.fail "shift by a number that is not known"
theorem Nz {s:(Operand->Value)->Sem Value}{left:Bool}{k yk:IntKind}{l l':Bool}{a b:Int}
  (h: ∀ E w ρ,Compat E look w->Reads E σ ρ->(s ρ).run P w=(Op.shift (if left then .shl else .shr) k a yk b).run P w):aM P look σ s (QH left k l a l' b):=by
 unfold QH;cases l' with
 | false=>exact aM.fail _
 | true =>
   refine aM.ite (fun _=>aM.fail _) fun hb=> ?_;cases left with
   | true=>exact qY fun E w ρ hc hr=>by rw[h E w ρ hc hr];simp[Op.shift,hb]
   | false =>
     refine aM.v _ fun E w ρ hc hr=> ?_;rw[h E w ρ hc hr];simp only[Op.shift,hb,if_false,Bool.false_eq_true,Sem.run_pure,SV.val]
     grind
def bitsOf (op:BinOp)(a b:Int):Int :=
 match op with
 | .and=>Int.ofNat (a.toNat &&& b.toNat)
 | .or=>Int.ofNat (a.toNat ||| b.toNat)
 | _=>Int.ofNat (a.toNat ^^^ b.toNat)
def Ny (op:BinOp)(k:IntKind)(l:Bool)(a b:Int)(K:Option SV->VC):VC :=
 match l with
 | true=>if 0<=a/\a<=hi k/\0<=b/\b<=hi k then K (some (.int k true (bitsOf op a b)))else .fail "bits: below zero"
 | false=>.and (.atom (0<=a/\a<=hi k/\0<=b/\b<=hi k)) (K (some (.int k false (bitsOf op a b))))
theorem hi_lt (k:IntKind):hi k<2^ k.bits:=by cases k<;>decide
theorem toNat_ofInt {w:Nat}{a:Int}(h0:0<=a)(h1:a<2^ w):(BitVec.ofInt w a).toNat=a.toNat:=by grind
theorem Ru {op:BinOp}(hop:op=.and∨op=.or∨op=.xor){k:IntKind}{a b:Int}(h:0<=a/\a<=hi k/\0<=b/\b<=hi k)(w:World) :
  (Op.intBits op k a b).run P w=.ok (.int k (bitsOf op a b)) w:=by
 obtain⟨a0,a1,b0,b1⟩:=h;have hk:=hi_lt k;have ea:=toNat_ofInt (w:=k.bits) a0 (by omega);have eb:=toNat_ofInt (w:=k.bits) b0 (by omega)
 have la:a.toNat<2^ k.bits:=by have:(a.toNat:Int)<((2^ k.bits:Nat):Int):=by rw[Int.toNat_of_nonneg a0];push_cast;omega
                               exact_mod_cast this
 have lb:b.toNat<2^ k.bits:=by have:(b.toNat:Int)<((2^ k.bits:Nat):Int):=by rw[Int.toNat_of_nonneg b0];push_cast;omega
                               exact_mod_cast this
 have hh:(hi k).toNat+1=2^ k.bits∨(hi k).toNat+1=2^ (k.bits - 1):=by cases k<;>simp[hi,IntKind.bits]
 have key: ∀ n:Nat,n<=(hi k).toNat->k.wrap (n:Int)=n:=fun n hn=>zV ⟨by have:=M8 k;omega,by
  have:0<=hi k:=by cases k<;>simp[hi]
  omega⟩
 have ba:a.toNat<=(hi k).toNat:=by omega
 have bb:b.toNat<=(hi k).toNat:=by omega
 have hand:a.toNat &&& b.toNat<=(hi k).toNat:=Nat.le_trans Nat.and_le_left ba;have two: ∃ m,(hi k).toNat+1=2^ m:=by rcases hh with h | h<;>exact⟨_,h⟩
 obtain⟨m,hm⟩:=two;have hor:a.toNat ||| b.toNat<=(hi k).toNat:=by have:=Nat.or_lt_two_pow (x:=a.toNat) (y:=b.toNat) (n:=m) (by omega) (by omega);omega
 have hxor:a.toNat ^^^ b.toNat<=(hi k).toNat:=by have:=Nat.xor_lt_two_pow (x:=a.toNat) (y:=b.toNat) (n:=m) (by omega) (by omega);omega
 rcases hop with rfl | rfl | rfl
 ·simp only[Op.intBits,bitsOf,Sem.run_pure,BitVec.toNat_and,ea,eb];rw[key _ hand];rfl
 ·simp only[Op.intBits,bitsOf,Sem.run_pure,BitVec.toNat_or,ea,eb];rw[key _ hor];rfl
 ·simp only[Op.intBits,bitsOf,Sem.run_pure,BitVec.toNat_xor,ea,eb];rw[key _ hxor];rfl
theorem CR {s:(Operand->Value)->Sem Value}{op:BinOp}(hop:op=.and∨op=.or∨op=.xor){k:IntKind}{l:Bool}{a b:Int}
  (h: ∀ E w ρ,Compat E look w->Reads E σ ρ->(s ρ).run P w=(Op.intBits op k a b).run P w):aM P look σ s (Ny op k l a b):=by
 unfold Ny;cases l with
 | true=>exact aM.ite (fun hb=>aM.v _ fun E w ρ hc hr=>by rw[h E w ρ hc hr,Ru hop hb];rfl) (fun _=>aM.fail _)
 | false=>exact aM.atom fun hb=>aM.v _ fun E w ρ hc hr=>by rw[h E w ρ hc hr,Ru hop hb];rfl
def aoE (op:BinOp)(k:IntKind)(l:Bool)(a:Int)(l':Bool)(b:Int)(K:Option SV->VC):VC :=
 match op with
 | .add=>xY k (l&&l') (a+b) K
 | .sub=>xY k (l&&l') (a - b) K
 | .mul=>xY k (l&&l') (a*b) K
 | .quo=>akX false k l a l' b K
 | .rem=>akX true k l a l' b K
 | .and=>Ny .and k (l&&l') a b K
 | .or=>Ny .or k (l&&l') a b K
 | .xor=>Ny .xor k (l&&l') a b K
 | .eql=>K (some (.bool (l&&l') (decide (a=b))))
 | .neq=>K (some (.bool (l&&l') (!decide (a=b))))
 | .lss=>K (some (.bool (l&&l') (decide (a<b))))
 | .leq=>K (some (.bool (l&&l') (decide (a<=b))))
 | .gtr=>K (some (.bool (l&&l') (decide (b<a))))
 | .geq=>K (some (.bool (l&&l') (decide (b<=a))))
 | _=>.fail "binOp: integers"
def afZ:Int:=9223372036854775807
def cat (a b:List UInt8):List UInt8:=a++b
def aoH (op:BinOp)(l:Bool)(a b:List UInt8)(K:Option SV->VC):VC :=
 match op with
 | .add=>match l with
   | true=>if(a.length:Int)+b.length<=afZ then K (some (.str true (a++b)))else .fail "a text that is too long"
   | false=>.and (.atom ((a.length:Int)+b.length<=9223372036854775807)) (K (some (.str false (cat a b))))
 | .eql=>K (some (.bool l (decide (a=b))))
 | .neq=>K (some (.bool l (!decide (a=b))))
 | .lss=>K (some (.bool l (Op.bytesLess a b)))
 | .leq=>K (some (.bool l (Op.bytesLess a b||decide (a=b))))
 | .gtr=>K (some (.bool l (!(Op.bytesLess a b||decide (a=b)))))
 | .geq=>K (some (.bool l (!Op.bytesLess a b)))
 | _=>.fail "binOp: texts"
theorem OZ (a b:List UInt8):(ByteArray.mk a.toArray)++(ByteArray.mk b.toArray)=ByteArray.mk (a++b).toArray:=by apply ByteArray.ext;simp_all
theorem imax:IntKind.i64.max=9223372036854775807:=by decide
theorem ak2 {s:(Operand->Value)->Sem Value}{op:BinOp}{l:Bool}{a b:List UInt8}
  (h: ∀ E w ρ,Compat E look w->Reads E σ ρ->(s ρ).run P w=(Op.stringOp op ⟨a.toArray⟩ ⟨b.toArray⟩).run P w):aM P look σ s (aoH op l a b):=by
 have he:(a==b)=decide (a=b):=by grind
 have sa:(ByteArray.mk a.toArray).size=a.length:=by simp[ByteArray.size]
 have sb:(ByteArray.mk b.toArray).size=b.length:=by simp[ByteArray.size]
 unfold aoH;cases op
 case add =>
  have go:(a.length:Int)+b.length<=9223372036854775807->∀ w,(Op.stringOp .add ⟨a.toArray⟩ ⟨b.toArray⟩).run P w=.ok (.string ⟨(a++b).toArray⟩) w:=fun hb w=>by simp only[Op.stringOp,sa,sb,imax,OZ];simp_all
  cases l with
  | true=>exact aM.ite (fun hb=>aM.v _ fun E w ρ hc hr=>by rw[h E w ρ hc hr,go hb];rfl) (fun _=>aM.fail _)
  | false=>exact aM.atom fun hb=>aM.v _ fun E w ρ hc hr=>by rw[h E w ρ hc hr,go hb];rfl
 all_goals first
  | exact aM.fail _
  | (refine aM.v _ fun E w ρ hc hr=> ?_;rw[h E w ρ hc hr];simp[Op.stringOp,SV.val,he])
end
def s8 (x:Bool×Bool)(y:Option (Bool×Bool)):Option (Bool×Bool) :=
 match x with
 | (true,false)=>some (true,false)
 | (l,b)=>match y with
   | some (l',b')=>some (l&&l',b&&b')
   | none=>none
def partOf (P:Program)(t:TypeId)(cs:List SV)(off:Nat):Option SV :=
 match P.underlying t with
 | none=>none
 | some d=>match iw d with
   | true=>match sz P t with
     | some n=>match jQ cs off n with
       | some l=>some (.agg l)
       | none=>none
     | none=>none
   | false=>cs[off]?
theorem kq {P:Program}{E:Nat->Nat}{w:World}{t:TypeId}{cs:List SV}{off:Nat}{v:SV}(h:partOf P t cs off=some v) :
  (part t (SV.vals E cs).toArray off).run P w=.ok (v.val E) w:=by
 unfold partOf at h;split at h
 ·cases h
 ·rename_i d hd;split at h
  ·rename_i ha;split at h
   ·rename_i n hn;split at h
    ·rename_i l hl;injection h with h;subst h;have hg:=cW hl;simp only[part,Sem.run_bind,cJ hd,ha,Result.andThen_ok,if_true,bU hn,Sem.run_pure,SV.val,SV.bA];congr 2;apply Array.ext';simp only[Array.toList_extract,List.toList_toArray,List.extract_eq_take_drop];rw[show off+n - off=n by omega,List.map_drop.symm,List.map_take.symm];congr 1;apply List.ext_getElem?
     grind
    ·cases h
   ·cases h
  ·rename_i ha;simp only[part,Sem.run_bind,cJ hd,ha,Result.andThen_ok,SV.bA];simp[h]
def eqv (P:Program):Nat->TypeId->SV->SV->Option (Bool×Bool)
 | 0,_,_,_=>none
 | d+1,t,x,y =>
   match P.underlying t,x,y with
   | some .bool,.bool l a,.bool l' b=>some (l&&l',a==b)
   | some (.int _),.int k l a,.int k' l' b=>if k=k' then some (l&&l',decide (a=b))else none
   | some .string,.str l a,.str l' b=>some (l&&l',decide (a=b))
   | some (.pointer _),.cc,.cc=>some (true,true)
   | some (.pointer _),.cc,.ptr .. =>some (true,false)
   | some (.pointer _),.ptr ..,.cc=>some (true,false)
   | some (.pointer _),.cc,.o5 .. =>some (true,false)
   | some (.pointer _),.o5 ..,.cc=>some (true,false)
   | some (.pointer e),.ptr key ol o,.ptr key' ol' o'=>match sz P e with
     | some (_+1)=>if key=key' then some (ol&&ol',decide (o=o'))else none
     | _=>none
   | some (.interface _),.aZ,.aZ=>some (true,true)
   | some (.interface _),.aZ,.iface .. =>some (true,false)
   | some (.interface _),.iface ..,.aZ=>some (true,false)
   | some (.interface _),.iface tx vx,.iface ty vy=>if tx=ty then(match P.info? tx with
      | some i=>if i.comparable then eqv P d tx vx vy else none
      | none=>none)else some (true,false)
   | some (.slice _),.aO,.aO=>some (true,true)
   | some (.slice _),.aO,.slc .. =>some (true,false)
   | some (.slice _),.slc ..,.aO=>some (true,false)
   | some (.slice _),.aO,.bI _ _ z _ n _=>some (!z,z&&Nat.beq n 0)
   | some (.slice _),.bI _ _ z _ n _,.aO=>some (!z,z&&Nat.beq n 0)
   | some (.map _ _),.iy,.iy=>some (true,true)
   | some (.map _ _),.map _,.iy=>some (true,false)
   | some (.func _ _ _),.gL,.gL=>some (true,true)
   | some (.func _ _ _),.gL,.func .. =>some (true,false)
   | some (.func _ _ _),.func ..,.gL=>some (true,false)
   | some (.struct fs),.agg xs,.agg ys=>if P.stoodInHeld t then none else
      fs.toList.foldr (fun f acc=>if f.name= "_" then acc else match partOf P f.type xs f.offset,partOf P f.type ys f.offset with
       | some u,some v=>match eqv P d f.type u v with
         | some r=>s8 r acc
         | none=>none
       | _,_=>none) (some (true,true))
   | some (.array len elem),.agg xs,.agg ys=>match sz P elem with
     | some n=>(List.range len).foldr (fun i acc=>match partOf P elem xs (i*n),partOf P elem ys (i*n)with
        | some u,some v=>match eqv P d elem u v with
          | some r=>s8 r acc
          | none=>none
        | _,_=>none) (some (true,true))
     | none=>none
   | some (.pointer _),.cc,.lA .. =>some (true,false)
   | some (.pointer _),.lA ..,.cc=>some (true,false)
   | some (.slice _),.aO,.cC _ _ z _ _ n _=>some (false,z&&Nat.beq n 0)
   | some (.slice _),.cC _ _ z _ _ n _,.aO=>some (false,z&&Nat.beq n 0)
   | some (.pointer _),.cc,.iq .. =>some (true,false)
   | some (.pointer _),.iq ..,.cc=>some (true,false)
   | _,_,_=>none
theorem Pt {P:Program}{E:Nat->Nat}{w:World}{d d':Nat}{xs ys:List SV}
  (ih: ∀ t x y l b,eqv P d t x y=some (l,b)->(Op.equalIn d' t (x.val E) (y.val E)).run P w=.ok b w/\(l=true->True)) :
  ∀(fs:List Field) (l b:Bool),fs.foldr (fun f acc=>if f.name= "_" then acc else match partOf P f.type xs f.offset,partOf P f.type ys f.offset with
      | some u,some v=>match eqv P d f.type u v with
        | some r=>s8 r acc
        | none=>none
      | _,_=>none) (some (true,true))=some (l,b) ->
   (Op.eqFields d' (SV.vals E xs).toArray (SV.vals E ys).toArray fs).run P w=.ok b w:=by
 intro fs;induction fs with
 | nil=>intro l b h;simp at h;obtain⟨rfl,rfl⟩:=h;simp[Op.eqFields]
 | cons f r ihl =>
   intro l b h;simp only[List.foldr_cons] at h;by_cases hn:f.name= "_"
   ·rw[if_pos hn] at h;simp only[Op.eqFields]
    grind
   ·rw[if_neg hn] at h;simp only[Op.eqFields];rw[if_pos hn];split at h
    ·rename_i u v hu hv;split at h
     ·rename_i q hq;obtain⟨ql,qb⟩:=q;have hr:=(ih _ _ _ _ _ hq).1;simp only[Sem.run_bind,kq hu,kq hv,Result.andThen_ok,hr,Sem.run_ite];cases qb with
      | false =>
        simp only[Bool.not_false,if_true,Sem.run_pure];unfold s8 at h
        grind
      | true =>
        simp only[Bool.not_true,Bool.false_eq_true,if_false];unfold s8 at h;split at h
        ·grind
        ·rename_i l0 b0 _ heq;injection heq with e1 e2;subst e1;subst e2;split at h
         ·rename_i l' b' hacc;injection h with h;injection h with _ h;simp at h;subst h;exact ihl _ _ hacc
         ·cases h
     ·cases h
    ·cases h
theorem RU {P:Program}{E:Nat->Nat}{w:World}{d d' n:Nat}{t:TypeId}{xs ys:List SV}
  (ih: ∀ t x y l b,eqv P d t x y=some (l,b)->(Op.equalIn d' t (x.val E) (y.val E)).run P w=.ok b w) :
  ∀(fs:List Nat) (l b:Bool),fs.foldr (fun i acc=>match partOf P t xs (i*n),partOf P t ys (i*n)with
      | some u,some v=>match eqv P d t u v with
        | some r=>s8 r acc
        | none=>none
      | _,_=>none) (some (true,true))=some (l,b) ->
   (Op.eqItems d' t n (SV.vals E xs).toArray (SV.vals E ys).toArray fs).run P w=.ok b w:=by
 intro fs;induction fs with
 | nil=>intro l b h;simp at h;obtain⟨rfl,rfl⟩:=h;simp[Op.eqItems]
 | cons f r ihl =>
   intro l b h;simp only[List.foldr_cons] at h;simp only[Op.eqItems];split at h
   ·rename_i u v hu hv;split at h
    ·rename_i q hq;obtain⟨ql,qb⟩:=q;have hr:=ih _ _ _ _ _ hq;simp only[Sem.run_bind,kq hu,kq hv,Result.andThen_ok,hr,Sem.run_ite];cases qb with
     | false =>
       simp only[Bool.not_false,if_true,Sem.run_pure];unfold s8 at h
       grind
     | true =>
       simp only[Bool.not_true,Bool.false_eq_true,if_false];unfold s8 at h;split at h
       ·grind
       ·rename_i l0 b0 _ heq;injection heq with e1 e2;subst e1;subst e2;split at h
        ·rename_i l' b' hacc;injection h with h;injection h with _ h;simp at h;subst h;exact ihl _ _ hacc
        ·cases h
    ·cases h
   ·cases h
set_option maxHeartbeats 2000000 in
theorem YG {P:Program}{E:Nat->Nat}{w:World}: ∀(d:Nat) (t:TypeId) (x y:SV) (l b:Bool),eqv P d t x y=some (l,b)->∀ e,(Op.equalIn (d+e) t (x.val E) (y.val E)).run P w=.ok b w:=by
 intro d;induction d with
 | zero=>intro t x y l b h;simp[eqv] at h
 | succ d ih =>
   intro t x y l b h e;rw[show d+1+e=(d+e)+1 by omega];unfold eqv at h;split at h
   case h_1=>rename_i hd;injection h with h;injection h with _ h;subst h;simp[Op.equalIn,az hd,SV.val]
   case h_2 =>
    rename_i k l0 a k' l1 b1 hd;split at h
    ·rename_i hk;subst hk;injection h with h;injection h with _ h;subst h;simp[Op.equalIn,az hd,SV.val];by_cases e:a=b1<;>simp[e]
    ·cases h
   case h_3 =>rename_i l0 a l1 b1 hd;injection h with h;injection h with _ h;subst h;simp[Op.equalIn,az hd,SV.val,beq_toListBytes];by_cases e:a=b1<;>simp[e]
   case h_9 =>
    rename_i el key ol o key' ol' o' hd;split at h
    ·rename_i n hn;split at h
     ·rename_i hk;subst hk;injection h with h;injection h with _ h;subst h;simp[Op.equalIn,az hd,SV.val,bU hn,sameAddr];by_cases e:o=o'<;>simp[e]
     ·cases h
    ·cases h
   case h_13 =>
    rename_i ms tx vx ty vy hd;split at h
    ·rename_i ht;subst ht;split at h
     ·rename_i i hi;split at h
      ·rename_i hcmp;simp only[Op.equalIn,Sem.run_bind,az hd,SV.val,Result.andThen_ok,ne_eq,not_true_eq_false,if_false,nQ hi,hcmp,Bool.not_true,Bool.false_eq_true];exact ih _ _ _ _ _ h e
      ·cases h
     ·cases h
    ·rename_i ht;injection h with h;injection h with _ h;subst h;simp[Op.equalIn,az hd,SV.val,ht]
   case h_24 =>
    rename_i fs xs ys hd;split at h
    ·cases h
    ·rename_i hs;have hf:P.fieldsOf t=fs:=by simp[Program.fieldsOf,hd]
     have:=run_equalIn_struct (P:=P) w (d+e) t (SV.vals E xs).toArray (SV.vals E ys).toArray (by rw[hf];exact hd) (by simpa using hs);simp only[SV.val];rw[this,hf];exact Pt (fun t x y l b hq=>⟨ih t x y l b hq e,fun _=>trivial⟩) fs.toList l b h
   case h_25 =>
    rename_i len elem xs ys hd;split at h
    ·rename_i n hn;have hn': ∃ i,P.info? elem=some i/\P.cellsOf elem=n:=by
      unfold sz at hn;split at hn
      ·rename_i i hi;injection hn with hn;exact⟨i,hi,by simp[Program.cellsOf,hi,hn]⟩
      ·cases hn
     obtain⟨i,hi,hc⟩:=hn';simp only[SV.val];rw[run_equalIn_array w (d+e) (SV.vals E xs).toArray (SV.vals E ys).toArray hd hi,hc];exact RU (fun t x y l b hq=>ih t x y l b hq e) (List.range len) l b h
    ·cases h
   all_goals first
    | (cases h;done)
    | (rename_i z _ n _ hd;cases hz:z&&Nat.beq n 0<;>rw[hz] at h<;>injection h with h<;>injection h with _ h<;>subst h<;>simp only[Op.equalIn,Sem.run_bind,az hd,SV.val,Result.andThen_ok,hz,cond_true,cond_false]<;>rfl)
    | (rename_i z _ _ n _ hd;cases hz:z&&Nat.beq n 0<;>rw[hz] at h<;>injection h with h<;>injection h with _ h<;>subst h<;>simp only[Op.equalIn,Sem.run_bind,az hd,SV.val,Result.andThen_ok,hz,cond_true,cond_false]<;>rfl)
    | (rename_i hd;injection h with h;injection h with _ h;subst h;simp only[Op.equalIn,Sem.run_bind,az hd,SV.val,Result.andThen_ok];rfl)
    | (rename_i hd;injection h with h;injection h with _ h;subst h;simp[Op.equalIn,az hd,SV.val];done)
section
variable {P : Program} {look : qA} {σ : Operand -> Option SV}
def isConst:Operand->Bool
 | .const _=>true
 | _=>false
def SV.gen:SV->Bool
 | .int .. | .str .. | .raw _=>false
 | _=>true
def qT (P:Program)(t:TypeId)(c:Bool)(x y:SV):Bool :=
 x.gen&&y.gen&&(match x,y with
 | .aZ,.aZ=>c
 | .agg _,.agg _=>!P.eqGuardType P.depth t
 | _,_=>true)
theorem Ah {E:Nat->Nat}{w:World}{op:BinOp}{t:TypeId}{x y:Operand}{a b:SV}(h:qT P t (isConst x||isConst y) a b=true) :
  (eqGuard op t x y (a.val E) (b.val E)).run P w=.ok () w:=by
 unfold eqGuard qT at *;cases op
 all_goals try rfl
 all_goals
  simp only[Bool.not_true,Bool.false_eq_true,if_false];split at h
  ·simp only[Bool.and_eq_true] at h;have:=h.2;simp only[SV.val];cases x<;>cases y<;>simp_all [isConst]
  ·simp only[Bool.and_eq_true] at h;have:=h.2;simp only[SV.val];simp at this;simp[this]
  ·rename_i h1 h2
   cases a<;>cases b<;>simp only[SV.val]<;>first
    | rfl
    | (exact(by grind))
    | (exact(by grind))
    | (simp[SV.gen] at h;done)
theorem binOp_eql {E:Nat->Nat}{t:TypeId}{a b:SV}(ha:a.gen=true)(_hb:b.gen=true) :
  binOp .eql t (a.val E) (b.val E)=(do pure (.bool (← Op.equal t (a.val E) (b.val E))):Sem Value) /\
  binOp .neq t (a.val E) (b.val E)=(do pure (.bool (!(← Op.equal t (a.val E) (b.val E)))):Sem Value):=by
 cases a<;>first | (simp[SV.gen] at ha;done) | (simp only[SV.val];exact⟨rfl,rfl⟩)
def aoC (P:Program)(op:BinOp)(t:TypeId)(c:Bool)(x y:SV)(K:Option SV->VC):VC :=
 match op,x,y with
 | .shl,.int k l a,.int _ l' b=>QH true k l a l' b K
 | .shr,.int k l a,.int _ l' b=>QH false k l a l' b K
 | op,.int k l a,.int k' l' b=>if k=k' then aoE op k l a l' b K else .fail "binOp: kinds"
 | op,.str l a,.str l' b=>aoH op (l&&l') a b K
 | .eql,x,y=>if qT P t c x y then(match eqv P 50 t x y with
    | some (l,b)=>K (some (.bool l b))
    | none=>.fail "eql")else .fail "eql: guard"
 | .neq,x,y=>if qT P t c x y then(match eqv P 50 t x y with
    | some (l,b)=>K (some (.bool l (!b)))
    | none=>.fail "neq")else .fail "neq: guard"
 | _,_,_=>.fail "binOp"
theorem akY {s:(Operand->Value)->Sem Value}{op:BinOp}{k:IntKind}{l l':Bool}{a b:Int}(h1:op≠.shl)(h2:op≠.shr)
  (h: ∀ E w ρ,Compat E look w->Reads E σ ρ->(s ρ).run P w=(binOp op 0 (.int k a) (.int k b)).run P w):aM P look σ s (aoE op k l a l' b):=by
 unfold aoE
 have hb: ∀ w,(binOp op 0 (.int k a) (.int k b)).run P w=(match op with
   | .add | .sub | .mul=>Op.intArith op k a b
   | .quo | .rem=>Op.intDiv op k a b
   | .and | .or | .xor | .andNot=>Op.intBits op k a b
   | _=>Op.intCmp op a b:Sem Value).run P w:=by
  intro w;cases op<;>first | (exact absurd rfl h1) | (exact absurd rfl h2) | simp[binOp]
 cases op
 case add=>exact qY fun E w ρ hc hr=>by rw[h E w ρ hc hr,hb];simp[Op.intArith]
 case sub=>exact qY fun E w ρ hc hr=>by rw[h E w ρ hc hr,hb];simp[Op.intArith]
 case mul=>exact qY fun E w ρ hc hr=>by rw[h E w ρ hc hr,hb];simp[Op.intArith]
 case quo=>grind [Zk]
 case rem=>grind [Zk]
 case and=>grind [CR]
 case or=>grind [CR]
 case xor=>grind [CR]
 case shl=>grind
 case shr=>grind
 case andNot=>exact aM.fail _
 all_goals (refine aM.v _ fun E w ρ hc hr=> ?_;rw[h E w ρ hc hr,hb];simp[Op.intCmp,SV.val])
 all_goals (by_cases e:a=b<;>simp[e])
theorem VG {op:BinOp}{t u:TypeId}{k k':IntKind}{a b:Int}:binOp op t (.int k a) (.int k' b)=binOp op u (.int k a) (.int k' b):=by cases op<;>rfl
theorem akV {op:BinOp}{t _yt:TypeId}{x y:Operand}{a b:SV}(hx:σ x=some a)(hy:σ y=some b) :
  aM P look σ (fun ρ=>do eqGuard op t x y (ρ x) (ρ y);binOp op t (ρ x) (ρ y)) (aoC P op t (isConst x||isConst y) a b):=by
 have hi: ∀ {k k':IntKind} {n m:Int} {w:World},(do eqGuard op t x y (.int k n) (.int k' m);binOp op t (.int k n) (.int k' m):Sem Value).run P w=(binOp op t (.int k n) (.int k' m)).run P w:=by
  intro k k' n m w;simp only[Sem.run_bind];have:(eqGuard op t x y (.int k n) (.int k' m)).run P w=.ok () w:=by unfold eqGuard;split<;>simp
  rw[this];rfl
 unfold aoC;split
 ·rename_i k l n k' l' m;exact Nz (left:=true) (yk:=k') fun E w ρ hc hr=>by rw[hr x _ hx,hr y _ hy];simp only[SV.val];rw[hi];rfl
 ·rename_i k l n k' l' m;exact Nz (left:=false) (yk:=k') fun E w ρ hc hr=>by rw[hr x _ hx,hr y _ hy];simp only[SV.val];rw[hi];rfl
 ·rename_i op' k l n k' l' m h1 h2;refine aM.ite (fun e=> ?_) (fun _=>aM.fail _);subst e;exact akY h1 h2 fun E w ρ hc hr=>by rw[hr x _ hx,hr y _ hy];grind [VG,SV.val,hi]
 ·rename_i op' l n l' m;refine ak2 fun E w ρ hc hr=> ?_;rw[hr x _ hx,hr y _ hy];simp only[SV.val,Sem.run_bind];have:(eqGuard op t x y (.string ⟨n.toArray⟩) (.string ⟨m.toArray⟩)).run P w=.ok () w:=by unfold eqGuard;split<;>simp
  rw[this];cases op<;>rfl
 ·rename_i a' b' _ _;refine aM.ite (fun hg=> ?_) (fun _=>aM.fail _);split
  ·rename_i l v he;refine aM.v _ fun E w ρ hc hr=> ?_;have hq:=YG (E:=E) (w:=w) 50 t a b l v he (Op.maxDepth - 50);have hg':=hg;unfold qT at hg';simp only[Bool.and_eq_true] at hg';rw[hr x _ hx,hr y _ hy];simp only[Sem.run_bind,Ah hg,Result.andThen_ok];rw[(binOp_eql hg'.1.1 hg'.1.2).1];simp only[Sem.run_bind,Op.equal];rw[show Op.maxDepth=50+(Op.maxDepth - 50)from rfl,hq];rfl
  ·exact aM.fail _
 ·rename_i a' b' _ _;refine aM.ite (fun hg=> ?_) (fun _=>aM.fail _);split
  ·rename_i l v he;refine aM.v _ fun E w ρ hc hr=> ?_;have hq:=YG (E:=E) (w:=w) 50 t a b l v he (Op.maxDepth - 50);have hg':=hg;unfold qT at hg';simp only[Bool.and_eq_true] at hg';rw[hr x _ hx,hr y _ hy];simp only[Sem.run_bind,Ah hg,Result.andThen_ok];rw[(binOp_eql hg'.1.1 hg'.1.2).2];simp only[Sem.run_bind,Op.equal];rw[show Op.maxDepth=50+(Op.maxDepth - 50)from rfl,hq];rfl
  ·exact aM.fail _
 ·exact aM.fail _
def qun (op:UnOp)(x:SV)(K:Option SV->VC):VC :=
 match op,x with
 | .not,.bool l b=>K (some (.bool l (!b)))
 | .neg,.int k l n=>xY k l (0 - n) K
 | .xor,.int k l n=>(match k.signed with
   | false=>Ny .xor k l (hi k) n K
   | true=>.fail "unOp")
 | _,_=>.fail "unOp"
theorem aon {k:IntKind}(h:k.signed=false):k.max=hi k:=by cases k<;>first | rfl | (simp[IntKind.signed] at h;done)
theorem aoI {op:UnOp}{x:Operand}{a:SV}(hx:σ x=some a):aM P look σ (fun ρ=>Op.unary op (ρ x)) (qun op a):=by
 unfold qun;split
 ·exact aM.v _ fun E w ρ hc hr=>by rw[hr x _ hx];rfl
 ·exact qY fun E w ρ hc hr=>by rw[hr x _ hx];rfl
 ·rename_i k l n;cases hs:k.signed with
  | true=>exact aM.fail _
  | false =>
    refine CR (by grind) fun E w ρ hc hr=> ?_;rw[hr x _ hx]
    grind [aon,SV.val,Op.unary]
 ·exact aM.fail _
def fits:IntKind->IntKind->Bool
 | .u8,.u16 | .u8,.u32 | .u8,.u64 | .u16,.u32 | .u16,.u64 | .u32,.u64=>true
 | a,b=>decide (a=b)
def agE (P:Program)(src dst:TypeId)(x:SV)(K:Option SV->VC):VC :=
 match P.underlying src,P.underlying dst,x with
 | some (.int j),some (.int k),.int _ l n=>match l|| !fits j k with
   | true=>xY k l n K
   | false=>.and (.atom (lo k<=n/\n<=hi k)) (K (some (.int k false n)))
 | some .string,some .string,.str l s=>K (some (.str l s))
 | _,_,_=>.fail "convert"
theorem agF {src dst:TypeId}{x:Operand}{a:SV}(hx:σ x=some a):aM P look σ (fun ρ=>convert src dst (ρ x)) (agE P src dst a):=by
 unfold agE;split
 ·rename_i j k k' l n hs hd;have hrun: ∀ w,(convert src dst (.int k' n)).run P w=.ok (.int k (k.wrap n)) w:=fun w=>by simp only[convert,Sem.run_bind,az hs,az hd,Result.andThen_ok];rfl
  split
  ·exact qY fun E w ρ hc hr=>by rw[hr x _ hx];exact hrun w
  ·exact aM.atom fun hb=>aM.v _ fun E w ρ hc hr=>by rw[hr x _ hx];grind [zV,SV.val]
 ·rename_i l s hs hd;exact aM.v _ fun E w ρ hc hr=>by rw[hr x _ hx];simp only[SV.val,convert,Sem.run_bind,az hs,az hd,Result.andThen_ok];rfl
 ·exact aM.fail _
def BF (P:Program)(t:TypeId)(x:SV)(K:Option SV->VC):VC :=
 match P.concrete t with
 | true=>K (some (.iface t x))
 | false=>.fail "makeInterface"
theorem LJ {t:TypeId}{x:Operand}{a:SV}(hx:σ x=some a):aM P look σ (fun ρ=>Instr.makeInterface t (ρ x)) (BF P t a):=by
 unfold BF;split
 ·rename_i h;exact aM.v _ fun E w ρ hc hr=>by rw[hr x _ hx,run_makeInterface w t _ h];rfl
 ·exact aM.fail _
def RW (σ:Operand->Option SV):List Operand->Option (List SV)
 | []=>some []
 | x::r=>match σ x,RW σ r with
   | some v,some l=>some (v::l)
   | _,_=>none
theorem YH {σ:Operand->Option SV}{E:Nat->Nat}{ρ:Operand->Value}(hr:Reads E σ ρ): ∀ {xs:List Operand} {l:List SV},RW σ xs=some l->xs.map ρ=SV.vals E l
 | [],l,h=>by simp[RW] at h;subst h;rfl
 | x::r,l,h=>by
   simp only[RW] at h;split at h
   ·rename_i v l' hv hl;injection h with h;subst h;simp[SV.vals,hr x v hv,YH hr hl]
   ·cases h
theorem sG {σ:Operand->Option SV}{E:Nat->Nat}{ρ:Operand->Value}(hr:Reads E σ ρ){xs:Array Operand}{l:List SV}(h:RW σ xs.toList=some l) :
  xs.map ρ=(SV.vals E l).toArray:=by
 rw[← YH hr h];grind
def EV (fn:Fn)(a b:Option (List SV))(K:Option SV->VC):VC :=
 match a,b with
 | some a,some b=>K (some (.func fn a b))
 | _,_=>.fail "makeFunc"
theorem QF {fn:Fn}{xs ys:Array Operand}:aM P look σ (fun ρ=>Instr.makeFunc fn (xs.map ρ) (ys.map ρ)) (EV fn (RW σ xs.toList) (RW σ ys.toList)):=by
 unfold EV;split
 ·rename_i a b ha hb;exact aM.v _ fun E w ρ hc hr=>by rw[sG hr ha,sG hr hb];rfl
 ·exact aM.fail _
def JP (x:SV)(i:Nat)(K:Option SV->VC):VC :=
 match x with
 | .bL vs=>(match vs[i]? with
   | some v=>K (some v)
   | none=>.fail "extract")
 | _=>.fail "extract: no tuple"
theorem TD {x:Operand}{a:SV}{i:Nat}(hx:σ x=some a):aM P look σ (fun ρ=>Instr.extract (ρ x) i) (JP a i):=by
 unfold JP;split
 ·rename_i vs;split
  ·rename_i v hv;refine aM.v _ fun E w ρ hc hr=> ?_;rw[hr x _ hx];simp[SV.val,Instr.extract,SV.bA,hv]
  ·exact aM.fail _
 ·exact aM.fail _
def Xm (P:Program)(t:TypeId)(x:SV)(f:Nat)(K:Option SV->VC):VC :=
 match P.underlying t,x with
 | some (.struct fs),.agg cs=>(match fs[f]? with
   | some fd=>(match partOf P fd.type cs fd.offset with
     | some v=>K (some v)
     | none=>.fail "field: no such part")
   | none=>.fail "field: no such field")
 | _,_=>.fail "field"
theorem ack {t:TypeId}{x:Operand}{a:SV}{f:Nat}(hx:σ x=some a):aM P look σ (fun ρ=>Instr.field t (ρ x) f) (Xm P t a f):=by
 unfold Xm;split
 ·rename_i fs cs hd;split
  ·rename_i fd hf;split
   ·rename_i v hv;refine aM.v _ fun E w ρ hc hr=> ?_;rw[hr x _ hx];simp[SV.val,Instr.field,az hd,hf,asAgg,kq hv]
   ·exact aM.fail _
  ·exact aM.fail _
 ·exact aM.fail _
def ai (s:List UInt8)(i:Int):Int:=((s.getD i.toNat 0).toNat:Int)
def Xn (P:Program)(t:TypeId)(x i:SV)(K:Option SV->VC):VC :=
 match P.underlying t,x,i with
 | some .string,.str l s,.int _ l' n=>(match l&&l' with
   | true=>if 0<=n/\n<s.length then K (some (.int .u8 true (ai s n)))else .fail "index out of range"
   | false=>.and (.atom (0<=n/\n<s.length)) (K (some (.int .u8 false (ai s n)))))
 | some (.array len e),.agg cs,.int _ true n=>(match sz P e with
   | some m=>if 0<=n/\n<len then(match partOf P e cs (n.toNat*m)with
     | some v=>K (some v)
     | none=>.fail "index: no such part")else .fail "index out of range"
   | none=>.fail "index")
 | some (.array len e),.agg cs,.int _ false n=>(match sz P e,P.underlying e with
   | some 1,some .string=>(match tH cs with
     | some ss=>.and (.atom (0<=n/\n<len/\n<ss.length)) (K (some (.str false (lZ ss n.toNat))))
     | none=>.fail "index: no texts")
   | _,_=>.fail "index")
 | _,_,_=>.fail "index"
theorem DE {E:Nat->Nat}{w:World}{t:TypeId}(hd:P.underlying t=some .string){l:Bool}{s:List UInt8}{k:IntKind}{l':Bool}{n:Int}(h:0<=n/\n<s.length) :
  (Instr.index t ((SV.str l s).val E) ((SV.int k l' n).val E)).run P w=.ok (.int .u8 (ai s n)) w:=by
 have hn:n.toNat<s.length:=by omega
 simp only[SV.val,Instr.index,asIntOf,Sem.run_bind,Sem.run_pure,Result.andThen_ok,az hd,h.1,if_true];have e:(ByteArray.mk s.toArray)[n.toNat]?=some s[n.toNat]:=by rw[getElem?_pos (ByteArray.mk s.toArray) n.toNat (by grind [ByteArray.size])];rfl
 simp_all [Sx.ai]
theorem acm {t:TypeId}{x i:Operand}{a b:SV}(hx:σ x=some a)(hi:σ i=some b):aM P look σ (fun ρ=>Instr.index t (ρ x) (ρ i)) (Xn P t a b):=by
 unfold Xn;split
 ·rename_i l s k l' n hd;split
  ·exact aM.ite (fun h=>aM.v _ fun E w ρ hc hr=>by rw[hr x _ hx,hr i _ hi];exact DE hd h) (fun _=>aM.fail _)
  ·exact aM.atom fun h=>aM.v _ fun E w ρ hc hr=>by rw[hr x _ hx,hr i _ hi];exact DE hd h
 ·rename_i len e cs k n hd;split
  ·rename_i m hm;refine aM.ite (fun h=> ?_) (fun _=>aM.fail _);split
   ·rename_i v hv;refine aM.v _ fun E w ρ hc hr=> ?_;rw[hr x _ hx,hr i _ hi];simp[SV.val,Instr.index,asIntOf,az hd,h.1,h.2,bU hm,kq hv]
   ·exact aM.fail _
  ·exact aM.fail _
 ·rename_i len e cs k n hd;split
  ·rename_i hm he;split
   ·rename_i ss hss;refine aM.atom fun h=>aM.v _ fun E w ρ hc hr=> ?_;have hl:n.toNat<cs.length:=by rw[← BN hss];omega
    obtain⟨b,hb⟩:=sn hss n.toNat _ (List.getElem?_eq_getElem hl);have hv:partOf P e cs (n.toNat*1)=some (.str b (lZ ss n.toNat)):=by simp only[partOf,he,iw,Nat.mul_one];rw[List.getElem?_eq_getElem hl,hb]
    have hp:=kq (E:=E) (w:=w) hv;rw[hr x _ hx,hr i _ hi];rw[Nat.mul_one] at hp;simp[SV.val,Instr.index,asIntOf,az hd,h.1,h.2.1,bU hm,hp]
   ·exact aM.fail _
  ·exact aM.fail _
 ·exact aM.fail _
end
end Go.Proofs.YtpaaiebohjjieaaGreatDoor.Sx
namespace Go.Proofs.YtpaaiebohjjieaaGreatDoor.Sx
open Go
section
variable {P : Program} {look : qA} {σ : Operand -> Option SV}
def bound (σ:Operand->Option SV)(d:Bool×Int):Option Operand->Option (Bool×Int)
 | none=>some d
 | some x=>match σ x with
   | some (.int _ l n)=>some (l,n)
   | _=>none
def eK (s:List UInt8):Option Operand->Option Operand->Int->Int->List UInt8
 | none,none,_,_=>s
 | none,some _,_,h=>s.take h.toNat
 | some _,none,l,_=>s.drop l.toNat
 | some _,some _,l,h=>(s.drop l.toNat).take (h.toNat - l.toNat)
def Hj (l:Bool)(c:Prop)[Decidable c](t:VC):VC :=
 match l with
 | true=>if c then t else .fail "a bound"
 | false=>.and (.atom c) t
theorem aM.Hj {s:(Operand->Value)->Sem Value}{l:Bool}{c:Prop}[Decidable c]{t:QT}(h:c->aM P look σ s t):aM P look σ s (fun K=>Sx.Hj l c (t K)):=by
 unfold Sx.Hj;cases l
 ·exact aM.atom h
 ·exact aM.ite h (fun _=>aM.fail _)
def uy (σ:Operand->Option SV)(l:Bool)(s:List UInt8)(lo hi:Option Operand)(K:Option SV->VC):VC :=
 match bound σ (true,0) lo,bound σ (l,s.length) hi with
 | some (l1,a),some (l2,b)=>Hj (l&&l1&&l2) (0<=a/\a<=b/\b<=s.length) (K (some (.str (l&&l1&&l2) (eK s lo hi a b))))
 | _,_=>.fail "slice of a text"
def oF (σ:Operand->Option SV)(m:Nat)(_arr:Bool)(key o n:Nat)(cl:Bool)(c:Nat)(lo hi:Option Operand)(K:Option SV->VC):VC :=
 match bound σ (true,0) lo,bound σ (true,n) hi with
 | some (true,a),some (true,b)=>Hj true (0<=a/\a<=b) (Hj cl (b<=c) (match cl with
   | true=>K (some (.slc key (if c=a.toNat then o else o+a.toNat*m) (b.toNat - a.toNat) cl (c - a.toNat)))
   | false=>fork (decide (c=a.toNat)) (fun e=>match e with
     | true=>K (some (.slc key o (b.toNat - a.toNat) cl (c - a.toNat)))
     | false=>K (some (.slc key (o+a.toNat*m) (b.toNat - a.toNat) cl (c - a.toNat))))))
 | _,_=>.fail "slice: bounds that are not known"
def QY (lo:Option Operand)(i c a:Nat):Nat:=match lo with
 | none=>i
 | some _=>if c=a then i else i+a
theorem Om {lo:Option Operand}{i c:Nat}{la:Bool}{a:Int}(ha:bound σ (true,0) lo=some (la,a)):QY lo i c a.toNat=if c=a.toNat then i else i+a.toNat:=by
 cases lo with
 | none =>simp only[bound] at ha;injection ha with ha;injection ha with _ ha;subst ha;simp[QY]
 | some _=>rfl
def oE (σ:Operand->Option SV)(key w i n c:Nat)(lo hi:Option Operand)(K:Option SV->VC):VC :=
 match bound σ (true,0) lo,bound σ (false,n) hi with
 | some (_,a),some (_,b)=>.and (.atom (0<=a/\a<=b/\b<=c)) (K (some (.bI key w false (QY lo i c a.toNat) (b.toNat - a.toNat) (c - a.toNat))))
 | _,_=>.fail "slice: bounds"
def rK (σ:Operand->Option SV)(key w o i n c:Nat)(lo hi:Option Operand)(K:Option SV->VC):VC :=
 match bound σ (true,0) lo,bound σ (false,n) hi with
 | some (_,a),some (_,b)=>.and (.atom (0<n/\0<=a/\a<=b/\b<=c)) (K (some (.cC key w false o (QY lo i c a.toNat) (b.toNat - a.toNat) (c - a.toNat))))
 | _,_=>.fail "slice: bounds"
def ux (σ:Operand->Option SV)(lo hi:Option Operand)(K:Option SV->VC):VC :=
 match bound σ (true,0) lo,bound σ (true,((0:Nat):Int)) hi with
 | some (true,a),some (true,b)=>Hj true (0<=a/\a<=b) (Hj true (b<=((0:Nat):Int)) (K (some .aO)))
 | _,_=>.fail "slice: bounds of nothing"
def zo (σ:Operand->Option SV)(n:Nat)(lo hi:Option Operand):Bool :=
 match bound σ (true,0) lo,bound σ (true,n) hi with
 | some (true,_),some (true,_)=>true
 | _,_=>false
def uw (σ:Operand->Option SV)(key o n:Nat)(lo hi:Option Operand)(K:Option SV->VC):VC :=
 match bound σ (true,0) lo,bound σ (true,n) hi with
 | some (_,a),some (_,b)=>.and (.atom (0<=a/\a<=b/\b<=n)) (fork (decide (n=a.toNat)) (fun e=>match e with
    | true=>K (some (.bI key 1 false o (b.toNat - a.toNat) (n - a.toNat)))
    | false=>K (some (.bI key 1 false (o+a.toNat) (b.toNat - a.toNat) (n - a.toNat)))))
 | _,_=>.fail "slice: bounds"
def vS (σ:Operand->Option SV)(m:Nat)(key o n c:Nat)(lo hi:Option Operand)(mx:Operand)(K:Option SV->VC):VC :=
 match hi,bound σ (true,0) lo,bound σ (true,n) hi,bound σ (true,c) (some mx)with
 | some _,some (true,a),some (true,b),some (true,z)=>Hj true (0<=a/\a<=b/\b<=z/\z<=c)
    (K (some (.slc key (if z.toNat=a.toNat then o else o+a.toNat*m) (b.toNat - a.toNat) true (z.toNat - a.toNat))))
 | _,_,_,_=>.fail "slice: bounds that are not known"
def QI (P:Program)(σ:Operand->Option SV)(t:TypeId)(x:Option SV)(lo hi mx:Option Operand)(K:Option SV->VC):VC :=
 match mx,P.underlying t,x with
 | none,some .string,some (.str l s)=>uy σ l s lo hi K
 | none,some (.array n e),some (.ptr key true o)=>(match sz P e with
   | some m=>(match !zo σ n lo hi&&Nat.beq m 1 with
     | true=>uw σ key o n lo hi K
     | false=>oF σ m true key o n true n lo hi K)
   | none=>.fail "slice")
 | some z,some (.array n e),some (.ptr key true o)=>(match sz P e with
   | some m=>vS σ m key o n n lo hi z K
   | none=>.fail "slice")
 | some z,some (.slice e),some (.slc key o n true c)=>(match sz P e with
   | some m=>vS σ m key o n c lo hi z K
   | none=>.fail "slice")
 | none,some (.slice e),some (.slc key o n cl c)=>(match sz P e with
   | some m=>oF σ m false key o n cl c lo hi K
   | none=>.fail "slice")
 | none,some (.slice e),some (.bI key w z i n c)=>(match sz P e with
   | some m=>if m=w then(match z with
     | true=>.and (.atom (0<n)) (oE σ key w i n c lo hi K)
     | false=>oE σ key w i n c lo hi K)else .fail "slice: another row"
   | none=>.fail "slice")
 | none,some (.slice e),some (.cC key w _ o i n c)=>(match sz P e with
   | some m=>if m=w then rK σ key w o i n c lo hi K else .fail "slice: another row"
   | none=>.fail "slice")
 | none,some (.slice e),some .aO=>(match sz P e with
   | some _=>ux σ lo hi K
   | none=>.fail "slice")
 | _,_,_=>.fail "slice"
theorem qP {E:Nat->Nat}{w:World}{ρ:Operand->Value}(hr:Reads E σ ρ){d:Bool×Int}{x:Operand}{l:Bool}{n:Int}
  (h:bound σ d (some x)=some (l,n)) {y:Nat} {code:BoundsCode} (h0:0<=n) (h1:n<=y):(Instr.sliceBound (ρ x) y code).run P w=.ok n.toNat w:=by
 simp only[bound] at h;split at h
 ·rename_i k l' n' hx;injection h with h;injection h with _ h;subst h;rw[hr x _ hx];simp[SV.val,Instr.sliceBound,asIntOf,h0,h1]
 ·cases h
theorem mh {E:Nat->Nat}{w:World}{ρ:Operand->Value}(hr:Reads E σ ρ){isSlice:Bool}{n c:Nat}{lo hi:Option Operand}{la lb ld:Bool}{a b:Int}
  (ha:bound σ (true,0) lo=some (la,a)) (hb:bound σ (ld,(n:Int)) hi=some (lb,b)) (h0:0<=a) (h1:a<=b) (h2:b<=c) :
  (Instr.sliceBounds isSlice n c (lo.map ρ) (hi.map ρ) none).run P w=.ok (a.toNat,b.toNat,c) w:=by
 cases hi with
 | none =>
   simp only[bound] at hb;injection hb with hb;injection hb with _ hb;subst hb;cases lo with
   | none =>simp only[bound] at ha;injection ha with ha;injection ha with _ ha;subst ha;simp[Instr.sliceBounds]
   | some x =>have hx:=fun code=>qP (P:=P) (w:=w) hr ha (y:=n) (code:=code) h0 h1;simp[Instr.sliceBounds,hx]
 | some y =>
   have hy:=fun code=>qP (P:=P) (w:=w) hr hb (y:=c) (code:=code) (by omega) h2;cases lo with
   | none =>simp only[bound] at ha;injection ha with ha;injection ha with _ ha;subst ha;simp[Instr.sliceBounds,hy]
   | some x =>have hx:=fun code=>qP (P:=P) (w:=w) hr ha (y:=b.toNat) (code:=code) h0 (by omega);simp[Instr.sliceBounds,hy,hx]
theorem FC {E:Nat->Nat}{w:World}{ρ:Operand->Value}(hr:Reads E σ ρ){isSlice:Bool}{n c:Nat}{lo:Option Operand}{hi mx:Operand}{la lb ld lz:Bool}{a b z:Int}
  (ha:bound σ (true,0) lo=some (la,a)) (hb:bound σ (ld,(n:Int)) (some hi)=some (lb,b)) (hz:bound σ (true,(c:Int)) (some mx)=some (lz,z)) (h0:0<=a) (h1:a<=b) (h2:b<=z) (h3:z<=c) :
  (Instr.sliceBounds isSlice n c (lo.map ρ) (some (ρ hi)) (some (ρ mx))).run P w=.ok (a.toNat,b.toNat,z.toNat) w:=by
 have hmz:=fun code=>qP (P:=P) (w:=w) hr hz (y:=c) (code:=code) (by omega) h3;have hy:=fun code=>qP (P:=P) (w:=w) hr hb (y:=z.toNat) (code:=code) (by omega) (by omega);cases lo with
 | none =>simp only[bound] at ha;injection ha with ha;injection ha with _ ha;subst ha;simp[Instr.sliceBounds,hmz,hy]
 | some x =>have hx:=fun code=>qP (P:=P) (w:=w) hr ha (y:=b.toNat) (code:=code) h0 (by omega);simp[Instr.sliceBounds,hmz,hy,hx]
theorem Ac (s:List UInt8)(l h:Nat):(ByteArray.mk s.toArray).extract l h=⟨((s.drop l).take (h - l)).toArray⟩:=by apply ByteArray.ext;rw[ByteArray.data_extract];simp
theorem acO {σ:Operand->Option SV}{s:List UInt8}{ls la lb:Bool}{lo hi:Option Operand}{a b:Int}
  (ha:bound σ (true,0) lo=some (la,a)) (hb:bound σ (ls,(s.length:Int)) hi=some (lb,b)) (h:0<=a/\a<=b/\b<=s.length) :
  (s.drop a.toNat).take (b.toNat - a.toNat)=eK s lo hi a b:=by
 cases lo with
 | none =>
   simp only[bound] at ha;injection ha with ha;injection ha with _ ha;subst ha;cases hi with
   | none=>simp only[bound] at hb;injection hb with hb;injection hb with _ hb;subst hb;simp[eK]
   | some y=>simp[eK]
 | some x =>
   cases hi with
   | none =>simp only[bound] at hb;injection hb with hb;injection hb with _ hb;subst hb;simp only[eK];rw[List.take_of_length_le];simp
   | some y=>rfl
theorem aco {t0:TypeId}{x:Operand}{lo hi mx:Option Operand} :
  aM P look σ (fun ρ=>Instr.sliceAt t0 (ρ x) (lo.map ρ) (hi.map ρ) (mx.map ρ)) (QI P σ t0 (σ x) lo hi mx):=by
 unfold QI;split
 ·rename_i l s hd hx;unfold uy;split
  ·rename_i l1 a l2 b ha hb;refine aM.Hj fun h=>aM.v _ fun E w ρ hc hr=> ?_;have hs:(ByteArray.mk s.toArray).size=s.length:=by simp[ByteArray.size]
   have:=mh (P:=P) (w:=w) hr (isSlice:=false) (c:=s.length) ha hb h.1 h.2.1 h.2.2;simp only[hr x _ hx,SV.val,Instr.sliceAt,Sem.run_bind,az hd,Result.andThen_ok,Instr.slice,Option.map,hs];simp only[Option.map] at this;simp only[Option.isSome_none,Bool.false_eq_true,if_false,Sem.run_bind];rw[this];simp only[Result.andThen_ok,Sem.run_pure,Ac,acO ha hb h]
  ·exact aM.fail _
 ·rename_i n e key o hd hx;split
  ·rename_i m hm;split
   ·rename_i hlit;have hm1:m=1:=by simp at hlit;exact hlit.2
    subst hm1;unfold uw;split
    ·rename_i l1 a l2 b ha hb;refine aM.atom fun h=>aM.fork ?_
     have main: ∀ E w ρ,Reads E σ ρ->(Instr.sliceAt t0 (ρ x) (lo.map ρ) (hi.map ρ) ((none:Option Operand).map ρ)).run P w =
       .ok ((SV.bI key 1 false (if n=a.toNat then o else o+a.toNat) (b.toNat - a.toNat) (n - a.toNat)).val E) w:=by
      intro E w ρ hr;have:=mh (P:=P) (w:=w) hr (isSlice:=false) (c:=n) ha hb h.1 h.2.1 h.2.2;simp only[Option.map] at this;simp only[hr x _ hx,SV.val,Instr.sliceAt,Sem.run_bind,az hd,Result.andThen_ok,Option.map,Instr.sureAddr,Sem.run_pure,this,bU hm,cN];split<;>simp
     by_cases hca:n=a.toNat
     ·rw[decide_eq_true hca];refine aM.v _ fun E w ρ hc hr=> ?_;have:=main E w ρ hr;rw[if_pos hca] at this;exact this
     ·rw[decide_eq_false hca];refine aM.v _ fun E w ρ hc hr=> ?_;have:=main E w ρ hr;rw[if_neg hca] at this;exact this
    ·exact aM.fail _
   ·unfold oF;split
    ·rename_i a b ha hb;refine aM.Hj fun h=>aM.Hj fun h'=>aM.v _ fun E w ρ hc hr=> ?_;have:=mh (P:=P) (w:=w) hr (isSlice:=false) (c:=n) ha hb h.1 h.2 h';simp only[Option.map] at this;simp only[hr x _ hx,SV.val,Instr.sliceAt,Sem.run_bind,az hd,Result.andThen_ok,Option.map,Instr.sureAddr,Sem.run_pure,this,bU hm,cN];split<;>rfl
    ·exact aM.fail _
  ·exact aM.fail _
 ·rename_i z n e key o hd hx;split
  ·rename_i m hm;unfold vS;split
   ·rename_i y a b c ha hz hb;refine aM.Hj fun h=>aM.v _ fun E w ρ hc hr=> ?_;have:=FC (P:=P) (w:=w) hr (isSlice:=false) (c:=n) ha hb hz h.1 h.2.1 h.2.2.1 h.2.2.2;simp only[Option.map] at this;simp only[hr x _ hx,SV.val,Instr.sliceAt,Sem.run_bind,az hd,Result.andThen_ok,Option.map,Instr.sureAddr,Sem.run_pure,this,bU hm,cN];split<;>rfl
   ·exact aM.fail _
  ·exact aM.fail _
 ·rename_i z e key o n c hd hx;split
  ·rename_i m hm;unfold vS;split
   ·rename_i y a b c' ha hz hb;refine aM.Hj fun h=>aM.v _ fun E w ρ hc hr=> ?_;have:=FC (P:=P) (w:=w) hr (isSlice:=true) (c:=c) ha hb hz h.1 h.2.1 h.2.2.1 h.2.2.2;simp only[Option.map] at this;simp only[hr x _ hx,SV.val,Instr.sliceAt,Sem.run_bind,az hd,Result.andThen_ok,Option.map,Instr.slice,this,bU hm,cN,Sem.run_pure];split<;>rfl
   ·exact aM.fail _
  ·exact aM.fail _
 ·rename_i e key o n cl c hd hx;split
  ·rename_i m hm
   have main: ∀ {la lb:Bool} {a b:Int},bound σ (true,0) lo=some (la,a)->bound σ (true,(n:Int)) hi=some (lb,b)->0<=a->a<=b->b<=c ->
     ∀ E w ρ,Reads E σ ρ->(Instr.sliceAt t0 (ρ x) (lo.map ρ) (hi.map ρ) ((none:Option Operand).map ρ)).run P w =
       .ok ((SV.slc key (if c=a.toNat then o else o+a.toNat*m) (b.toNat - a.toNat) cl (c - a.toNat)).val E) w:=by
    intro la lb a b ha hb h0 h1 h2 E w ρ hr;have:=mh (P:=P) (w:=w) hr (isSlice:=true) (c:=c) ha hb h0 h1 h2;simp only[Option.map] at this;simp only[hr x _ hx,SV.val,Instr.sliceAt,Sem.run_bind,az hd,Result.andThen_ok,Option.map,Instr.slice,this,bU hm,cN,Sem.run_pure];split<;>rfl
   unfold oF;split
   ·rename_i a b ha hb;refine aM.Hj fun h=>aM.Hj fun h'=> ?_;cases cl with
    | true=>exact aM.v _ fun E w ρ hc hr=>main ha hb h.1 h.2 h' E w ρ hr
    | false =>
      refine aM.fork ?_;by_cases hca:c=a.toNat
      ·rw[decide_eq_true hca];refine aM.v _ fun E w ρ hc hr=> ?_;have:=main ha hb h.1 h.2 h' E w ρ hr;rw[if_pos hca] at this;exact this
      ·rw[decide_eq_false hca];refine aM.v _ fun E w ρ hc hr=> ?_;have:=main ha hb h.1 h.2 h' E w ρ hr;rw[if_neg hca] at this;exact this
   ·exact aM.fail _
  ·exact aM.fail _
 ·rename_i e key w0 z i n c hd hx;split
  ·rename_i m hm;refine aM.ite (fun hmw=> ?_) (fun _=>aM.fail _);subst hmw;have hx':(z&&Nat.beq n 0)=false->∀(E:Nat->Nat) (ρ:Operand->Value),Reads E σ ρ->ρ x=(SV.bI key m false i n c).val E:=fun h E ρ hr=>by rw[hr x _ hx];simp[SV.val,h]
   have core:(∀(E:Nat->Nat) (ρ:Operand->Value),Reads E σ ρ->ρ x=(SV.bI key m false i n c).val E)->aM P look σ (fun ρ=>Instr.sliceAt t0 (ρ x) (lo.map ρ) (hi.map ρ) ((none:Option Operand).map ρ)) (oE σ key m i n c lo hi):=fun hx=>by
    unfold oE;split
    ·rename_i l1 a l2 b ha hb;refine aM.atom fun h=>aM.v _ fun E w ρ hc hr=> ?_;have:=mh (P:=P) (w:=w) hr (isSlice:=true) (c:=c) ha hb h.1 h.2.1 h.2.2;simp only[Option.map] at this;rw[Om ha];simp only[hx E ρ hr,SV.val,Bool.false_and,cond_false,Instr.sliceAt,Sem.run_bind,az hd,Result.andThen_ok,Option.map,Instr.slice,this,bU hm,cN,Sem.run_pure];split
     ·rfl
     ·simp[Nat.add_mul]
    ·exact aM.fail _
   cases z with
   | true=>exact aM.atom fun h0=>core fun E ρ hr=>hx' (by cases n with | zero=>omega | succ n=>rfl) E ρ hr
   | false=>exact core fun E ρ hr=>hx' rfl E ρ hr
  ·exact aM.fail _
 ·rename_i e key w0 z o i n c hd hx;split
  ·rename_i m hm;refine aM.ite (fun hmw=> ?_) (fun _=>aM.fail _);subst hmw;unfold rK;split
   ·rename_i l1 a l2 b ha hb;refine aM.atom fun h=>aM.v _ fun E w ρ hc hr=> ?_;have hx':ρ x=(SV.cC key m false o i n c).val E:=by
     rw[hr x _ hx];have hz:(z&&Nat.beq n 0)=false:=by cases n with | zero=>omega | succ n=>simp[Nat.beq]
     simp[SV.val,hz]
    have:=mh (P:=P) (w:=w) hr (isSlice:=true) (c:=c) ha hb h.2.1 h.2.2.1 h.2.2.2;simp only[Option.map] at this;rw[Om ha];simp only[hx',SV.val,Bool.false_and,cond_false,Instr.sliceAt,Sem.run_bind,az hd,Result.andThen_ok,Option.map,Instr.slice,this,bU hm,cN,Sem.run_pure];split
    ·rfl
    ·simp[Nat.add_mul,Nat.add_assoc]
   ·exact aM.fail _
  ·exact aM.fail _
 ·rename_i e hd hx;split
  ·rename_i m hm;unfold ux;split
   ·rename_i a b ha hb;refine aM.Hj fun h=>aM.Hj fun h'=>aM.v _ fun E w ρ hc hr=> ?_;have:=mh (P:=P) (w:=w) hr (isSlice:=true) (c:=0) ha hb h.1 h.2 h';obtain⟨rfl,rfl⟩:a=0/\b=0:=by omega
    simp only[Option.map] at this;simp only[hr x _ hx,SV.val,Instr.sliceAt,Sem.run_bind,az hd,Result.andThen_ok,Option.map,Instr.slice,this,bU hm,Sem.run_pure];rfl
   ·exact aM.fail _
  ·exact aM.fail _
 ·exact aM.fail _
end
end Go.Proofs.YtpaaiebohjjieaaGreatDoor.Sx
namespace Go.Proofs.YtpaaiebohjjieaaGreatDoor.Sx
open Go
section
variable {P : Program} {look : qA} {σ : Operand -> Option SV}
def i6 (P:Program)(t:TypeId):Option SV :=
 match P.info? t with
 | some i=>(match i.zero with
   | some v=>SV.ofConst v
   | none=>none)
 | none=>none
theorem eN {E:Nat->Nat}{w:World}{t:TypeId}{v:SV}(h:i6 P t=some v):(zeroValue t).run P w=.ok (v.val E) w:=by
 unfold i6 at h;split at h
 ·rename_i i hi;split at h
  ·rename_i z hz;simp[zeroValue,nQ hi,hz,SV.FW (E:=E) h]
  ·cases h
 ·cases h
def B6 (ok:Bool)(v:SV)(K:Option SV->VC):VC :=
 match ok with
 | true=>K (some (.bL [v,.bool true true]))
 | false=>K (some v)
def xb (P:Program)(at_:TypeId)(ok:Bool)(K:Option SV->VC):VC :=
 match ok with
 | true=>(match i6 P at_ with
   | some z=>K (some (.bL [z,.bool true false]))
   | none=>.fail "typeAssert: no zero")
 | false=>.fail "typeAssert fails"
theorem xd {s:(Operand->Value)->Sem Value}{at_:TypeId}{ok:Bool}(h: ∀ E w ρ,Reads E σ ρ->ok=true->∀ z,(zeroValue at_).run P w=.ok z w->(s ρ).run P w=.ok (.tuple #[z,.bool false]) w) :
  aM P look σ s (xb P at_ ok):=by
 unfold xb;cases ok with
 | false=>exact aM.fail _
 | true =>
   cases hz:i6 P at_ with
   | none=>exact aM.fail _
   | some z=>exact aM.v _ fun E w ρ hc hr=>by rw[h E w ρ hr rfl _ (eN (E:=E) hz)];rfl
theorem Fz {s:(Operand->Value)->Sem Value}{ok:Bool}(v:SV)(h: ∀ E w ρ,Reads E σ ρ->(s ρ).run P w=.ok (if ok then .tuple #[v.val E,.bool true] else v.val E) w) :
  aM P look σ s (B6 ok v):=by
 unfold B6;cases ok with
 | false=>exact aM.v _ (by grind)
 | true=>exact aM.v _ fun E w ρ hc hr=>by rw[h E w ρ hr];rfl
def isIface:TypeDesc->Option (Array (String×TypeId))
 | .interface want=>some want
 | _=>none
def MJ (want:Array (String×TypeId))(got:Array Method):Bool:=want.toList.any fun x=>!got.any fun m=>m.name==x.1&&m.sig==x.2
theorem I8 {l:List String}(h:l≠[]): ∃ m,Instr.least l=some m:=by
 cases l with
 | nil=>grind
 | cons s r=>exact⟨_,rfl⟩
def Nh (missing:List String):Option String :=Instr.least (missing.partition (·.contains '.')).2 <|> Instr.least ((missing.partition (·.contains '.')).1.map fun id=>(id.splitOn ".").getLastD id)
theorem Jo (want:Array (String×TypeId))(got:Array Method):Instr.missingMethod want got=Nh ((want.toList.filter fun(x:String×TypeId)=>!got.any fun m=>m.name==x.1&&m.sig==x.2).map (·.1)):=rfl
theorem Sy {want:Array (String×TypeId)}{got:Array Method}(h:MJ want got=false):Instr.missingMethod want got=none:=by
 have:(want.toList.filter fun(x:String×TypeId)=>!got.any fun m=>m.name==x.1&&m.sig==x.2)=[]:=by grind [List.filter_eq_nil_iff,List.any_eq_false,MJ]
 rw[Jo,this];rfl
theorem I1 {want:Array (String×TypeId)}{got:Array Method}(h:MJ want got=true): ∃ m,Instr.missingMethod want got=some m:=by
 unfold MJ at h;rw[List.any_eq_true] at h;obtain⟨x,hx,hb⟩:=h;have hmem:x.1∈ (want.toList.filter fun(x:String×TypeId)=>!got.any fun m=>m.name==x.1&&m.sig==x.2).map (·.1):=(by grind)
 rw[Jo];unfold Nh;generalize (want.toList.filter fun(x:String×TypeId)=>!got.any fun m=>m.name==x.1&&m.sig==x.2).map (·.1)=missing at hmem;rw[List.partition_eq_filter_filter];show ∃ m,(Instr.least (missing.filter (not∘ fun s=>s.contains '.')) <|> Instr.least ((missing.filter fun s=>s.contains '.').map fun id=>(id.splitOn ".").getLastD id))=some m;by_cases hd:x.1.contains '.'=true
 ·have hne:(missing.filter fun s=>s.contains '.')≠[]:=by grind [List.filter_eq_nil_iff]
  obtain⟨m,hm⟩:=I8 (l:=(missing.filter fun s=>s.contains '.').map fun id=>(id.splitOn ".").getLastD id) (by simp_all)
  grind
 ·have hne:(missing.filter (not∘ fun s=>s.contains '.'))≠[]:=by grind [List.filter_eq_nil_iff]
  obtain⟨m,hm⟩:=I8 hne
  grind
def QC (P:Program)(x:SV)(at_:TypeId)(ok:Bool)(K:Option SV->VC):VC :=
 match P.underlying at_,x with
 | some _,.aZ=>xb P at_ ok K
 | some d,.iface u v=>(match isIface d with
   | some want=>(match P.info? u with
     | some i=>(match MJ want i.methods with
       | false=>B6 ok (.iface u v) K
       | true=>xb P at_ ok K)
     | none=>.fail "typeAssert")
   | none=>if u=at_ then B6 ok v K else xb P at_ ok K)
 | _,_=>.fail "typeAssert"
theorem Xk {x:Operand}{a:SV}{t at_:TypeId}{ok:Bool}(hx:σ x=some a):aM P look σ (fun ρ=>Instr.typeAssert (ρ x) t at_ ok) (QC P a at_ ok):=by
 unfold QC;split
 ·rename_i d hd;exact xd fun E w ρ hr hok z hz=>by rw[hr x _ hx];cases d<;>simp[SV.val,Instr.typeAssert,az hd,hok,hz]
 ·rename_i d u v hd;split
  ·rename_i want hw;have hd':P.underlying at_=some (.interface want):=by cases d<;>simp[isIface] at hw;grind
   split
   ·rename_i i hi;split
    ·rename_i hm;have hm:=Sy hm;exact Fz _ fun E w ρ hr=>by rw[hr x _ hx];simp only[SV.val,Instr.typeAssert,Sem.run_bind,az hd',Result.andThen_ok,nQ hi,hm];simp_all
    ·rename_i hm;obtain⟨m,hm⟩:=I1 hm;exact xd fun E w ρ hr hok z hz=>by rw[hr x _ hx];simp[SV.val,Instr.typeAssert,az hd',nQ hi,hm,hok,hz]
   ·exact aM.fail _
  ·rename_i hw;refine aM.ite (fun e=> ?_) (fun e=> ?_)
   ·subst e;exact Fz _ fun E w ρ hr=>by
     rw[hr x _ hx];cases d<;>simp only[isIface] at hw<;>first
      | (cases hw;done)
      | (simp only[SV.val,Instr.typeAssert,Sem.run_bind,az hd,Result.andThen_ok,if_true];cases ok<;>rfl)
   ·exact xd fun E w ρ hr hok z hz=>by
     rw[hr x _ hx];cases d<;>simp only[isIface] at hw<;>first
      | (cases hw;done)
      | simp[SV.val,Instr.typeAssert,az hd,e,hok,hz]
 ·exact aM.fail _
def aoF (P:Program)(t:TypeId)(x:SV)(K:Option SV->VC):VC :=
 match P.underlying t,x with
 | some .string,.str l s=>K (some (.int .i64 l s.length))
 | some (.slice _),.slc _ _ n _ _=>K (some (.int .i64 true n))
 | some (.slice _),.bI _ _ _ _ n _=>K (some (.int .i64 false n))
 | some (.slice _),.cC _ _ _ _ _ n _=>K (some (.int .i64 false n))
 | some (.slice _),.fq _ _ _ _ _ n _=>K (some (.int .i64 false n))
 | some (.slice _),.aO=>K (some (.int .i64 true 0))
 | some (.array n _),_=>K (some (.int .i64 true n))
 | some (.map _ _),.iy=>K (some (.int .i64 true 0))
 | _,_=>.fail "len"
theorem akZ {t:TypeId}{ats:Array TypeId}{ty:TypeId}{x:Operand}{a:SV}(hx:σ x=some a)(h0:ats[0]?=some t) :
  aM P look σ (fun ρ=>Builtin.len_ ats ty #[ρ x]) (aoF P t a):=by
 unfold aoF;have hs: ∀ s:List UInt8,(ByteArray.mk s.toArray).size=s.length:=fun s=>by simp[ByteArray.size]
 split<;>first
  | exact aM.fail _
  | (rename_i hd;exact aM.v _ fun E w ρ hc hr=>by
      rw[hr x _ hx];simp only[SV.val,Builtin.len_,h0,List.getElem?_toArray,List.getElem?_cons_zero,Sem.run_bind,az hd,Result.andThen_ok]
      first
       | rfl
       | (show Result.ok (goInt (ByteArray.mk _).size) w=_;rw[hs];rfl))
def aoD (P:Program)(t:TypeId)(x:SV)(K:Option SV->VC):VC :=
 match P.underlying t,x with
 | some (.slice _),.slc _ _ _ l c=>K (some (.int .i64 l c))
 | some (.slice _),.bI _ _ false _ _ c=>K (some (.int .i64 false c))
 | some (.slice _),.aO=>K (some (.int .i64 true 0))
 | some (.array n _),_=>K (some (.int .i64 true n))
 | _,_=>.fail "cap"
theorem akW {t:TypeId}{ats:Array TypeId}{ty:TypeId}{x:Operand}{a:SV}(hx:σ x=some a)(h0:ats[0]?=some t) :
  aM P look σ (fun ρ=>Builtin.cap_ ats ty #[ρ x]) (aoD P t a):=by
 unfold aoD
 split<;>first
  | exact aM.fail _
  | (rename_i hd;exact aM.v _ fun E w ρ hc hr=>by rw[hr x _ hx];simp[SV.val,Builtin.cap_,h0,az hd,goInt])
def zE (mx:Bool)(x y:SV)(K:Option SV->VC):VC :=
 match x,y with
 | .int k l a,.int k' l' b=>if k=k' then K (some (.int k (l&&l') (match mx with | true=>max a b | false=>min a b)))else .fail "min, max: kinds"
 | _,_=>.fail "min, max"
theorem ak1 {ats:Array TypeId}{ty:TypeId}{x y:Operand}{a b:SV}(hx:σ x=some a)(hy:σ y=some b) :
  aM P look σ (fun ρ=>Builtin.min_ ats ty #[ρ x,ρ y]) (zE false a b):=by
 unfold zE;split
 ·rename_i k l m k' l' n;refine aM.ite (fun e=>aM.v _ fun E w ρ hc hr=> ?_) (fun _=>aM.fail _);subst e;rw[hr x _ hx,hr y _ hy];simp only[SV.val,Builtin.min_,List.foldlM_cons,List.foldlM_nil,Builtin.min2,Sem.run_bind,Sem.run_pure,Result.andThen_ok]
  grind
 ·exact aM.fail _
theorem ak0 {ats:Array TypeId}{ty:TypeId}{x y:Operand}{a b:SV}(hx:σ x=some a)(hy:σ y=some b) :
  aM P look σ (fun ρ=>Builtin.max_ ats ty #[ρ x,ρ y]) (zE true a b):=by
 unfold zE;split
 ·rename_i k l m k' l' n;refine aM.ite (fun e=>aM.v _ fun E w ρ hc hr=> ?_) (fun _=>aM.fail _);subst e;rw[hr x _ hx,hr y _ hy];simp only[SV.val,Builtin.max_,List.foldlM_cons,List.foldlM_nil,Builtin.max2,Sem.run_bind,Sem.run_pure,Result.andThen_ok]
  grind
 ·exact aM.fail _
def bz {α:Type}(cs:List α)(off:Nat):List α->List α
 | []=>cs
 | v::r=>bz (cs.set off v) (off+1) r
theorem Dx {α β:Type}(f:α->β): ∀(vs cs:List α) (off:Nat),(bz cs off vs).map f=bz (cs.map f) off (vs.map f)
 | [],_,_=>rfl
 | v::r,cs,off=>by simp[bz,Dx f r,List.map_set]
theorem xz: ∀(vs:List Value) (cells:Array Value) (off k:Nat),
  ((vs.zipIdx k).foldl (fun cs (x:Value×Nat)=>cs.setIfInBounds (off+x.2) x.1) cells).toList=bz cells.toList (off+k) vs
 | [],_,_,_=>rfl
 | v::r,cells,off,k=>by simp only[List.zipIdx_cons,List.foldl_cons,bz];rw[xz r];simp[Nat.add_assoc]
def xw (place:Nat->Option (Nat×Nat))(cells:List SV):List (Nat×SV)->Option (List SV)
 | []=>some cells
 | (i,v)::rest =>
   match place i with
   | none=>none
   | some (off,size) =>if v.plain&&decide (v.cells.length=size)&&decide (off+size<=cells.length)then xw place (bz cells off v.cells) rest else none
theorem y8 {E:Nat->Nat}{place:Nat->Option (Nat×Nat)}: ∀(parts:List (Nat×SV)) (cells out:List SV),xw place cells parts=some out ->
  Instr.fill place (SV.vals E cells).toArray (parts.map fun p=>(p.1,p.2.val E))=some (SV.vals E out).toArray
 | [],cells,out,h=>by simp[xw] at h;subst h;rfl
 | (i,v)::rest,cells,out,h=>by
   simp only[xw] at h;split at h
   ·cases h
   ·rename_i off size hp;split at h
    ·rename_i hc;simp only[Bool.and_eq_true,decide_eq_true_eq] at hc;obtain⟨⟨h1,h2⟩,h3⟩:=hc;have ih:=y8 (E:=E) rest _ out h;simp only[List.map_cons,Instr.fill,hp];rw[SV.gX h1];rw[if_neg (by simp[h2,SV.bA];omega)];rw[← ih];congr 1;apply Array.ext';rw[← Array.foldl_toList,Array.toList_zipIdx,xz];simp[SV.bA,Dx]
    ·cases h
def partsOf (σ:Operand->Option SV):List (Nat×Operand)->Option (List (Nat×SV))
 | []=>some []
 | (i,x)::r=>match σ x,partsOf σ r with
   | some v,some l=>some ((i,v)::l)
   | _,_=>none
theorem sO {σ:Operand->Option SV}{E:Nat->Nat}{ρ:Operand->Value}(hr:Reads E σ ρ): ∀ {ps:List (Nat×Operand)} {l:List (Nat×SV)},partsOf σ ps=some l ->
  ps.map (fun p=>(p.1,ρ p.2))=l.map fun p=>(p.1,p.2.val E)
 | [],l,h=>by simp[partsOf] at h;subst h;rfl
 | (i,x)::r,l,h=>by
   simp only[partsOf] at h;split at h
   ·rename_i v l' hv hl;injection h with h;subst h;simp[hr x v hv,sO hr hl]
   ·cases h
def o6 (P:Program):List Field->Option (List (Nat×Nat))
 | []=>some []
 | f::r=>match sz P f.type,o6 P r with
   | some n,some l=>some ((f.offset,n)::l)
   | _,_=>none
theorem wv {w:World}: ∀ {fs:List Field} {l:List (Nat×Nat)},o6 P fs=some l ->
  (fs.mapM (fun f=>do pure (f.offset,← sizeOf f.type)):Sem (List (Nat×Nat))).run P w=.ok l w
 | [],l,h=>by simp[o6] at h;subst h;simp
 | f::r,l,h=>by
   simp only[o6] at h;split at h
   ·rename_i n l' hn hl;injection h with h;subst h;have ih:=wv (w:=w) hl;simp at ih;simp[List.mapM_cons,bU hn,ih]
   ·cases h
def QD (P:Program)(σ:Operand->Option SV)(t:TypeId)(parts:List (Nat×Operand))(K:Option SV->VC):VC :=
 match P.underlying t,i6 P t,partsOf σ parts with
 | some (.struct fs),some (.agg zs),some ps=>(match o6 P fs.toList with
   | some pl=>(match xw (fun i=>pl[i]?) zs ps with
     | some out=>K (some (.agg out))
     | none=>.fail "build: fill")
   | none=>.fail "build: places")
 | some (.array _ e),some (.agg zs),some ps=>(match sz P e with
   | some m=>(match xw (fun i=>some (i*m,m)) zs ps with
     | some out=>K (some (.agg out))
     | none=>.fail "build: fill")
   | none=>.fail "build: places")
 | _,_,_=>.fail "build"
theorem aci {t:TypeId}{parts:Array (Nat×Operand)} :
  aM P look σ (fun ρ=>Instr.build t (parts.map fun(i,x)=>(i,ρ x))) (QD P σ t parts.toList):=by
 unfold QD;split
 ·rename_i fs zs ps hd hz hp;split
  ·rename_i pl hpl;split
   ·rename_i out hf;refine aM.v _ fun E w ρ hc hr=> ?_;have hm:(fs.mapM (fun f=>do pure (f.offset,← sizeOf f.type)):Sem (Array (Nat×Nat))).run P w=.ok pl.toArray w:=by have:=wv (P:=P) (w:=w) hpl;rw[Array.mapM_eq_mapM_toList];simp only[Sem.run_map,this,Result.andThen_ok]
    have hfill:=y8 (E:=E) ps zs out hf;have hparts:=sO hr hp;have hpp:(parts.map fun(x:Nat×Operand)=>(x.1,ρ x.2)).toList=ps.map fun p=>(p.1,p.2.val E):=by rw[← hparts];simp
    simp only[Instr.build,Sem.run_bind,eN (E:=E) hz,Result.andThen_ok,az hd,hm];simp only[SV.val,Value.cells,hpp,List.getElem?_toArray,hfill];rfl
   ·exact aM.fail _
  ·exact aM.fail _
 ·rename_i e zs ps hd hz hp;split
  ·rename_i m hm;split
   ·rename_i out hf;refine aM.v _ fun E w ρ hc hr=> ?_;have hfill:=y8 (E:=E) ps zs out hf;have hparts:=sO hr hp;have hpp:(parts.map fun(x:Nat×Operand)=>(x.1,ρ x.2)).toList=ps.map fun p=>(p.1,p.2.val E):=by rw[← hparts];simp
    simp only[Instr.build,Sem.run_bind,eN (E:=E) hz,Result.andThen_ok,az hd,bU hm];simp only[SV.val,Value.cells,hpp,hfill];rfl
   ·exact aM.fail _
  ·exact aM.fail _
 ·exact aM.fail _
end
end Go.Proofs.YtpaaiebohjjieaaGreatDoor.Sx
namespace Go.Proofs.YtpaaiebohjjieaaGreatDoor.Sx
open Go
noncomputable section
def n6 (d:List UInt8->Bool)(s:List UInt8):List UInt8->Bool:=fun t=>d t||decide (t=s)
def w5 (g:List UInt8->Int)(s:List UInt8)(n:Int):List UInt8->Int:=fun t=>bif decide (t=s)then n else g t
def acD (g:List UInt8->Value)(s:List UInt8)(v:Value):List UInt8->Value:=fun t=>bif decide (t=s)then v else g t
def aoU (g:List UInt8->Nat)(s:List UInt8)(n:Nat):List UInt8->Nat:=fun t=>bif decide (t=s)then n else g t
def dflt (b:Bool)(n:Int):Int:=bif b then n else 0
def apR (b:Bool)(v:Value):Value:=bif b then v else .pointer none
def fD.look (c:fD)(b:Bool)(s:List UInt8)(z:SV):Option SV:=match c,z with
 | .int k g,.int k' _ 0=>if k=k' then some (.int k false (dflt b (g s)))else none
 | .raw g,.cc=>some (.raw (apR b (g s)))
 | _,_=>none
def fD.set (c:fD)(s:List UInt8)(v:SV):Option fD:=match c,v with
 | .int k g,.int k' _ n=>if k=k' then some (.int k (w5 g s n))else none
 | .raw g,.raw u=>some (.raw (acD g s u))
 | .raw g,.cc=>some (.raw (acD g s (.pointer none)))
 | .ref k g,.iq _ a 0=>some (.ref k (aoU g s a))
 | _,_=>none
theorem U9 {s t:List UInt8}(h:sk s=sk t):s=t:=by simp only[sk,Value.string.injEq] at h;have:=congrArg ByteArray.data h;simpa using this
theorem Rd {α β:Type}{f:α->β}: ∀ {l:List α},(l.map f).Nodup->∀ {a b:α},a∈ l->b∈ l->f a=f b->a=b
 | [],_,a,b,h,_,_=>by cases h
 | x::r,hn,a,b,ha,hb,e=>by
   simp only[List.map_cons,List.nodup_cons,List.mem_map,not_exists,not_and] at hn;rcases List.mem_cons.1 ha with h1 | h1<;>rcases List.mem_cons.1 hb with h2 | h2
   ·exact h1.trans h2.symm
   ·subst h1;exact absurd e.symm (hn.1 b h2)
   ·subst h2;exact absurd e (hn.1 a h1)
   ·exact Rd hn.2 h1 h2 e
theorem fD.SU {c:fD}{b:Bool}{s:List UInt8}{z v:SV}(h:c.look b s z=some v)(E:Nat->Nat):v.val E=if b=true then c.val s else z.val E:=by
 unfold fD.look at h;split at h
 ·split at h
  ·rename_i e;subst e;injection h with h;subst h;cases b<;>rfl
  ·cases h
 ·injection h with h;subst h;cases b<;>rfl
 ·cases h
theorem fD.Q5 {c c':fD}{s:List UInt8}{v:SV}(h:c.set s v=some c')(E:Nat->Nat):c'.val s=v.val E/\∀ t,t≠s->c'.val t=c.val t:=by
 unfold fD.set at h;split at h
 ·split at h
  ·rename_i e;subst e;injection h with h;subst h;exact⟨by simp[fD.val,SV.val,w5],fun t ht=>by simp[fD.val,w5,ht]⟩
  ·cases h
 ·injection h with h;subst h;exact⟨by simp[fD.val,SV.val,acD],fun t ht=>by simp[fD.val,acD,ht]⟩
 ·injection h with h;subst h;exact⟨by simp[fD.val,SV.val,acD],fun t ht=>by simp[fD.val,acD,ht]⟩
 ·injection h with h;subst h;exact⟨by simp[fD.val,SV.val,aoU],fun t ht=>by simp[fD.val,aoU,ht]⟩
 ·cases h
theorem aiw (s:List UInt8):MapKept.IsKey .string (sk s):=trivial
theorem GY.find {d:List UInt8->Bool}{c:fD}{pend}{es:Array MapEntry}{clock:Nat}(h:GY d c pend es clock)(s:List UInt8) :
  (d s=false/\Instr.findNow .string (sk s) es.toList 0=some none/\∀ x∈ es.toList,x.key≠sk s) ∨
  (d s=true/\∃ j e,Instr.findNow .string (sk s) es.toList 0=some (some (j,c.val s))/\es[j]?=some e/\e.key=sk s/\e.val=c.val s):=by
 rcases MapKept.findNow_spec (aiw s) es.toList 0 h.ks with ⟨h1,h2⟩ | ⟨j,e,h1,h2,h3⟩
 ·cases hd:d s with
  | false=>exact .inl ⟨rfl,h1,h2⟩
  | true =>obtain⟨e,he,hk,_⟩:=h.has s hd;exact absurd hk (h2 e he)
 ·have hj:es[j]?=some e:=by simpa using h2
  have hm:e∈ es.toList:=List.mem_of_getElem? h2;cases hd:d s with
  | false=>exact absurd h3 (h.no s hd e hm)
  | true =>obtain⟨e',he',hk,hv⟩:=h.has s hd;have:=Rd h.st.2.2 he' hm (hk.trans h3.symm);subst this;exact .inr ⟨rfl,j,e',by rw[h1,Nat.zero_add,hv],hj,h3,hv⟩
theorem mem_modify {es:Array MapEntry}{i:Nat}{f:MapEntry->MapEntry}{x:MapEntry}:x∈ (es.modify i f).toList↔∃ j e,es[j]?=some e/\x=if i=j then f e else e:=by
 rw[List.mem_iff_getElem?];constructor
 ·rintro⟨j,hj⟩;rw[Array.getElem?_toList,Array.getElem?_modify] at hj;by_cases e:i=j
  ·rw[if_pos e] at hj;obtain⟨y,hy,rfl⟩:=Option.map_eq_some_iff.1 hj;exact⟨j,y,hy,by rw[if_pos e]⟩
  ·rw[if_neg e] at hj;exact⟨j,x,hj,by rw[if_neg e]⟩
 ·rintro⟨j,e,hj,rfl⟩;refine⟨j,?_⟩;rw[Array.getElem?_toList,Array.getElem?_modify,hj];by_cases e:i=j<;>simp[e]
theorem GY.put {d:List UInt8->Bool}{c c':fD}{pend}{es:Array MapEntry}{clock:Nat}(h:GY d c pend es clock){s:List UInt8}{u:Value}(hc:c'.val s=u/\∀ t,t≠s->c'.val t=c.val t)
  {j:Nat} {e:MapEntry} (hj:es[j]?=some e) (hk:e.key=sk s) {f:MapEntry->MapEntry} (hf:(f e).key=sk s/\(f e).val=u/\(f e).born=e.born) (hfb: ∀ x,(f x).born=x.born) (hd:d s=true) {pend'} (hp: ∀ t b,pend'=some (t,b)->t=s/\(e.born:Int)=b):GY (n6 d s) c' pend' (es.modify j f) clock:=by
 have hkey: ∀ e',es[j]?=some e'->(f e').key=e'.key:=fun e' he'=>by rw[hj] at he';cases he';rw[hf.1,hk]
 have hme:f e∈ (es.modify j f).toList:=mem_modify.2 ⟨j,e,hj,by rw[if_pos rfl]⟩;refine⟨MapKept.stamped_modify h.st _ _ (fun x _=>hfb x) (fun e' _ he'=>hkey e' he'),MapKept.isKey_modify h.ks _ _ hkey,fun t ht=> ?_,fun t ht x hx=> ?_,fun t b ht=> ?_⟩
 ·by_cases e1:t=s
  ·subst e1;exact⟨f e,hme,hf.1,by rw[hf.2.1,hc.1]⟩
  ·obtain⟨x,hx,hxk,hxv⟩:=h.has t (by simpa [n6,e1] using ht);rw[List.mem_iff_getElem?] at hx;obtain⟨i,hi⟩:=hx;rw[Array.getElem?_toList] at hi;have hne:j≠i:=fun e2=>by subst e2;rw[hj] at hi;cases hi;exact e1 (U9 (hxk.symm.trans hk))
   exact⟨x,mem_modify.2 ⟨i,x,hi,by rw[if_neg hne]⟩,hxk,by rw[hxv,hc.2 t e1]⟩
 ·have hts:t≠s/\d t=false:=by simp only[n6,Bool.or_eq_false_iff,decide_eq_false_iff_not] at ht;exact⟨ht.2,ht.1⟩
  obtain⟨i,y,hi,rfl⟩:=mem_modify.1 hx;have hy:y∈ es.toList:=List.mem_of_getElem? (by rw[Array.getElem?_toList];exact hi);by_cases e1:j=i
  ·rw[if_pos e1];subst e1;rw[hkey y hi];exact h.no t hts.2 y hy
  ·rw[if_neg e1];exact h.no t hts.2 y hy
 ·obtain⟨rfl,hb⟩:=hp t b ht;exact⟨f e,hme,by rw[hf.2.2];exact hb,hf.1⟩
theorem GY.add {d:List UInt8->Bool}{c c':fD}{pend}{es:Array MapEntry}{clock:Nat}(h:GY d c pend es clock){s:List UInt8}{u:Value}(hc:c'.val s=u/\∀ t,t≠s->c'.val t=c.val t)
  (hn: ∀ x∈ es.toList,x.key≠sk s) {pend'} (hp: ∀ t b,pend'=some (t,b)->t=s/\(clock:Int)=b):GY (n6 d s) c' pend' (es.push {key:=sk s,val:=u,born:=clock}) (clock+1):=by
 have mem: ∀ {x},x∈ (es.push {key:=sk s,val:=u,born:=clock}).toList↔x∈ es.toList∨x={key:=sk s,val:=u,born:=clock}:=by intro x;simp only[Array.toList_push,List.mem_append,List.mem_singleton]
 refine⟨MapKept.stamped_push h.st hn,fun x hx=> ?_,fun t ht=> ?_,fun t ht x hx=> ?_,fun t b ht=> ?_⟩
 ·rcases mem.1 hx with hx | rfl
  ·exact h.ks x hx
  ·trivial
 ·by_cases e1:t=s
  ·subst e1;exact⟨_,mem.2 (.inr rfl),rfl,hc.1.symm⟩
  ·obtain⟨x,hx,hxk,hxv⟩:=h.has t (by simpa [n6,e1] using ht);exact⟨x,mem.2 (.inl hx),hxk,by rw[hxv,hc.2 t e1]⟩
 ·simp only[n6,Bool.or_eq_false_iff,decide_eq_false_iff_not] at ht;rcases mem.1 hx with hx | rfl
  ·exact h.no t ht.1 x hx
  ·exact fun e1=>ht.2 (U9 e1.symm)
 ·obtain⟨rfl,hb⟩:=hp t b ht;exact⟨_,mem.2 (.inr rfl),hb,rfl⟩
theorem GY.nil (c:fD)(clock:Nat):GY (fun _=>false) c none #[] clock :=⟨MapKept.stamped_empty clock,by simp,(fun _ h=>by cases h),by simp,(fun _ _ h=>by cases h)⟩
end
end Go.Proofs.YtpaaiebohjjieaaGreatDoor.Sx
