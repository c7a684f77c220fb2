/- A part of the proof. -/
import Derived.Test.YtoibaecagklkaaaGreatDoorMa
import Derived.ChangeKeysEq
import Derived.Laws.Build
import Derived.BigFrame
open Array renaming ext'->cO,getElem?_modify->c4,getElem?_toList->a_
open Bool renaming and_eq_true->Y,false->D,false_and->c5,false_eq_true->S,not_false->c6,not_true->a!,or_eq_false_iff->c7,true->C
open ByteArray renaming data->eN,data_extract->eP,ext->c8,mk->O,size->Z
open Decidable renaming decide->J
open Go.Instr renaming build->b_,extract->c_,field->c!,fill->d_,findNow->d!,index->ag,least->an,missingMethod->b!,slice->ay,sliceAt->N,sliceBound->ec,sliceBounds->R,sureAddr->ct,typeAssert->T
open Go.Op renaming bytesLess->cx,eqFields->bf,eqItems->cy,equal->bl,equalIn->M,intArith->bn,intBits->V,intCmp->ef,intDiv->W,maxDepth->X,shift->cB,stringOp->bU
open Go.Result renaming andThen_ok->H
open Go.Sem renaming run_bind->G,run_ite->ei,run_pure->I
open List renaming filter_eq_nil_iff->cL,foldlM_cons->ej,foldlM_nil->ek,foldr_cons->en,getElem?_eq_getElem->ep,getElem?_toArray->er,map_cons->eu,mem_cons->ey,mem_iff_getElem?->ez,mem_of_getElem?->eA,range->eB
open Nat renaming add_assoc->eI,add_mul->eK,beq->Q,mul_one->eL
open Option renaming map->L,none->F,some->A
namespace Go.Proofs.YtoibaecagklkaaaGreatDoor
open Go Sx
variable {s:(Operand->Value)->Sem Value}{es:Array MapEntry}{ats:Array TypeId}{op:BinOp}{l' la lb:Bool}{b n:Int}{d:h_->Bool}{clock i:Nat}{x y:Operand}{ρ:Operand->Value}{P:Program}{a:SV}{t ty:TypeId}{w:World}{c c':iO}
namespace Sx
open Go
section
variable {P : Program} {look : vn} {σ : Operand-> Option SV}
def C0 (k:IntKind)(l:Bool)(n:Int)(K:Option SV->VC):VC :=
 match l with
 | true=>K (A (.int k C (k.wrap n)))
 | false=>match k.signed with
   | true=>.and (.atom (lo k<=n/\n<=hi k)) (K (A (.int k D n)))
   | false=>K (A (.int k D (n%md k)))
theorem vQ {k:IntKind}{l:Bool}
  (h: ∀ E w ρ,Compat E look w->Reads E σ ρ->(s ρ).run P w=.ok (.int k (k.wrap n)) w):bD P look σ s (C0 k l n):=by
 unfold C0;cases l with
 | true=>exact bD.v _ λE w ρ hc hr=>h E w ρ hc hr
 | false =>
   simp only;cases hs:k.signed with
   | true=>exact bD.atom λhb=>bD.v _ λE w ρ hc hr=>by rw[h E w ρ hc hr,E5 hb];rfl
   | false=>exact bD.v _ λE w ρ hc hr=>by rw[h E w ρ hc hr,awT hs];rfl
def avu (rem:Bool)(k:IntKind)(l:Bool)(a:Int)(l':Bool)(b:Int)(K:Option SV->VC):VC :=
 match l&&l' with
 | true=>if b=0 then .fail "division by zero" else(match rem with
   | true=>K (A (.int k C (a.tmod b)))
   | false=>K (A (.int k C (k.wrap (a.tdiv b)))))
 | false=>.and (.atom (0<=a/\a<=hi k/\0<b)) (match rem with
   | true=>K (A (.int k D (a%b)))
   | false=>K (A (.int k D (a/b))))
theorem Tc (k:IntKind):lo k<=0:=by cases k<;>simp[lo]
theorem ag4 {rem:Bool}{k:IntKind}{l:Bool}{a:Int}
  (h: ∀ E w ρ,Compat E look w->Reads E σ ρ->(s ρ).run P w=(W (if rem then .rem else .quo) k a b).run P w):bD P look σ s (avu rem k l a l' b):=by
 unfold avu;cases (l&&l')with
 | true =>
   refine bD.ite (λ_=>bD.fail _) λhb=> ?_;cases rem with
   | true=>exact bD.v _ λE w ρ hc hr=>by rw[h E w ρ hc hr];simp[W,hb,SV.val]
   | false=>exact bD.v _ λE w ρ hc hr=>by rw[h E w ρ hc hr];simp[W,hb,SV.val]
 | false =>
   refine bD.atom fun⟨h0,h1,h2⟩=> ?_;have hb:b≠0:=by omega
   cases rem with
   | true=>exact bD.v _ λE w ρ hc hr=>by rw[h E w ρ hc hr];simp[W,hb,SV.val,Int.tmod_eq_emod_of_nonneg h0]
   | false =>
     refine bD.v _ λE w ρ hc hr=> ?_;have e:k.wrap (a.tdiv b)=a/b:=by
      rw[Int.tdiv_eq_ediv_of_nonneg h0];have:a/b<=a:=Int.ediv_le_self b h0;have:0<=a/b:=Int.ediv_nonneg h0 (by omega)
      grind [E5,Tc]
     rw[h E w ρ hc hr];simp[W,hb,SV.val,e]
def WM (left:Bool)(k:IntKind)(l:Bool)(a:Int)(l':Bool)(b:Int)(K:Option SV->VC):VC :=
 match l' with
 | true=>if b<0 then .fail "negative shift" else(match left with
   | true=>C0 k l (a*(2^ (min b.toNat k.bits):Nat)) K
   | false=>K (A (.int k l (a/(2^ (min b.toNat k.bits):Nat)))))
 | false=>.fail "shift by a number that is not known"
theorem Ty {left:Bool}{k yk:IntKind}{l:Bool}{a:Int}
  (h: ∀ E w ρ,Compat E look w->Reads E σ ρ->(s ρ).run P w=(cB (if left then .shl else .shr) k a yk b).run P w):bD P look σ s (WM left k l a l' b):=by
 unfold WM;cases l' with
 | false=>exact bD.fail _
 | true =>
   refine bD.ite (λ_=>bD.fail _) λhb=> ?_;cases left with
   | true=>exact vQ λE w ρ hc hr=>by rw[h E w ρ hc hr];simp[cB,hb]
   | false =>
     refine bD.v _ λE w ρ hc hr=> ?_;rw[h E w ρ hc hr];simp only[cB,hb,if_false,S,I,SV.val]
     grind
def bitsOf (op:BinOp)(a b:Int):Int :=
 match op with
 | .and=>Int.ofNat (a.toNat &&& b.toNat)
 | .or=>Int.ofNat (a.toNat ||| b.toNat)
 | _=>Int.ofNat (a.toNat ^^^ b.toNat)
def Tx (op:BinOp)(k:IntKind)(l:Bool)(a b:Int)(K:Option SV->VC):VC :=
 match l with
 | true=>if 0<=a/\a<=hi k/\0<=b/\b<=hi k then K (A (.int k C (bitsOf op a b)))else .fail "bits: below zero"
 | false=>.and (.atom (0<=a/\a<=hi k/\0<=b/\b<=hi k)) (K (A (.int k D (bitsOf op a b))))
theorem hi_lt (k:IntKind):hi k<2^ k.bits:=by cases k<;>decide
theorem toNat_ofInt {w:Nat}{a:Int}(h0:0<=a)(h1:a<2^ w):(BitVec.ofInt w a).toNat=a.toNat:=by grind
theorem XO (hop:op=.and∨op=.or∨op=.xor){k:IntKind}{a:Int}(h:0<=a/\a<=hi k/\0<=b/\b<=hi k)(w:World) :
  (V op k a b).run P w=.ok (.int k (bitsOf op a b)) w:=by
 obtain⟨a0,a1,b0,b1⟩:=h;have hk:=hi_lt k;have ea:=toNat_ofInt (w:=k.bits) a0 (by omega);have eb:=toNat_ofInt (w:=k.bits) b0 (by omega)
 have la:a.toNat<2^ k.bits:=by have:(a.toNat:Int)<((2^ k.bits:Nat):Int):=by rw[Int.toNat_of_nonneg a0];push_cast;omega
                               exact_mod_cast this
 have lb:b.toNat<2^ k.bits:=by have:(b.toNat:Int)<((2^ k.bits:Nat):Int):=by rw[Int.toNat_of_nonneg b0];push_cast;omega
                               exact_mod_cast this
 have hh:(hi k).toNat+1=2^ k.bits∨(hi k).toNat+1=2^ (k.bits-1):=by cases k<;>simp[hi,IntKind.bits]
 have key: ∀ n:Nat,n<=(hi k).toNat->k.wrap (n:Int)=n:=λn hn=>E5 ⟨by have:=Tc k;omega,by
  have:0<=hi k:=by cases k<;>simp[hi]
  omega⟩
 have ba:a.toNat<=(hi k).toNat:=by omega
 have bb:b.toNat<=(hi k).toNat:=by omega
 have hand:a.toNat &&& b.toNat<=(hi k).toNat:=Nat.le_trans Nat.and_le_left ba;have two: ∃ m,(hi k).toNat+1=2^ m:=by rcases hh with h | h<;>exact⟨_,h⟩
 obtain⟨m,hm⟩:=two;have hor:a.toNat ||| b.toNat<=(hi k).toNat:=by have:=Nat.or_lt_two_pow (x:=a.toNat) (y:=b.toNat) (n:=m) (by omega) (by omega);omega
 have hxor:a.toNat ^^^ b.toNat<=(hi k).toNat:=by have:=Nat.xor_lt_two_pow (x:=a.toNat) (y:=b.toNat) (n:=m) (by omega) (by omega);omega
 rcases hop with rfl | rfl | rfl
 ·simp only[V,bitsOf,I,BitVec.toNat_and,ea,eb];rw[key _ hand];rfl
 ·simp only[V,bitsOf,I,BitVec.toNat_or,ea,eb];rw[key _ hor];rfl
 ·simp only[V,bitsOf,I,BitVec.toNat_xor,ea,eb];rw[key _ hxor];rfl
theorem H9 (hop:op=.and∨op=.or∨op=.xor){k:IntKind}{l:Bool}{a:Int}
  (h: ∀ E w ρ,Compat E look w->Reads E σ ρ->(s ρ).run P w=(V op k a b).run P w):bD P look σ s (Tx op k l a b):=by
 unfold Tx;cases l with
 | true=>exact bD.ite (λhb=>bD.v _ λE w ρ hc hr=>by rw[h E w ρ hc hr,XO hop hb];rfl) (λ_=>bD.fail _)
 | false=>exact bD.atom λhb=>bD.v _ λE w ρ hc hr=>by rw[h E w ρ hc hr,XO hop hb];rfl
def azS (op:BinOp)(k:IntKind)(l:Bool)(a:Int)(l':Bool)(b:Int)(K:Option SV->VC):VC :=
 match op with
 | .add=>C0 k (l&&l') (a+b) K
 | .sub=>C0 k (l&&l') (a-b) K
 | .mul=>C0 k (l&&l') (a*b) K
 | .quo=>avu D k l a l' b K
 | .rem=>avu C k l a l' b K
 | .and=>Tx .and k (l&&l') a b K
 | .or=>Tx .or k (l&&l') a b K
 | .xor=>Tx .xor k (l&&l') a b K
 | .eql=>K (A (.bool (l&&l') (J (a=b))))
 | .neq=>K (A (.bool (l&&l') (!decide (a=b))))
 | .lss=>K (A (.bool (l&&l') (J (a<b))))
 | .leq=>K (A (.bool (l&&l') (J (a<=b))))
 | .gtr=>K (A (.bool (l&&l') (J (b<a))))
 | .geq=>K (A (.bool (l&&l') (J (b<=a))))
 | _=>.fail "binOp: integers"
def apu:Int:=9223372036854775807
def cat (a b:h_):h_:=a++b
def azV (op:BinOp)(l:Bool)(a b:h_)(K:Option SV->VC):VC :=
 match op with
 | .add=>match l with
   | true=>if(a.length:Int)+b.length<=apu then K (A (.str C (a++b)))else .fail "a text that is too long"
   | false=>.and (.atom ((a.length:Int)+b.length<=9223372036854775807)) (K (A (.str D (cat a b))))
 | .eql=>K (A (.bool l (J (a=b))))
 | .neq=>K (A (.bool l (!decide (a=b))))
 | .lss=>K (A (.bool l (cx a b)))
 | .leq=>K (A (.bool l (cx a b||decide (a=b))))
 | .gtr=>K (A (.bool l (!(cx a b||decide (a=b)))))
 | .geq=>K (A (.bool l (!Op.bytesLess a b)))
 | _=>.fail "binOp: texts"
theorem Vg (a b:h_):(O a.toArray)++(O b.toArray)=O (a++b).toArray:=by apply c8;simp_all
theorem imax:IntKind.i64.max=9223372036854775807:=by decide
theorem avz {l:Bool}{a b:h_}
  (h: ∀ E w ρ,Compat E look w->Reads E σ ρ->(s ρ).run P w=(bU op ⟨a.toArray⟩ ⟨b.toArray⟩).run P w):bD P look σ s (azV op l a b):=by
 have he:(a==b)=J (a=b):=by grind
 have sa:(O a.toArray).size=a.length:=by simp[Z]
 have sb:(O b.toArray).size=b.length:=by simp[Z]
 unfold azV;cases op
 case add =>
  have go:(a.length:Int)+b.length<=9223372036854775807->∀ w,(bU .add ⟨a.toArray⟩ ⟨b.toArray⟩).run P w=.ok (.string ⟨(a++b).toArray⟩) w:=λhb w=>by simp only[bU,sa,sb,imax,Vg];simp_all
  cases l with
  | true=>exact bD.ite (λhb=>bD.v _ λE w ρ hc hr=>by rw[h E w ρ hc hr,go hb];rfl) (λ_=>bD.fail _)
  | false=>exact bD.atom λhb=>bD.v _ λE w ρ hc hr=>by rw[h E w ρ hc hr,go hb];rfl
 all_goals first
  | exact bD.fail _
  | (refine bD.v _ λE w ρ hc hr=> ?_;rw[h E w ρ hc hr];simp[bU,SV.val,he])
end
def yh (x:Bool×Bool)(y:Option (Bool×Bool)):Option (Bool×Bool) :=
 match x with
 | (C,D)=>A (C,D)
 | (l,b)=>match y with
   | some (l',b')=>A (l&&l',b&&b')
   | none=>F
def partOf (P:Program)(t:TypeId)(cs:List SV)(off:Nat):Option SV :=
 match P.underlying t with
 | none=>F
 | some d=>match lP d with
   | true=>match sz P t with
     | some n=>match nN cs off n with
       | some l=>A (.agg l)
       | none=>F
     | none=>F
   | false=>cs[off]?
theorem od {E:Nat->Nat}{cs:List SV}{off:Nat}{v:SV}(h:partOf P t cs off=A v) :
  (part t (SV.vals E cs).toArray off).run P w=.ok (v.val E) w:=by
 unfold partOf at h;split at h
 ·cases h
 ·rename_i d hd;split at h
  ·rename_i ha;split at h
   ·rename_i n hn;split at h
    ·rename_i l hl;injection h with h;subst h;have hg:=fY hl;simp only[part,G,fK hd,ha,H,if_true,dV hn,I,SV.val,SV.cF];congr 2;apply cO;simp only[Array.toList_extract,List.toList_toArray,List.extract_eq_take_drop];rw[show off+n-off=n by omega,List.map_drop.symm,List.map_take.symm];congr 1;apply List.ext_getElem?
     grind
    ·cases h
   ·cases h
  ·rename_i ha;simp only[part,G,fK hd,ha,H,SV.cF];simp[h]
def eqv (P:Program):Nat->TypeId->SV->SV->Option (Bool×Bool)
 | 0,_,_,_=>F
 | d+1,t,x,y =>
   match P.underlying t,x,y with
   | some .bool,.bool l a,.bool l' b=>A (l&&l',a==b)
   | some (.int _),.int k l a,.int k' l' b=>if k=k' then A (l&&l',J (a=b))else F
   | some .string,.str l a,.str l' b=>A (l&&l',J (a=b))
   | some (.pointer _),.eJ,.eJ=>A (C,C)
   | some (.pointer _),.eJ,.ptr .. =>A (C,D)
   | some (.pointer _),.ptr ..,.eJ=>A (C,D)
   | some (.pointer _),.eJ,.uI .. =>A (C,D)
   | some (.pointer _),.uI ..,.eJ=>A (C,D)
   | some (.pointer e),.ptr key ol o,.ptr key' ol' o'=>match sz P e with
     | some (_+1)=>if key=key' then A (ol&&ol',J (o=o'))else F
     | _=>F
   | some (.interface _),.cj,.cj=>A (C,C)
   | some (.interface _),.cj,.iface .. =>A (C,D)
   | some (.interface _),.iface ..,.cj=>A (C,D)
   | some (.interface _),.iface tx vx,.iface ty vy=>if tx=ty then(match P.info? tx with
      | some i=>if i.comparable then eqv P d tx vx vy else F
      | none=>F)else A (C,D)
   | some (.slice _),.bW,.bW=>A (C,C)
   | some (.slice _),.bW,.slc .. =>A (C,D)
   | some (.slice _),.slc ..,.bW=>A (C,D)
   | some (.slice _),.bW,.bY _ _ z _ n _=>A (!z,z&&Q n 0)
   | some (.slice _),.bY _ _ z _ n _,.bW=>A (!z,z&&Q n 0)
   | some (.map _ _),.mo,.mo=>A (C,C)
   | some (.map _ _),.map _,.mo=>A (C,D)
   | some (.func _ _ _),.lE,.lE=>A (C,C)
   | some (.func _ _ _),.lE,.func .. =>A (C,D)
   | some (.func _ _ _),.func ..,.lE=>A (C,D)
   | some (.struct fs),.agg xs,.agg ys=>if P.stoodInHeld t then F else
      fs.toList.foldr (λf acc=>if f.name= "_" then acc else match partOf P f.type xs f.offset,partOf P f.type ys f.offset with
       | some u,A v=>match eqv P d f.type u v with
         | some r=>yh r acc
         | none=>F
       | _,_=>F) (A (C,C))
   | some (.array len elem),.agg xs,.agg ys=>match sz P elem with
     | some n=>(eB len).foldr (λi acc=>match partOf P elem xs (i*n),partOf P elem ys (i*n)with
        | some u,A v=>match eqv P d elem u v with
          | some r=>yh r acc
          | none=>F
        | _,_=>F) (A (C,C))
     | none=>F
   | some (.pointer _),.eJ,.qi .. =>A (C,D)
   | some (.pointer _),.qi ..,.eJ=>A (C,D)
   | some (.slice _),.bW,.cT _ _ z _ _ n _=>A (D,z&&Q n 0)
   | some (.slice _),.cT _ _ z _ _ n _,.bW=>A (D,z&&Q n 0)
   | some (.pointer _),.eJ,.l7 .. =>A (C,D)
   | some (.pointer _),.l7 ..,.eJ=>A (C,D)
   | _,_,_=>F
theorem Vu {E:Nat->Nat}{d d':Nat}{xs ys:List SV}
  (ih: ∀ t x y l b,eqv P d t x y=A (l,b)->(M d' t (x.val E) (y.val E)).run P w=.ok b w/\(l=C->True)) :
  ∀(fs:List Field) (l b:Bool),fs.foldr (λf acc=>if f.name= "_" then acc else match partOf P f.type xs f.offset,partOf P f.type ys f.offset with
      | some u,A v=>match eqv P d f.type u v with
        | some r=>yh r acc
        | none=>F
      | _,_=>F) (A (C,C))=A (l,b)->
   (bf d' (SV.vals E xs).toArray (SV.vals E ys).toArray fs).run P w=.ok b w:=by
 intro fs;induction fs with
 | nil=>intro l b h;simp at h;obtain⟨rfl,rfl⟩:=h;simp[bf]
 | cons f r ihl =>
   intro l b h;simp only[en] at h;by_cases hn:f.name= "_"
   ·rw[o_ hn] at h;simp only[bf]
    grind
   ·rw[p_ hn] at h;simp only[bf];rw[o_ hn];split at h
    ·rename_i u v hu hv;split at h
     ·rename_i q hq;obtain⟨ql,qb⟩:=q;have hr:=(ih _ _ _ _ _ hq).1;simp only[G,od hu,od hv,H,hr,ei];cases qb with
      | false =>
        simp only[c6,if_true,I];unfold yh at h
        grind
      | true =>
        simp only[a!,S,if_false];unfold yh at h;split at h
        ·grind
        ·rename_i l0 b0 _ heq;injection heq with e1 e2;subst e1;subst e2;split at h
         ·rename_i l' b' hacc;injection h with h;injection h with _ h;simp at h;subst h;exact ihl _ _ hacc
         ·cases h
     ·cases h
    ·cases h
theorem Yi {E:Nat->Nat}{d d' n:Nat}{xs ys:List SV}
  (ih: ∀ t x y l b,eqv P d t x y=A (l,b)->(M d' t (x.val E) (y.val E)).run P w=.ok b w) :
  ∀(fs:List Nat) (l b:Bool),fs.foldr (λi acc=>match partOf P t xs (i*n),partOf P t ys (i*n)with
      | some u,A v=>match eqv P d t u v with
        | some r=>yh r acc
        | none=>F
      | _,_=>F) (A (C,C))=A (l,b)->
   (cy d' t n (SV.vals E xs).toArray (SV.vals E ys).toArray fs).run P w=.ok b w:=by
 intro fs;induction fs with
 | nil=>intro l b h;simp at h;obtain⟨rfl,rfl⟩:=h;simp[cy]
 | cons f r ihl =>
   intro l b h;simp only[en] at h;simp only[cy];split at h
   ·rename_i u v hu hv;split at h
    ·rename_i q hq;obtain⟨ql,qb⟩:=q;have hr:=ih _ _ _ _ _ hq;simp only[G,od hu,od hv,H,hr,ei];cases qb with
     | false =>
       simp only[c6,if_true,I];unfold yh at h
       grind
     | true =>
       simp only[a!,S,if_false];unfold yh at h;split at h
       ·grind
       ·rename_i l0 b0 _ heq;injection heq with e1 e2;subst e1;subst e2;split at h
        ·rename_i l' b' hacc;injection h with h;injection h with _ h;simp at h;subst h;exact ihl _ _ hacc
        ·cases h
    ·cases h
   ·cases h
set_option maxHeartbeats 2000000 in
theorem ago {E:Nat->Nat}: ∀(d:Nat) (t:TypeId) (x y:SV) (l b:Bool),eqv P d t x y=A (l,b)->∀ e,(M (d+e) t (x.val E) (y.val E)).run P w=.ok b w:=by
 intro d;induction d with
 | zero=>intro t x y l b h;simp[eqv] at h
 | succ d ih =>
   intro t x y l b h e;rw[show d+1+e=(d+e)+1 by omega];unfold eqv at h;split at h
   case h_1=>rename_i hd;injection h with h;injection h with _ h;subst h;simp[M,aL hd,SV.val]
   case h_2 =>
    rename_i k l0 a k' l1 b1 hd;split at h
    ·rename_i hk;subst hk;injection h with h;injection h with _ h;subst h;simp[M,aL hd,SV.val];by_cases e:a=b1<;>simp[e]
    ·cases h
   case h_3 =>rename_i l0 a l1 b1 hd;injection h with h;injection h with _ h;subst h;simp[M,aL hd,SV.val,beq_toListBytes];by_cases e:a=b1<;>simp[e]
   case h_9 =>
    rename_i el key ol o key' ol' o' hd;split at h
    ·rename_i n hn;split at h
     ·rename_i hk;subst hk;injection h with h;injection h with _ h;subst h;simp[M,aL hd,SV.val,dV hn,sameAddr];by_cases e:o=o'<;>simp[e]
     ·cases h
    ·cases h
   case h_13 =>
    rename_i ms tx vx ty vy hd;split at h
    ·rename_i ht;subst ht;split at h
     ·rename_i i hi;split at h
      ·rename_i hcmp;simp only[M,G,aL hd,SV.val,H,ne_eq,not_true_eq_false,if_false,rY hi,hcmp,a!,S];exact ih _ _ _ _ _ h e
      ·cases h
     ·cases h
    ·rename_i ht;injection h with h;injection h with _ h;subst h;simp[M,aL hd,SV.val,ht]
   case h_24 =>
    rename_i fs xs ys hd;split at h
    ·cases h
    ·rename_i hs;have hf:P.fieldsOf t=fs:=by simp[Program.fieldsOf,hd]
     have:=run_equalIn_struct (P:=P) w (d+e) t (SV.vals E xs).toArray (SV.vals E ys).toArray (by rw[hf];exact hd) (by simpa using hs);simp only[SV.val];rw[this,hf];exact Vu (λt x y l b hq=>⟨ih t x y l b hq e,λ_=>trivial⟩) fs.toList l b h
   case h_25 =>
    rename_i len elem xs ys hd;split at h
    ·rename_i n hn;have hn': ∃ i,P.info? elem=A i/\P.cellsOf elem=n:=by
      unfold sz at hn;split at hn
      ·rename_i i hi;injection hn with hn;exact⟨i,hi,by simp[Program.cellsOf,hi,hn]⟩
      ·cases hn
     obtain⟨i,hi,hc⟩:=hn';simp only[SV.val];rw[run_equalIn_array w (d+e) (SV.vals E xs).toArray (SV.vals E ys).toArray hd hi,hc];exact Yi (λt x y l b hq=>ih t x y l b hq e) (eB len) l b h
    ·cases h
   all_goals first
    | (cases h;done)
    | (rename_i z _ n _ hd;cases hz:z&&Q n 0<;>rw[hz] at h<;>injection h with h<;>injection h with _ h<;>subst h<;>simp only[M,G,aL hd,SV.val,H,hz,cond_true,cond_false]<;>rfl)
    | (rename_i z _ _ n _ hd;cases hz:z&&Q n 0<;>rw[hz] at h<;>injection h with h<;>injection h with _ h<;>subst h<;>simp only[M,G,aL hd,SV.val,H,hz,cond_true,cond_false]<;>rfl)
    | (rename_i hd;injection h with h;injection h with _ h;subst h;simp only[M,G,aL hd,SV.val,H];rfl)
    | (rename_i hd;injection h with h;injection h with _ h;subst h;simp[M,aL hd,SV.val];done)
section
variable {P : Program} {look : vn} {σ : Operand-> Option SV}
def isConst:Operand->Bool
 | .const _=>C
 | _=>D
def SV.gen:SV->Bool
 | .int .. | .str .. | .raw _=>D
 | _=>C
def vJ (P:Program)(t:TypeId)(c:Bool)(x y:SV):Bool :=
 x.gen&&y.gen&&(match x,y with
 | .cj,.cj=>c
 | .agg _,.agg _=>!P.eqGuardType P.depth t
 | _,_=>C)
theorem Fo {E:Nat->Nat}{b:SV}(h:vJ P t (isConst x||isConst y) a b=C) :
  (eqGuard op t x y (a.val E) (b.val E)).run P w=.ok () w:=by
 unfold eqGuard vJ at *;cases op
 all_goals try rfl
 all_goals
  simp only[a!,S,if_false];split at h
  ·simp only[Y] at h;have:=h.2;simp only[SV.val];cases x<;>cases y<;>simp_all [isConst]
  ·simp only[Y] at h;have:=h.2;simp only[SV.val];simp at this;simp[this]
  ·rename_i h1 h2
   cases a<;>cases b<;>simp only[SV.val]<;>first
    | rfl
    | (exact(by grind))
    | (exact(by grind))
    | (simp[SV.gen] at h;done)
theorem binOp_eql {E:Nat->Nat}{b:SV}(ha:a.gen=C)(_hb:b.gen=C) :
  binOp .eql t (a.val E) (b.val E)=(do pure (.bool (← bl t (a.val E) (b.val E))):Sem Value)/\
  binOp .neq t (a.val E) (b.val E)=(do pure (.bool (!(← bl t (a.val E) (b.val E)))):Sem Value):=by
 cases a<;>first | (simp[SV.gen] at ha;done) | (simp only[SV.val];exact⟨rfl,rfl⟩)
def azQ (P:Program)(op:BinOp)(t:TypeId)(c:Bool)(x y:SV)(K:Option SV->VC):VC :=
 match op,x,y with
 | .shl,.int k l a,.int _ l' b=>WM C k l a l' b K
 | .shr,.int k l a,.int _ l' b=>WM D k l a l' b K
 | op,.int k l a,.int k' l' b=>if k=k' then azS op k l a l' b K else .fail "binOp: kinds"
 | op,.str l a,.str l' b=>azV op (l&&l') a b K
 | .eql,x,y=>if vJ P t c x y then(match eqv P 50 t x y with
    | some (l,b)=>K (A (.bool l b))
    | none=>.fail "eql")else .fail "eql: guard"
 | .neq,x,y=>if vJ P t c x y then(match eqv P 50 t x y with
    | some (l,b)=>K (A (.bool l (!b)))
    | none=>.fail "neq")else .fail "neq: guard"
 | _,_,_=>.fail "binOp"
theorem avv {k:IntKind}{l:Bool}{a:Int}(h1:op≠.shl)(h2:op≠.shr)
  (h: ∀ E w ρ,Compat E look w->Reads E σ ρ->(s ρ).run P w=(binOp op 0 (.int k a) (.int k b)).run P w):bD P look σ s (azS op k l a l' b):=by
 unfold azS
 have hb: ∀ w,(binOp op 0 (.int k a) (.int k b)).run P w=(match op with
   | .add | .sub | .mul=>bn op k a b
   | .quo | .rem=>W op k a b
   | .and | .or | .xor | .andNot=>V op k a b
   | _=>ef op a b:Sem Value).run P w:=by
  intro w;cases op<;>first | (exact absurd rfl h1) | (exact absurd rfl h2) | simp[binOp]
 cases op
 case add=>exact vQ λE w ρ hc hr=>by rw[h E w ρ hc hr,hb];simp[bn]
 case sub=>exact vQ λE w ρ hc hr=>by rw[h E w ρ hc hr,hb];simp[bn]
 case mul=>exact vQ λE w ρ hc hr=>by rw[h E w ρ hc hr,hb];simp[bn]
 case quo=>grind [ag4]
 case rem=>grind [ag4]
 case and=>grind [H9]
 case or=>grind [H9]
 case xor=>grind [H9]
 case shl=>grind
 case shr=>grind
 case andNot=>exact bD.fail _
 all_goals (refine bD.v _ λE w ρ hc hr=> ?_;rw[h E w ρ hc hr,hb];simp[ef,SV.val])
 all_goals (by_cases e:a=b<;>simp[e])
theorem acz {u:TypeId}{k k':IntKind}{a:Int}:binOp op t (.int k a) (.int k' b)=binOp op u (.int k a) (.int k' b):=by cases op<;>rfl
theorem avr {_yt:TypeId}{b:SV}(hx:σ x=A a)(hy:σ y=A b) :
  bD P look σ (λρ=>do eqGuard op t x y (ρ x) (ρ y);binOp op t (ρ x) (ρ y)) (azQ P op t (isConst x||isConst y) a b):=by
 have hi: ∀ {k k':IntKind} {n m:Int} {w:World},(do eqGuard op t x y (.int k n) (.int k' m);binOp op t (.int k n) (.int k' m):Sem Value).run P w=(binOp op t (.int k n) (.int k' m)).run P w:=by
  intro k k' n m w;simp only[G];have:(eqGuard op t x y (.int k n) (.int k' m)).run P w=.ok () w:=by unfold eqGuard;split<;>simp
  rw[this];rfl
 unfold azQ;split
 ·rename_i k l n k' l' m;exact Ty (left:=C) (yk:=k') λE w ρ hc hr=>by rw[hr x _ hx,hr y _ hy];simp only[SV.val];rw[hi];rfl
 ·rename_i k l n k' l' m;exact Ty (left:=D) (yk:=k') λE w ρ hc hr=>by rw[hr x _ hx,hr y _ hy];simp only[SV.val];rw[hi];rfl
 ·rename_i op' k l n k' l' m h1 h2;refine bD.ite (λe=> ?_) (λ_=>bD.fail _);subst e;exact avv h1 h2 λE w ρ hc hr=>by rw[hr x _ hx,hr y _ hy];grind [acz,SV.val,hi]
 ·rename_i op' l n l' m;refine avz λE w ρ hc hr=> ?_;rw[hr x _ hx,hr y _ hy];simp only[SV.val,G];have:(eqGuard op t x y (.string ⟨n.toArray⟩) (.string ⟨m.toArray⟩)).run P w=.ok () w:=by unfold eqGuard;split<;>simp
  rw[this];cases op<;>rfl
 ·rename_i a' b' _ _;refine bD.ite (λhg=> ?_) (λ_=>bD.fail _);split
  ·rename_i l v he;refine bD.v _ λE w ρ hc hr=> ?_;have hq:=ago (E:=E) (w:=w) 50 t a b l v he (X-50);have hg':=hg;unfold vJ at hg';simp only[Y] at hg';rw[hr x _ hx,hr y _ hy];simp only[G,Fo hg,H];rw[(binOp_eql hg'.1.1 hg'.1.2).1];simp only[G,bl];rw[show X=50+(X-50)from rfl,hq];rfl
  ·exact bD.fail _
 ·rename_i a' b' _ _;refine bD.ite (λhg=> ?_) (λ_=>bD.fail _);split
  ·rename_i l v he;refine bD.v _ λE w ρ hc hr=> ?_;have hq:=ago (E:=E) (w:=w) 50 t a b l v he (X-50);have hg':=hg;unfold vJ at hg';simp only[Y] at hg';rw[hr x _ hx,hr y _ hy];simp only[G,Fo hg,H];rw[(binOp_eql hg'.1.1 hg'.1.2).2];simp only[G,bl];rw[show X=50+(X-50)from rfl,hq];rfl
  ·exact bD.fail _
 ·exact bD.fail _
def qun (op:UnOp)(x:SV)(K:Option SV->VC):VC :=
 match op,x with
 | .not,.bool l b=>K (A (.bool l (!b)))
 | .neg,.int k l n=>C0 k l (0-n) K
 | .xor,.int k l n=>(match k.signed with
   | false=>Tx .xor k l (hi k) n K
   | true=>.fail "unOp")
 | _,_=>.fail "unOp"
theorem azD {k:IntKind}(h:k.signed=D):k.max=hi k:=by cases k<;>first | rfl | (simp[IntKind.signed] at h;done)
theorem azW {op:UnOp}(hx:σ x=A a):bD P look σ (λρ=>Op.unary op (ρ x)) (qun op a):=by
 unfold qun;split
 ·exact bD.v _ λE w ρ hc hr=>by rw[hr x _ hx];rfl
 ·exact vQ λE w ρ hc hr=>by rw[hr x _ hx];rfl
 ·rename_i k l n;cases hs:k.signed with
  | true=>exact bD.fail _
  | false =>
    refine H9 (by grind) λE w ρ hc hr=> ?_;rw[hr x _ hx]
    grind [azD,SV.val,Op.unary]
 ·exact bD.fail _
def fits:IntKind->IntKind->Bool
 | .u8,.u16 | .u8,.u32 | .u8,.u64 | .u16,.u32 | .u16,.u64 | .u32,.u64=>C
 | a,b=>decide (a=b)
def ap7 (P:Program)(src dst:TypeId)(x:SV)(K:Option SV->VC):VC :=
 match P.underlying src,P.underlying dst,x with
 | some (.int j),A (.int k),.int _ l n=>match l|| !fits j k with
   | true=>C0 k l n K
   | false=>.and (.atom (lo k<=n/\n<=hi k)) (K (A (.int k D n)))
 | some .string,A .string,.str l s=>K (A (.str l s))
 | _,_,_=>.fail "convert"
theorem ap8 {src dst:TypeId}(hx:σ x=A a):bD P look σ (λρ=>convert src dst (ρ x)) (ap7 P src dst a):=by
 unfold ap7;split
 ·rename_i j k k' l n hs hd;have hrun: ∀ w,(convert src dst (.int k' n)).run P w=.ok (.int k (k.wrap n)) w:=λw=>by simp only[convert,G,aL hs,aL hd,H];rfl
  split
  ·exact vQ λE w ρ hc hr=>by rw[hr x _ hx];exact hrun w
  ·exact bD.atom λhb=>bD.v _ λE w ρ hc hr=>by rw[hr x _ hx];grind [E5,SV.val]
 ·rename_i l s hs hd;exact bD.v _ λE w ρ hc hr=>by rw[hr x _ hx];simp only[SV.val,convert,G,aL hs,aL hd,H];rfl
 ·exact bD.fail _
def GB (P:Program)(t:TypeId)(x:SV)(K:Option SV->VC):VC :=
 match P.concrete t with
 | true=>K (A (.iface t x))
 | false=>.fail "makeInterface"
theorem RG (hx:σ x=A a):bD P look σ (λρ=>Instr.makeInterface t (ρ x)) (GB P t a):=by
 unfold GB;split
 ·rename_i h;exact bD.v _ λE w ρ hc hr=>by rw[hr x _ hx,run_makeInterface w t _ h];rfl
 ·exact bD.fail _
def Yk (σ:Operand->Option SV):List Operand->Option (List SV)
 | []=>A []
 | x::r=>match σ x,Yk σ r with
   | some v,A l=>A (v::l)
   | _,_=>F
theorem agp {σ:Operand->Option SV}{E:Nat->Nat}{ρ:Operand->Value}(hr:Reads E σ ρ): ∀ {xs:List Operand} {l:List SV},Yk σ xs=A l->xs.map ρ=SV.vals E l
 | [],l,h=>by simp[Yk] at h;subst h;rfl
 | x::r,l,h=>by
   simp only[Yk] at h;split at h
   ·rename_i v l' hv hl;injection h with h;subst h;simp[SV.vals,hr x v hv,agp hr hl]
   ·cases h
theorem xR {σ:Operand->Option SV}{E:Nat->Nat}(hr:Reads E σ ρ){xs:Array Operand}{l:List SV}(h:Yk σ xs.toList=A l) :
  xs.map ρ=(SV.vals E l).toArray:=by
 rw[← agp hr h];grind
def KR (fn:Fn)(a b:Option (List SV))(K:Option SV->VC):VC :=
 match a,b with
 | some a,A b=>K (A (.func fn a b))
 | _,_=>.fail "makeFunc"
theorem WL {fn:Fn}{xs ys:Array Operand}:bD P look σ (λρ=>Instr.makeFunc fn (xs.map ρ) (ys.map ρ)) (KR fn (Yk σ xs.toList) (Yk σ ys.toList)):=by
 unfold KR;split
 ·rename_i a b ha hb;exact bD.v _ λE w ρ hc hr=>by rw[xR hr ha,xR hr hb];rfl
 ·exact bD.fail _
def PF (x:SV)(i:Nat)(K:Option SV->VC):VC :=
 match x with
 | .dr vs=>(match vs[i]? with
   | some v=>K (A v)
   | none=>.fail "extract")
 | _=>.fail "extract: no tuple"
theorem ZZ (hx:σ x=A a):bD P look σ (λρ=>c_ (ρ x) i) (PF a i):=by
 unfold PF;split
 ·rename_i vs;split
  ·rename_i v hv;refine bD.v _ λE w ρ hc hr=> ?_;rw[hr x _ hx];simp[SV.val,c_,SV.cF,hv]
  ·exact bD.fail _
 ·exact bD.fail _
def aeJ (P:Program)(t:TypeId)(x:SV)(f:Nat)(K:Option SV->VC):VC :=
 match P.underlying t,x with
 | some (.struct fs),.agg cs=>(match fs[f]? with
   | some fd=>(match partOf P fd.type cs fd.offset with
     | some v=>K (A v)
     | none=>.fail "field: no such part")
   | none=>.fail "field: no such field")
 | _,_=>.fail "field"
theorem akX {f:Nat}(hx:σ x=A a):bD P look σ (λρ=>c! t (ρ x) f) (aeJ P t a f):=by
 unfold aeJ;split
 ·rename_i fs cs hd;split
  ·rename_i fd hf;split
   ·rename_i v hv;refine bD.v _ λE w ρ hc hr=> ?_;rw[hr x _ hx];simp[SV.val,c!,aL hd,hf,asAgg,od hv]
   ·exact bD.fail _
  ·exact bD.fail _
 ·exact bD.fail _
def ah (s:h_)(i:Int):Int:=((s.getD i.toNat 0).toNat:Int)
def aeK (P:Program)(t:TypeId)(x i:SV)(K:Option SV->VC):VC :=
 match P.underlying t,x,i with
 | some .string,.str l s,.int _ l' n=>(match l&&l' with
   | true=>if 0<=n/\n<s.length then K (A (.int .u8 C (ah s n)))else .fail "index out of range"
   | false=>.and (.atom (0<=n/\n<s.length)) (K (A (.int .u8 D (ah s n)))))
 | some (.array len e),.agg cs,.int _ C n=>(match sz P e with
   | some m=>if 0<=n/\n<len then(match partOf P e cs (n.toNat*m)with
     | some v=>K (A v)
     | none=>.fail "index: no such part")else .fail "index out of range"
   | none=>.fail "index")
 | some (.array len e),.agg cs,.int _ D n=>(match sz P e,P.underlying e with
   | some 1,A .string=>(match yR cs with
     | some ss=>.and (.atom (0<=n/\n<len/\n<ss.length)) (K (A (.str D (l9 ss n.toNat))))
     | none=>.fail "index: no texts")
   | _,_=>.fail "index")
 | _,_,_=>.fail "index"
theorem Jn {E:Nat->Nat}(hd:P.underlying t=A .string){l:Bool}{s:h_}{k:IntKind}(h:0<=n/\n<s.length) :
  (ag t ((SV.str l s).val E) ((SV.int k l' n).val E)).run P w=.ok (.int .u8 (ah s n)) w:=by
 have hn:n.toNat<s.length:=by omega
 simp only[SV.val,ag,asIntOf,G,I,H,aL hd,h.1,if_true];have e:(O s.toArray)[n.toNat]?=A s[n.toNat]:=by rw[getElem?_pos (O s.toArray) n.toNat (by grind [Z])];rfl
 simp_all [Sx.ah]
theorem akY {i:Operand}{b:SV}(hx:σ x=A a)(hi:σ i=A b):bD P look σ (λρ=>ag t (ρ x) (ρ i)) (aeK P t a b):=by
 unfold aeK;split
 ·rename_i l s k l' n hd;split
  ·exact bD.ite (λh=>bD.v _ λE w ρ hc hr=>by rw[hr x _ hx,hr i _ hi];exact Jn hd h) (λ_=>bD.fail _)
  ·exact bD.atom λh=>bD.v _ λE w ρ hc hr=>by rw[hr x _ hx,hr i _ hi];exact Jn hd h
 ·rename_i len e cs k n hd;split
  ·rename_i m hm;refine bD.ite (λh=> ?_) (λ_=>bD.fail _);split
   ·rename_i v hv;refine bD.v _ λE w ρ hc hr=> ?_;rw[hr x _ hx,hr i _ hi];simp[SV.val,ag,asIntOf,aL hd,h.1,h.2,dV hm,od hv]
   ·exact bD.fail _
  ·exact bD.fail _
 ·rename_i len e cs k n hd;split
  ·rename_i hm he;split
   ·rename_i ss hss;refine bD.atom λh=>bD.v _ λE w ρ hc hr=> ?_;have hl:n.toNat<cs.length:=by rw[← GS hss];omega
    obtain⟨b,hb⟩:=xA hss n.toNat _ (ep hl);have hv:partOf P e cs (n.toNat*1)=A (.str b (l9 ss n.toNat)):=by simp only[partOf,he,lP,eL];rw[ep hl,hb]
    have hp:=od (E:=E) (w:=w) hv;rw[hr x _ hx,hr i _ hi];rw[eL] at hp;simp[SV.val,ag,asIntOf,aL hd,h.1,h.2.1,dV hm,hp]
   ·exact bD.fail _
  ·exact bD.fail _
 ·exact bD.fail _
end
end Sx
namespace Sx
open Go
section
variable {P : Program} {look : vn} {σ : Operand-> Option SV}
def bound (σ:Operand->Option SV)(d:Bool×Int):Option Operand->Option (Bool×Int)
 | none=>A d
 | some x=>match σ x with
   | some (.int _ l n)=>A (l,n)
   | _=>F
def bT (s:h_):Option Operand->Option Operand->Int->Int->h_
 | none,F,_,_=>s
 | none,A _,_,h=>s.take h.toNat
 | some _,F,l,_=>s.drop l.toNat
 | some _,A _,l,h=>(s.drop l.toNat).take (h.toNat-l.toNat)
def E7 (l:Bool)(c:Prop)[Decidable c](t:VC):VC :=
 match l with
 | true=>if c then t else .fail "a bound"
 | false=>.and (.atom c) t
theorem bD.E7 {l:Bool}{c:Prop}[Decidable c]{t:QT}(h:c->bD P look σ s t):bD P look σ s (λK=>Sx.E7 l c (t K)):=by
 unfold Sx.E7;cases l
 ·exact bD.atom h
 ·exact bD.ite h (λ_=>bD.fail _)
def zF (σ:Operand->Option SV)(l:Bool)(s:h_)(lo hi:Option Operand)(K:Option SV->VC):VC :=
 match bound σ (C,0) lo,bound σ (l,s.length) hi with
 | some (l1,a),A (l2,b)=>E7 (l&&l1&&l2) (0<=a/\a<=b/\b<=s.length) (K (A (.str (l&&l1&&l2) (bT s lo hi a b))))
 | _,_=>.fail "slice of a text"
def s9 (σ:Operand->Option SV)(m:Nat)(_arr:Bool)(key o n:Nat)(cl:Bool)(c:Nat)(lo hi:Option Operand)(K:Option SV->VC):VC :=
 match bound σ (C,0) lo,bound σ (C,n) hi with
 | some (C,a),A (C,b)=>E7 C (0<=a/\a<=b) (E7 cl (b<=c) (match cl with
   | true=>K (A (.slc key (if c=a.toNat then o else o+a.toNat*m) (b.toNat-a.toNat) cl (c-a.toNat)))
   | false=>fork (J (c=a.toNat)) (λe=>match e with
     | true=>K (A (.slc key o (b.toNat-a.toNat) cl (c-a.toNat)))
     | false=>K (A (.slc key (o+a.toNat*m) (b.toNat-a.toNat) cl (c-a.toNat))))))
 | _,_=>.fail "slice: bounds that are not known"
def W2 (lo:Option Operand)(i c a:Nat):Nat:=match lo with
 | none=>i
 | some _=>if c=a then i else i+a
theorem UB {lo:Option Operand}{c:Nat}{a:Int}(ha:bound σ (C,0) lo=A (la,a)):W2 lo i c a.toNat=if c=a.toNat then i else i+a.toNat:=by
 cases lo with
 | none =>simp only[bound] at ha;injection ha with ha;injection ha with _ ha;subst ha;simp[W2]
 | some _=>rfl
def s8 (σ:Operand->Option SV)(key w i n c:Nat)(lo hi:Option Operand)(K:Option SV->VC):VC :=
 match bound σ (C,0) lo,bound σ (D,n) hi with
 | some (_,a),A (_,b)=>.and (.atom (0<=a/\a<=b/\b<=c)) (K (A (.bY key w D (W2 lo i c a.toNat) (b.toNat-a.toNat) (c-a.toNat))))
 | _,_=>.fail "slice: bounds"
def wG (σ:Operand->Option SV)(key w o i n c:Nat)(lo hi:Option Operand)(K:Option SV->VC):VC :=
 match bound σ (C,0) lo,bound σ (D,n) hi with
 | some (_,a),A (_,b)=>.and (.atom (0<n/\0<=a/\a<=b/\b<=c)) (K (A (.cT key w D o (W2 lo i c a.toNat) (b.toNat-a.toNat) (c-a.toNat))))
 | _,_=>.fail "slice: bounds"
def Ey (σ:Operand->Option SV)(n:Nat)(lo hi:Option Operand):Bool :=
 match bound σ (C,0) lo,bound σ (C,n) hi with
 | some (C,_),A (C,_)=>C
 | _,_=>D
def zE (σ:Operand->Option SV)(key o n:Nat)(lo hi:Option Operand)(K:Option SV->VC):VC :=
 match bound σ (C,0) lo,bound σ (C,n) hi with
 | some (_,a),A (_,b)=>.and (.atom (0<=a/\a<=b/\b<=n)) (fork (J (n=a.toNat)) (λe=>match e with
    | true=>K (A (.bY key 1 D o (b.toNat-a.toNat) (n-a.toNat)))
    | false=>K (A (.bY key 1 D (o+a.toNat) (b.toNat-a.toNat) (n-a.toNat)))))
 | _,_=>.fail "slice: bounds"
def A2 (σ:Operand->Option SV)(m:Nat)(key o n c:Nat)(lo hi:Option Operand)(mx:Operand)(K:Option SV->VC):VC :=
 match hi,bound σ (C,0) lo,bound σ (C,n) hi,bound σ (C,c) (A mx)with
 | some _,A (C,a),A (C,b),A (C,z)=>E7 C (0<=a/\a<=b/\b<=z/\z<=c)
    (K (A (.slc key (if z.toNat=a.toNat then o else o+a.toNat*m) (b.toNat-a.toNat) C (z.toNat-a.toNat))))
 | _,_,_,_=>.fail "slice: bounds that are not known"
def WN (P:Program)(σ:Operand->Option SV)(t:TypeId)(x:Option SV)(lo hi mx:Option Operand)(K:Option SV->VC):VC :=
 match mx,P.underlying t,x with
 | none,A .string,A (.str l s)=>zF σ l s lo hi K
 | none,A (.array n e),A (.ptr key C o)=>(match sz P e with
   | some m=>(match !Ey σ n lo hi&&Q m 1 with
     | true=>zE σ key o n lo hi K
     | false=>s9 σ m C key o n C n lo hi K)
   | none=>.fail "slice")
 | some z,A (.array n e),A (.ptr key C o)=>(match sz P e with
   | some m=>A2 σ m key o n n lo hi z K
   | none=>.fail "slice")
 | some z,A (.slice e),A (.slc key o n C c)=>(match sz P e with
   | some m=>A2 σ m key o n c lo hi z K
   | none=>.fail "slice")
 | none,A (.slice e),A (.slc key o n cl c)=>(match sz P e with
   | some m=>s9 σ m D key o n cl c lo hi K
   | none=>.fail "slice")
 | none,A (.slice e),A (.bY key w z i n c)=>(match sz P e with
   | some m=>if m=w then(match z with
     | true=>.and (.atom (0<n)) (s8 σ key w i n c lo hi K)
     | false=>s8 σ key w i n c lo hi K)else .fail "slice: another row"
   | none=>.fail "slice")
 | none,A (.slice e),A (.cT key w _ o i n c)=>(match sz P e with
   | some m=>if m=w then wG σ key w o i n c lo hi K else .fail "slice: another row"
   | none=>.fail "slice")
 | _,_,_=>.fail "slice"
theorem vE {E:Nat->Nat}(hr:Reads E σ ρ){d:Bool×Int}{l:Bool}
  (h:bound σ d (A x)=A (l,n)) {y:Nat} {code:BoundsCode} (h0:0<=n) (h1:n<=y):(ec (ρ x) y code).run P w=.ok n.toNat w:=by
 simp only[bound] at h;split at h
 ·rename_i k l' n' hx;injection h with h;injection h with _ h;subst h;rw[hr x _ hx];simp[SV.val,ec,asIntOf,h0,h1]
 ·cases h
theorem sR {E:Nat->Nat}(hr:Reads E σ ρ){isSlice:Bool}{n c:Nat}{lo hi:Option Operand}{ld:Bool}{a:Int}
  (ha:bound σ (C,0) lo=A (la,a)) (hb:bound σ (ld,(n:Int)) hi=A (lb,b)) (h0:0<=a) (h1:a<=b) (h2:b<=c) :
  (R isSlice n c (lo.map ρ) (hi.map ρ) F).run P w=.ok (a.toNat,b.toNat,c) w:=by
 cases hi with
 | none =>
   simp only[bound] at hb;injection hb with hb;injection hb with _ hb;subst hb;cases lo with
   | none =>simp only[bound] at ha;injection ha with ha;injection ha with _ ha;subst ha;simp[R]
   | some x =>have hx:=λcode=>vE (P:=P) (w:=w) hr ha (y:=n) (code:=code) h0 h1;simp[R,hx]
 | some y =>
   have hy:=λcode=>vE (P:=P) (w:=w) hr hb (y:=c) (code:=code) (by omega) h2;cases lo with
   | none =>simp only[bound] at ha;injection ha with ha;injection ha with _ ha;subst ha;simp[R,hy]
   | some x =>have hx:=λcode=>vE (P:=P) (w:=w) hr ha (y:=b.toNat) (code:=code) h0 (by omega);simp[R,hy,hx]
theorem Ly {E:Nat->Nat}(hr:Reads E σ ρ){isSlice:Bool}{n c:Nat}{lo:Option Operand}{hi mx:Operand}{ld lz:Bool}{a z:Int}
  (ha:bound σ (C,0) lo=A (la,a)) (hb:bound σ (ld,(n:Int)) (A hi)=A (lb,b)) (hz:bound σ (C,(c:Int)) (A mx)=A (lz,z)) (h0:0<=a) (h1:a<=b) (h2:b<=z) (h3:z<=c) :
  (R isSlice n c (lo.map ρ) (A (ρ hi)) (A (ρ mx))).run P w=.ok (a.toNat,b.toNat,z.toNat) w:=by
 have hmz:=λcode=>vE (P:=P) (w:=w) hr hz (y:=c) (code:=code) (by omega) h3;have hy:=λcode=>vE (P:=P) (w:=w) hr hb (y:=z.toNat) (code:=code) (by omega) (by omega);cases lo with
 | none =>simp only[bound] at ha;injection ha with ha;injection ha with _ ha;subst ha;simp[R,hmz,hy]
 | some x =>have hx:=λcode=>vE (P:=P) (w:=w) hr ha (y:=b.toNat) (code:=code) h0 (by omega);simp[R,hmz,hy,hx]
theorem Fi (s:h_)(l h:Nat):(O s.toArray).extract l h=⟨((s.drop l).take (h-l)).toArray⟩:=by apply c8;rw[eP];simp
theorem alB {σ:Operand->Option SV}{s:h_}{ls:Bool}{lo hi:Option Operand}{a:Int}
  (ha:bound σ (C,0) lo=A (la,a)) (hb:bound σ (ls,(s.length:Int)) hi=A (lb,b)) (h:0<=a/\a<=b/\b<=s.length) :
  (s.drop a.toNat).take (b.toNat-a.toNat)=bT s lo hi a b:=by
 cases lo with
 | none =>
   simp only[bound] at ha;injection ha with ha;injection ha with _ ha;subst ha;cases hi with
   | none=>simp only[bound] at hb;injection hb with hb;injection hb with _ hb;subst hb;simp[bT]
   | some y=>simp[bT]
 | some x =>
   cases hi with
   | none =>simp only[bound] at hb;injection hb with hb;injection hb with _ hb;subst hb;simp only[bT];rw[List.take_of_length_le];simp
   | some y=>rfl
theorem ak0 {t0:TypeId}{lo hi mx:Option Operand} :
  bD P look σ (λρ=>N t0 (ρ x) (lo.map ρ) (hi.map ρ) (mx.map ρ)) (WN P σ t0 (σ x) lo hi mx):=by
 unfold WN;split
 ·rename_i l s hd hx;unfold zF;split
  ·rename_i l1 a l2 b ha hb;refine bD.E7 λh=>bD.v _ λE w ρ hc hr=> ?_;have hs:(O s.toArray).size=s.length:=by simp[Z]
   have:=sR (P:=P) (w:=w) hr (isSlice:=D) (c:=s.length) ha hb h.1 h.2.1 h.2.2;simp only[hr x _ hx,SV.val,N,G,aL hd,H,ay,L,hs];simp only[L] at this;simp only[Option.isSome_none,S,if_false,G];rw[this];simp only[H,I,Fi,alB ha hb h]
  ·exact bD.fail _
 ·rename_i n e key o hd hx;split
  ·rename_i m hm;split
   ·rename_i hlit;have hm1:m=1:=by simp at hlit;exact hlit.2
    subst hm1;unfold zE;split
    ·rename_i l1 a l2 b ha hb;refine bD.atom λh=>bD.fork ?_
     have main: ∀ E w ρ,Reads E σ ρ->(N t0 (ρ x) (lo.map ρ) (hi.map ρ) ((F:Option Operand).map ρ)).run P w =
       .ok ((SV.bY key 1 D (if n=a.toNat then o else o+a.toNat) (b.toNat-a.toNat) (n-a.toNat)).val E) w:=by
      intro E w ρ hr;have:=sR (P:=P) (w:=w) hr (isSlice:=D) (c:=n) ha hb h.1 h.2.1 h.2.2;simp only[L] at this;simp only[hr x _ hx,SV.val,N,G,aL hd,H,L,ct,I,this,dV hm,fS];split<;>simp
     by_cases hca:n=a.toNat
     ·rw[k_ hca];refine bD.v _ λE w ρ hc hr=> ?_;have:=main E w ρ hr;rw[o_ hca] at this;exact this
     ·rw[l_ hca];refine bD.v _ λE w ρ hc hr=> ?_;have:=main E w ρ hr;rw[p_ hca] at this;exact this
    ·exact bD.fail _
   ·unfold s9;split
    ·rename_i a b ha hb;refine bD.E7 λh=>bD.E7 λh'=>bD.v _ λE w ρ hc hr=> ?_;have:=sR (P:=P) (w:=w) hr (isSlice:=D) (c:=n) ha hb h.1 h.2 h';simp only[L] at this;simp only[hr x _ hx,SV.val,N,G,aL hd,H,L,ct,I,this,dV hm,fS];split<;>rfl
    ·exact bD.fail _
  ·exact bD.fail _
 ·rename_i z n e key o hd hx;split
  ·rename_i m hm;unfold A2;split
   ·rename_i y a b c ha hz hb;refine bD.E7 λh=>bD.v _ λE w ρ hc hr=> ?_;have:=Ly (P:=P) (w:=w) hr (isSlice:=D) (c:=n) ha hb hz h.1 h.2.1 h.2.2.1 h.2.2.2;simp only[L] at this;simp only[hr x _ hx,SV.val,N,G,aL hd,H,L,ct,I,this,dV hm,fS];split<;>rfl
   ·exact bD.fail _
  ·exact bD.fail _
 ·rename_i z e key o n c hd hx;split
  ·rename_i m hm;unfold A2;split
   ·rename_i y a b c' ha hz hb;refine bD.E7 λh=>bD.v _ λE w ρ hc hr=> ?_;have:=Ly (P:=P) (w:=w) hr (isSlice:=C) (c:=c) ha hb hz h.1 h.2.1 h.2.2.1 h.2.2.2;simp only[L] at this;simp only[hr x _ hx,SV.val,N,G,aL hd,H,L,ay,this,dV hm,fS,I];split<;>rfl
   ·exact bD.fail _
  ·exact bD.fail _
 ·rename_i e key o n cl c hd hx;split
  ·rename_i m hm
   have main: ∀ {la lb:Bool} {a b:Int},bound σ (C,0) lo=A (la,a)->bound σ (C,(n:Int)) hi=A (lb,b)->0<=a->a<=b->b<=c->
     ∀ E w ρ,Reads E σ ρ->(N t0 (ρ x) (lo.map ρ) (hi.map ρ) ((F:Option Operand).map ρ)).run P w =
       .ok ((SV.slc key (if c=a.toNat then o else o+a.toNat*m) (b.toNat-a.toNat) cl (c-a.toNat)).val E) w:=by
    intro la lb a b ha hb h0 h1 h2 E w ρ hr;have:=sR (P:=P) (w:=w) hr (isSlice:=C) (c:=c) ha hb h0 h1 h2;simp only[L] at this;simp only[hr x _ hx,SV.val,N,G,aL hd,H,L,ay,this,dV hm,fS,I];split<;>rfl
   unfold s9;split
   ·rename_i a b ha hb;refine bD.E7 λh=>bD.E7 λh'=> ?_;cases cl with
    | true=>exact bD.v _ λE w ρ hc hr=>main ha hb h.1 h.2 h' E w ρ hr
    | false =>
      refine bD.fork ?_;by_cases hca:c=a.toNat
      ·rw[k_ hca];refine bD.v _ λE w ρ hc hr=> ?_;have:=main ha hb h.1 h.2 h' E w ρ hr;rw[o_ hca] at this;exact this
      ·rw[l_ hca];refine bD.v _ λE w ρ hc hr=> ?_;have:=main ha hb h.1 h.2 h' E w ρ hr;rw[p_ hca] at this;exact this
   ·exact bD.fail _
  ·exact bD.fail _
 ·rename_i e key w0 z i n c hd hx;split
  ·rename_i m hm;refine bD.ite (λhmw=> ?_) (λ_=>bD.fail _);subst hmw;have hx':(z&&Q n 0)=D->∀(E:Nat->Nat) (ρ:Operand->Value),Reads E σ ρ->ρ x=(SV.bY key m D i n c).val E:=λh E ρ hr=>by rw[hr x _ hx];simp[SV.val,h]
   have core:(∀(E:Nat->Nat) (ρ:Operand->Value),Reads E σ ρ->ρ x=(SV.bY key m D i n c).val E)->bD P look σ (λρ=>N t0 (ρ x) (lo.map ρ) (hi.map ρ) ((F:Option Operand).map ρ)) (s8 σ key m i n c lo hi):=λhx=>by
    unfold s8;split
    ·rename_i l1 a l2 b ha hb;refine bD.atom λh=>bD.v _ λE w ρ hc hr=> ?_;have:=sR (P:=P) (w:=w) hr (isSlice:=C) (c:=c) ha hb h.1 h.2.1 h.2.2;simp only[L] at this;rw[UB ha];simp only[hx E ρ hr,SV.val,c5,cond_false,N,G,aL hd,H,L,ay,this,dV hm,fS,I];split
     ·rfl
     ·simp[eK]
    ·exact bD.fail _
   cases z with
   | true=>exact bD.atom λh0=>core λE ρ hr=>hx' (by cases n with | zero=>omega | succ n=>rfl) E ρ hr
   | false=>exact core λE ρ hr=>hx' rfl E ρ hr
  ·exact bD.fail _
 ·rename_i e key w0 z o i n c hd hx;split
  ·rename_i m hm;refine bD.ite (λhmw=> ?_) (λ_=>bD.fail _);subst hmw;unfold wG;split
   ·rename_i l1 a l2 b ha hb;refine bD.atom λh=>bD.v _ λE w ρ hc hr=> ?_;have hx':ρ x=(SV.cT key m D o i n c).val E:=by
     rw[hr x _ hx];have hz:(z&&Q n 0)=false:=by cases n with | zero=>omega | succ n=>simp[Q]
     simp[SV.val,hz]
    have:=sR (P:=P) (w:=w) hr (isSlice:=C) (c:=c) ha hb h.2.1 h.2.2.1 h.2.2.2;simp only[L] at this;rw[UB ha];simp only[hx',SV.val,c5,cond_false,N,G,aL hd,H,L,ay,this,dV hm,fS,I];split
    ·rfl
    ·simp[eK,eI]
   ·exact bD.fail _
  ·exact bD.fail _
 ·exact bD.fail _
end
end Sx
namespace Sx
open Go
section
variable {P : Program} {look : vn} {σ : Operand-> Option SV}
def mO (P:Program)(t:TypeId):Option SV :=
 match P.info? t with
 | some i=>(match i.zero with
   | some v=>SV.ofConst v
   | none=>F)
 | none=>F
theorem i6 {E:Nat->Nat}{v:SV}(h:mO P t=A v):(zeroValue t).run P w=.ok (v.val E) w:=by
 unfold mO at h;split at h
 ·rename_i i hi;split at h
  ·rename_i z hz;simp[zeroValue,rY hi,hz,SV.LN (E:=E) h]
  ·cases h
 ·cases h
def G5 (ok:Bool)(v:SV)(K:Option SV->VC):VC :=
 match ok with
 | true=>K (A (.dr [v,.bool C C]))
 | false=>K (A v)
def Cm (P:Program)(at_:TypeId)(ok:Bool)(K:Option SV->VC):VC :=
 match ok with
 | true=>(match mO P at_ with
   | some z=>K (A (.dr [z,.bool C D]))
   | none=>.fail "typeAssert: no zero")
 | false=>.fail "typeAssert fails"
theorem Cn {at_:TypeId}{ok:Bool}(h: ∀ E w ρ,Reads E σ ρ->ok=C->∀ z,(zeroValue at_).run P w=.ok z w->(s ρ).run P w=.ok (.tuple #[z,.bool D]) w) :
  bD P look σ s (Cm P at_ ok):=by
 unfold Cm;cases ok with
 | false=>exact bD.fail _
 | true =>
   cases hz:mO P at_ with
   | none=>exact bD.fail _
   | some z=>exact bD.v _ λE w ρ hc hr=>by rw[h E w ρ hr rfl _ (i6 (E:=E) hz)];rfl
theorem Lu {ok:Bool}(v:SV)(h: ∀ E w ρ,Reads E σ ρ->(s ρ).run P w=.ok (if ok then .tuple #[v.val E,.bool C] else v.val E) w) :
  bD P look σ s (G5 ok v):=by
 unfold G5;cases ok with
 | false=>exact bD.v _ (by grind)
 | true=>exact bD.v _ λE w ρ hc hr=>by rw[h E w ρ hr];rfl
def isIface:TypeDesc->Option (Array (String×TypeId))
 | .interface want=>A want
 | _=>F
def SL (want:Array (String×TypeId))(got:Array Method):Bool:=want.toList.any λx=>!got.any λm=>m.name==x.1&&m.sig==x.2
theorem OV {l:List String}(h:l≠[]): ∃ m,an l=A m:=by
 cases l with
 | nil=>grind
 | cons s r=>exact⟨_,rfl⟩
def Th (missing:List String):Option String :=an (missing.partition (·.contains '.')).2 <|> an ((missing.partition (·.contains '.')).1.map λid=>(id.splitOn ".").getLastD id)
theorem Pc (want:Array (String×TypeId))(got:Array Method):b! want got=Th ((want.toList.filter fun(x:String×TypeId)=>!got.any λm=>m.name==x.1&&m.sig==x.2).map (·.1)):=rfl
theorem YR {want:Array (String×TypeId)}{got:Array Method}(h:SL want got=D):b! want got=none:=by
 have:(want.toList.filter fun(x:String×TypeId)=>!got.any λm=>m.name==x.1&&m.sig==x.2)=[]:=by grind [cL,List.any_eq_false,SL]
 rw[Pc,this];rfl
theorem OO {want:Array (String×TypeId)}{got:Array Method}(h:SL want got=C): ∃ m,b! want got=A m:=by
 unfold SL at h;rw[List.any_eq_true] at h;obtain⟨x,hx,hb⟩:=h;have hmem:x.1∈ (want.toList.filter fun(x:String×TypeId)=>!got.any λm=>m.name==x.1&&m.sig==x.2).map (·.1):=(by grind)
 rw[Pc];unfold Th;generalize (want.toList.filter fun(x:String×TypeId)=>!got.any λm=>m.name==x.1&&m.sig==x.2).map (·.1)=missing at hmem;rw[List.partition_eq_filter_filter];show ∃ m,(an (missing.filter (not∘ λs=>s.contains '.')) <|> an ((missing.filter λs=>s.contains '.').map λid=>(id.splitOn ".").getLastD id))=A m;by_cases hd:x.1.contains '.'=C
 ·have hne:(missing.filter λs=>s.contains '.')≠[]:=by grind [cL]
  obtain⟨m,hm⟩:=OV (l:=(missing.filter λs=>s.contains '.').map λid=>(id.splitOn ".").getLastD id) (by simp_all)
  grind
 ·have hne:(missing.filter (not∘ λs=>s.contains '.'))≠[]:=by grind [cL]
  obtain⟨m,hm⟩:=OV hne
  grind
def WI (P:Program)(x:SV)(at_:TypeId)(ok:Bool)(K:Option SV->VC):VC :=
 match P.underlying at_,x with
 | some _,.cj=>Cm P at_ ok K
 | some d,.iface u v=>(match isIface d with
   | some want=>(match P.info? u with
     | some i=>(match SL want i.methods with
       | false=>G5 ok (.iface u v) K
       | true=>Cm P at_ ok K)
     | none=>.fail "typeAssert")
   | none=>if u=at_ then G5 ok v K else Cm P at_ ok K)
 | _,_=>.fail "typeAssert"
theorem aeH {at_:TypeId}{ok:Bool}(hx:σ x=A a):bD P look σ (λρ=>T (ρ x) t at_ ok) (WI P a at_ ok):=by
 unfold WI;split
 ·rename_i d hd;exact Cn λE w ρ hr hok z hz=>by rw[hr x _ hx];cases d<;>simp[SV.val,T,aL hd,hok,hz]
 ·rename_i d u v hd;split
  ·rename_i want hw;have hd':P.underlying at_=A (.interface want):=by cases d<;>simp[isIface] at hw;grind
   split
   ·rename_i i hi;split
    ·rename_i hm;have hm:=YR hm;exact Lu _ λE w ρ hr=>by rw[hr x _ hx];simp only[SV.val,T,G,aL hd',H,rY hi,hm];simp_all
    ·rename_i hm;obtain⟨m,hm⟩:=OO hm;exact Cn λE w ρ hr hok z hz=>by rw[hr x _ hx];simp[SV.val,T,aL hd',rY hi,hm,hok,hz]
   ·exact bD.fail _
  ·rename_i hw;refine bD.ite (λe=> ?_) (λe=> ?_)
   ·subst e;exact Lu _ λE w ρ hr=>by
     rw[hr x _ hx];cases d<;>simp only[isIface] at hw<;>first
      | (cases hw;done)
      | (simp only[SV.val,T,G,aL hd,H,if_true];cases ok<;>rfl)
   ·exact Cn λE w ρ hr hok z hz=>by
     rw[hr x _ hx];cases d<;>simp only[isIface] at hw<;>first
      | (cases hw;done)
      | simp[SV.val,T,aL hd,e,hok,hz]
 ·exact bD.fail _
def azT (P:Program)(t:TypeId)(x:SV)(K:Option SV->VC):VC :=
 match P.underlying t,x with
 | some .string,.str l s=>K (A (.int .i64 l s.length))
 | some (.slice _),.slc _ _ n _ _=>K (A (.int .i64 C n))
 | some (.slice _),.bY _ _ _ _ n _=>K (A (.int .i64 D n))
 | some (.slice _),.cT _ _ _ _ _ n _=>K (A (.int .i64 D n))
 | some (.slice _),.iP _ _ _ _ _ n _=>K (A (.int .i64 D n))
 | some (.slice _),.bW=>K (A (.int .i64 C 0))
 | some (.array n _),_=>K (A (.int .i64 C n))
 | some (.map _ _),.mo=>K (A (.int .i64 C 0))
 | _,_=>.fail "len"
theorem avw (hx:σ x=A a)(h0:ats[0]?=A t) :
  bD P look σ (λρ=>Builtin.len_ ats ty #[ρ x]) (azT P t a):=by
 unfold azT;have hs: ∀ s:h_,(O s.toArray).size=s.length:=λs=>by simp[Z]
 split<;>first
  | exact bD.fail _
  | (rename_i hd;exact bD.v _ λE w ρ hc hr=>by
      rw[hr x _ hx];simp only[SV.val,Builtin.len_,h0,er,List.getElem?_cons_zero,G,aL hd,H]
      first
       | rfl
       | (show Result.ok (goInt (O _).size) w=_;rw[hs];rfl))
def azR (P:Program)(t:TypeId)(x:SV)(K:Option SV->VC):VC :=
 match P.underlying t,x with
 | some (.slice _),.slc _ _ _ l c=>K (A (.int .i64 l c))
 | some (.slice _),.bY _ _ D _ _ c=>K (A (.int .i64 D c))
 | some (.slice _),.bW=>K (A (.int .i64 C 0))
 | some (.array n _),_=>K (A (.int .i64 C n))
 | _,_=>.fail "cap"
theorem avt (hx:σ x=A a)(h0:ats[0]?=A t) :
  bD P look σ (λρ=>Builtin.cap_ ats ty #[ρ x]) (azR P t a):=by
 unfold azR
 split<;>first
  | exact bD.fail _
  | (rename_i hd;exact bD.v _ λE w ρ hc hr=>by rw[hr x _ hx];simp[SV.val,Builtin.cap_,h0,aL hd,goInt])
def EH (mx:Bool)(x y:SV)(K:Option SV->VC):VC :=
 match x,y with
 | .int k l a,.int k' l' b=>if k=k' then K (A (.int k (l&&l') (match mx with | true=>max a b | false=>min a b)))else .fail "min, max: kinds"
 | _,_=>.fail "min, max"
theorem avy {b:SV}(hx:σ x=A a)(hy:σ y=A b) :
  bD P look σ (λρ=>Builtin.min_ ats ty #[ρ x,ρ y]) (EH D a b):=by
 unfold EH;split
 ·rename_i k l m k' l' n;refine bD.ite (λe=>bD.v _ λE w ρ hc hr=> ?_) (λ_=>bD.fail _);subst e;rw[hr x _ hx,hr y _ hy];simp only[SV.val,Builtin.min_,ej,ek,Builtin.min2,G,I,H]
  grind
 ·exact bD.fail _
theorem avx {b:SV}(hx:σ x=A a)(hy:σ y=A b) :
  bD P look σ (λρ=>Builtin.max_ ats ty #[ρ x,ρ y]) (EH C a b):=by
 unfold EH;split
 ·rename_i k l m k' l' n;refine bD.ite (λe=>bD.v _ λE w ρ hc hr=> ?_) (λ_=>bD.fail _);subst e;rw[hr x _ hx,hr y _ hy];simp only[SV.val,Builtin.max_,ej,ek,Builtin.max2,G,I,H]
  grind
 ·exact bD.fail _
def cA {α:Type}(cs:List α)(off:Nat):List α->List α
 | []=>cs
 | v::r=>cA (cs.set off v) (off+1) r
theorem Jd {α β:Type}(f:α->β): ∀(vs cs:List α) (off:Nat),(cA cs off vs).map f=cA (cs.map f) off (vs.map f)
 | [],_,_=>rfl
 | v::r,cs,off=>by simp[cA,Jd f r,List.map_set]
theorem CE: ∀(vs:List Value) (cells:Array Value) (off k:Nat),
  ((vs.zipIdx k).foldl (λcs (x:Value×Nat)=>cs.setIfInBounds (off+x.2) x.1) cells).toList=cA cells.toList (off+k) vs
 | [],_,_,_=>rfl
 | v::r,cells,off,k=>by simp only[List.zipIdx_cons,List.foldl_cons,cA];rw[CE r];simp[eI]
def CB (place:Nat->Option (Nat×Nat))(cells:List SV):List (Nat×SV)->Option (List SV)
 | []=>A cells
 | (i,v)::rest =>
   match place i with
   | none=>F
   | some (off,size) =>if v.plain&&J (v.cells.length=size)&&J (off+size<=cells.length)then CB place (cA cells off v.cells) rest else F
theorem Ea {E:Nat->Nat}{place:Nat->Option (Nat×Nat)}: ∀(parts:List (Nat×SV)) (cells out:List SV),CB place cells parts=A out->
  d_ place (SV.vals E cells).toArray (parts.map λp=>(p.1,p.2.val E))=A (SV.vals E out).toArray
 | [],cells,out,h=>by simp[CB] at h;subst h;rfl
 | (i,v)::rest,cells,out,h=>by
   simp only[CB] at h;split at h
   ·cases h
   ·rename_i off size hp;split at h
    ·rename_i hc;simp only[Y,m_] at hc;obtain⟨⟨h1,h2⟩,h3⟩:=hc;have ih:=Ea (E:=E) rest _ out h;simp only[eu,d_,hp];rw[SV.lA h1];rw[p_ (by simp[h2,SV.cF];omega)];rw[← ih];congr 1;apply cO;rw[← Array.foldl_toList,Array.toList_zipIdx,CE];simp[SV.cF,Jd]
    ·cases h
def partsOf (σ:Operand->Option SV):List (Nat×Operand)->Option (List (Nat×SV))
 | []=>A []
 | (i,x)::r=>match σ x,partsOf σ r with
   | some v,A l=>A ((i,v)::l)
   | _,_=>F
theorem xZ {σ:Operand->Option SV}{E:Nat->Nat}{ρ:Operand->Value}(hr:Reads E σ ρ): ∀ {ps:List (Nat×Operand)} {l:List (Nat×SV)},partsOf σ ps=A l->
  ps.map (λp=>(p.1,ρ p.2))=l.map λp=>(p.1,p.2.val E)
 | [],l,h=>by simp[partsOf] at h;subst h;rfl
 | (i,x)::r,l,h=>by
   simp only[partsOf] at h;split at h
   ·rename_i v l' hv hl;injection h with h;subst h;simp[hr x v hv,xZ hr hl]
   ·cases h
def tS (P:Program):List Field->Option (List (Nat×Nat))
 | []=>A []
 | f::r=>match sz P f.type,tS P r with
   | some n,A l=>A ((f.offset,n)::l)
   | _,_=>F
theorem Bv {w:World}: ∀ {fs:List Field} {l:List (Nat×Nat)},tS P fs=A l->
  (fs.mapM (λf=>do pure (f.offset,← sizeOf f.type)):Sem (List (Nat×Nat))).run P w=.ok l w
 | [],l,h=>by simp[tS] at h;subst h;simp
 | f::r,l,h=>by
   simp only[tS] at h;split at h
   ·rename_i n l' hn hl;injection h with h;subst h;have ih:=Bv (w:=w) hl;simp at ih;simp[List.mapM_cons,dV hn,ih]
   ·cases h
def WJ (P:Program)(σ:Operand->Option SV)(t:TypeId)(parts:List (Nat×Operand))(K:Option SV->VC):VC :=
 match P.underlying t,mO P t,partsOf σ parts with
 | some (.struct fs),A (.agg zs),A ps=>(match tS P fs.toList with
   | some pl=>(match CB (λi=>pl[i]?) zs ps with
     | some out=>K (A (.agg out))
     | none=>.fail "build: fill")
   | none=>.fail "build: places")
 | some (.array _ e),A (.agg zs),A ps=>(match sz P e with
   | some m=>(match CB (λi=>A (i*m,m)) zs ps with
     | some out=>K (A (.agg out))
     | none=>.fail "build: fill")
   | none=>.fail "build: places")
 | _,_,_=>.fail "build"
theorem akV {parts:Array (Nat×Operand)} :
  bD P look σ (λρ=>b_ t (parts.map fun(i,x)=>(i,ρ x))) (WJ P σ t parts.toList):=by
 unfold WJ;split
 ·rename_i fs zs ps hd hz hp;split
  ·rename_i pl hpl;split
   ·rename_i out hf;refine bD.v _ λE w ρ hc hr=> ?_;have hm:(fs.mapM (λf=>do pure (f.offset,← sizeOf f.type)):Sem (Array (Nat×Nat))).run P w=.ok pl.toArray w:=by have:=Bv (P:=P) (w:=w) hpl;rw[Array.mapM_eq_mapM_toList];simp only[Sem.run_map,this,H]
    have hfill:=Ea (E:=E) ps zs out hf;have hparts:=xZ hr hp;have hpp:(parts.map fun(x:Nat×Operand)=>(x.1,ρ x.2)).toList=ps.map λp=>(p.1,p.2.val E):=by rw[← hparts];simp
    simp only[b_,G,i6 (E:=E) hz,H,aL hd,hm];simp only[SV.val,Value.cells,hpp,er,hfill];rfl
   ·exact bD.fail _
  ·exact bD.fail _
 ·rename_i e zs ps hd hz hp;split
  ·rename_i m hm;split
   ·rename_i out hf;refine bD.v _ λE w ρ hc hr=> ?_;have hfill:=Ea (E:=E) ps zs out hf;have hparts:=xZ hr hp;have hpp:(parts.map fun(x:Nat×Operand)=>(x.1,ρ x.2)).toList=ps.map λp=>(p.1,p.2.val E):=by rw[← hparts];simp
    simp only[b_,G,i6 (E:=E) hz,H,aL hd,dV hm];simp only[SV.val,Value.cells,hpp,hfill];rfl
   ·exact bD.fail _
  ·exact bD.fail _
 ·exact bD.fail _
end
end Sx
namespace Sx
open Go
noncomputable section
def kQ (d:h_->Bool)(s:h_):h_->Bool:=λt=>d t||decide (t=s)
def qh (g:h_->Int)(s:h_)(n:Int):h_->Int:=λt=>bif J (t=s)then n else g t
def alq (g:h_->Value)(s:h_)(v:Value):h_->Value:=λt=>bif J (t=s)then v else g t
def Jc (g:h_->Nat)(s:h_)(n:Nat):h_->Nat:=λt=>bif J (t=s)then n else g t
def dflt (b:Bool)(n:Int):Int:=bif b then n else 0
def aBe (b:Bool)(v:Value):Value:=bif b then v else .pointer F
def iO.look (c:iO)(b:Bool)(s:h_)(z:SV):Option SV:=match c,z with
 | .int k g,.int k' _ 0=>if k=k' then A (.int k D (dflt b (g s)))else F
 | .raw g,.eJ=>A (.raw (aBe b (g s)))
 | _,_=>F
def iO.set (c:iO)(s:h_)(v:SV):Option iO:=match c,v with
 | .int k g,.int k' _ n=>if k=k' then A (.int k (qh g s n))else F
 | .raw g,.raw u=>A (.raw (alq g s u))
 | .raw g,.eJ=>A (.raw (alq g s (.pointer F)))
 | .ref k g,.l7 _ a 0=>A (.ref k (Jc g s a))
 | _,_=>F
theorem abI {s t:h_}(h:xz s=xz t):s=t:=by simp only[xz,Value.string.injEq] at h;have:=congrArg eN h;simpa using this
theorem Xl {α β:Type}{f:α->β}: ∀ {l:List α},(l.map f).Nodup->∀ {a b:α},a∈ l->b∈ l->f a=f b->a=b
 | [],_,a,b,h,_,_=>by cases h
 | x::r,hn,a,b,ha,hb,e=>by
   simp only[eu,List.nodup_cons,List.mem_map,not_exists,not_and] at hn;rcases ey.1 ha with h1 | h1<;>rcases ey.1 hb with h2 | h2
   ·exact h1.trans h2.symm
   ·subst h1;exact absurd e.symm (hn.1 b h2)
   ·subst h2;exact absurd e (hn.1 a h1)
   ·exact Xl hn.2 h1 h2 e
theorem iO.Zb {b:Bool}{s:h_}{z v:SV}(h:c.look b s z=A v)(E:Nat->Nat):v.val E=if b=C then c.val s else z.val E:=by
 unfold iO.look at h;split at h
 ·split at h
  ·rename_i e;subst e;injection h with h;subst h;cases b<;>rfl
  ·cases h
 ·injection h with h;subst h;cases b<;>rfl
 ·cases h
theorem iO.W9 {s:h_}{v:SV}(h:c.set s v=A c')(E:Nat->Nat):c'.val s=v.val E/\∀ t,t≠s->c'.val t=c.val t:=by
 unfold iO.set at h;split at h
 ·split at h
  ·rename_i e;subst e;injection h with h;subst h;exact⟨by simp[iO.val,SV.val,qh],λt ht=>by simp[iO.val,qh,ht]⟩
  ·cases h
 ·injection h with h;subst h;exact⟨by simp[iO.val,SV.val,alq],λt ht=>by simp[iO.val,alq,ht]⟩
 ·injection h with h;subst h;exact⟨by simp[iO.val,SV.val,alq],λt ht=>by simp[iO.val,alq,ht]⟩
 ·injection h with h;subst h;exact⟨by simp[iO.val,SV.val,Jc],λt ht=>by simp[iO.val,Jc,ht]⟩
 ·cases h
theorem asz (s:h_):MapKept.IsKey .string (xz s):=trivial
theorem JJ.find {pend}(h:JJ d c pend es clock)(s:h_) :
  (d s=D/\d! .string (xz s) es.toList 0=A F/\∀ x∈ es.toList,x.key≠xz s) ∨
  (d s=C/\∃ j e,d! .string (xz s) es.toList 0=A (A (j,c.val s))/\es[j]?=A e/\e.key=xz s/\e.val=c.val s):=by
 rcases MapKept.findNow_spec (asz s) es.toList 0 h.ks with ⟨h1,h2⟩ | ⟨j,e,h1,h2,h3⟩
 ·cases hd:d s with
  | false=>exact .inl ⟨rfl,h1,h2⟩
  | true =>obtain⟨e,he,hk,_⟩:=h.has s hd;exact absurd hk (h2 e he)
 ·have hj:es[j]?=A e:=by simpa using h2
  have hm:e∈ es.toList:=eA h2;cases hd:d s with
  | false=>exact absurd h3 (h.no s hd e hm)
  | true =>obtain⟨e',he',hk,hv⟩:=h.has s hd;have:=Xl h.st.2.2 he' hm (hk.trans h3.symm);subst this;exact .inr ⟨rfl,j,e',by rw[h1,Nat.zero_add,hv],hj,h3,hv⟩
theorem mem_modify {f:MapEntry->MapEntry}{x:MapEntry}:x∈ (es.modify i f).toList↔∃ j e,es[j]?=A e/\x=if i=j then f e else e:=by
 rw[ez];constructor
 ·rintro⟨j,hj⟩;rw[a_,c4] at hj;by_cases e:i=j
  ·rw[o_ e] at hj;obtain⟨y,hy,rfl⟩:=Option.map_eq_some_iff.1 hj;exact⟨j,y,hy,by rw[o_ e]⟩
  ·rw[p_ e] at hj;exact⟨j,x,hj,by rw[p_ e]⟩
 ·rintro⟨j,e,hj,rfl⟩;refine⟨j,?_⟩;rw[a_,c4,hj];by_cases e:i=j<;>simp[e]
theorem JJ.put {pend}(h:JJ d c pend es clock){s:h_}{u:Value}(hc:c'.val s=u/\∀ t,t≠s->c'.val t=c.val t)
  {j:Nat} {e:MapEntry} (hj:es[j]?=A e) (hk:e.key=xz s) {f:MapEntry->MapEntry} (hf:(f e).key=xz s/\(f e).val=u/\(f e).born=e.born) (hfb: ∀ x,(f x).born=x.born) (hd:d s=C) {pend'} (hp: ∀ t b,pend'=A (t,b)->t=s/\(e.born:Int)=b):JJ (kQ d s) c' pend' (es.modify j f) clock:=by
 have hkey: ∀ e',es[j]?=A e'->(f e').key=e'.key:=λe' he'=>by rw[hj] at he';cases he';rw[hf.1,hk]
 have hme:f e∈ (es.modify j f).toList:=mem_modify.2 ⟨j,e,hj,by rw[o_ rfl]⟩;refine⟨MapKept.stamped_modify h.st _ _ (λx _=>hfb x) (λe' _ he'=>hkey e' he'),MapKept.isKey_modify h.ks _ _ hkey,λt ht=> ?_,λt ht x hx=> ?_,λt b ht=> ?_⟩
 ·by_cases e1:t=s
  ·subst e1;exact⟨f e,hme,hf.1,by rw[hf.2.1,hc.1]⟩
  ·obtain⟨x,hx,hxk,hxv⟩:=h.has t (by simpa [kQ,e1] using ht);rw[ez] at hx;obtain⟨i,hi⟩:=hx;rw[a_] at hi;have hne:j≠i:=λe2=>by subst e2;rw[hj] at hi;cases hi;exact e1 (abI (hxk.symm.trans hk))
   exact⟨x,mem_modify.2 ⟨i,x,hi,by rw[p_ hne]⟩,hxk,by rw[hxv,hc.2 t e1]⟩
 ·have hts:t≠s/\d t=false:=by simp only[kQ,c7,n_] at ht;exact⟨ht.2,ht.1⟩
  obtain⟨i,y,hi,rfl⟩:=mem_modify.1 hx;have hy:y∈ es.toList:=eA (by rw[a_];exact hi);by_cases e1:j=i
  ·rw[o_ e1];subst e1;rw[hkey y hi];exact h.no t hts.2 y hy
  ·rw[p_ e1];exact h.no t hts.2 y hy
 ·obtain⟨rfl,hb⟩:=hp t b ht;exact⟨f e,hme,by rw[hf.2.2];exact hb,hf.1⟩
theorem JJ.add {pend}(h:JJ d c pend es clock){s:h_}{u:Value}(hc:c'.val s=u/\∀ t,t≠s->c'.val t=c.val t)
  (hn: ∀ x∈ es.toList,x.key≠xz s) {pend'} (hp: ∀ t b,pend'=A (t,b)->t=s/\(clock:Int)=b):JJ (kQ d s) c' pend' (es.push {key:=xz s,val:=u,born:=clock}) (clock+1):=by
 have mem: ∀ {x},x∈ (es.push {key:=xz s,val:=u,born:=clock}).toList↔x∈ es.toList∨x={key:=xz s,val:=u,born:=clock}:=by intro x;simp only[Array.toList_push,List.mem_append,List.mem_singleton]
 refine⟨MapKept.stamped_push h.st hn,λx hx=> ?_,λt ht=> ?_,λt ht x hx=> ?_,λt b ht=> ?_⟩
 ·rcases mem.1 hx with hx | rfl
  ·exact h.ks x hx
  ·trivial
 ·by_cases e1:t=s
  ·subst e1;exact⟨_,mem.2 (.inr rfl),rfl,hc.1.symm⟩
  ·obtain⟨x,hx,hxk,hxv⟩:=h.has t (by simpa [kQ,e1] using ht);exact⟨x,mem.2 (.inl hx),hxk,by rw[hxv,hc.2 t e1]⟩
 ·simp only[kQ,c7,n_] at ht;rcases mem.1 hx with hx | rfl
  ·exact h.no t ht.1 x hx
  ·exact λe1=>ht.2 (abI e1.symm)
 ·obtain⟨rfl,hb⟩:=hp t b ht;exact⟨_,mem.2 (.inr rfl),hb,rfl⟩
theorem JJ.nil (c:iO)(clock:Nat):JJ (λ_=>D) c F #[] clock :=⟨MapKept.stamped_empty clock,by simp,(λ_ h=>by cases h),by simp,(λ_ _ h=>by cases h)⟩
end
end Sx
end Go.Proofs.YtoibaecagklkaaaGreatDoor
