/-
  The framework's fifth part: slices of slices, assertions, len and its like, composite literals; 'qop', all quiet operations.
-/
import Derived.Test.YtoibaecagklkaaaGreatDoorMb
import Derived.BigFrame
import Derived.MapKept
open Array renaming forIn_toList->b9,getElem?_modify->b_,getElem?_toList->W
open Bool renaming false->D,false_and->a_,or_eq_false_iff->b!,true->C
open ByteArray renaming data->cm,data_extract->er,empty->eu,ext->ey,mk->X,push->ez,size->cx
open Decidable renaming decide->N
open Go.BigFrame renaming execOp_builtin->Y
open Go.Builtin renaming cap_->cB,len_->Z,max_->cL,min_->c4
open Go.Instr renaming build->a!,fill->c5,findKey->ag,findNow->L,least->Q,lookup->R,missingMethod->bh,slice->V,sliceAt->M,sliceBound->c6,sliceBounds->O,sureAddr->bl,typeAssert->S
open Go.MapKept renaming IsKey->c_,run_checkKey->an,run_getObj_map->az
open Go.Result renaming andThen_ok->F
open Go.Sem renaming run_bind->H,run_pure->I
open List renaming filter_eq_nil_iff->bn,foldlM_cons->c!,foldlM_nil->d_,getElem?_map->d!,getElem?_toArray->ef,length_map->b5,map_cons->b6,mem_cons->ei,mem_iff_getElem?->ej,mem_map->ek,mem_of_getElem?->en,nil_append->ep
open Option renaming map->J,none->G,some->A
open UInt8 renaming ofNat->T
namespace Go.Proofs.YtoibaecagklkaaaGreatDoor
open Go Sx
variable {es:Array MapEntry}{ats:Array TypeId}{l la lb ok:Bool}{s:e_}{d:e_->Bool}{clock:Nat}{E:Nat->Nat}{o:Oper}{x:Operand}{ρ:Operand->Value}{hi lo:Option Operand}{a b v:SV}{t ty:TypeId}{w:World}{c c':bL}
namespace Sx
open Go
section
variable {P : Program} {look : k5} {σ : Operand -> Option SV}
def bound (σ:Operand->Option SV)(d:Bool×Int):Option Operand->Option (Bool×Int)
 | none=>A d
 | some x=>match σ x with
   | some (.int _ l n)=>A (l,n)
   | _=>G
def aB (s:e_):Option Operand->Option Operand->Int->Int->e_
 | none,G,_,_=>s
 | none,A _,_,h=>s.take h.toNat
 | some _,G,l,_=>s.drop l.toNat
 | some _,A _,l,h=>(s.drop l.toNat).take (h.toNat - l.toNat)
def CP (l:Bool)(c:Prop)[Decidable c](t:VC):VC :=
 match l with
 | true=>if c then t else .fail "a bound"
 | false=>.and (.atom c) t
theorem aW.CP {s:(Operand->Value)->Sem Value}{c:Prop}[Decidable c]{t:QT}(h:c->aW P look σ s t):aW P look σ s (λK=>Sx.CP l c (t K)):=by
 unfold Sx.CP;cases l
 ·exact aW.atom h
 ·exact aW.ite h (λ_=>aW.fail _)
def n6 (σ:Operand->Option SV)(l:Bool)(s:e_)(lo hi:Option Operand)(K:Option SV->VC):VC :=
 match bound σ (C,0) lo,bound σ (l,s.length) hi with
 | some (l1,a),A (l2,b)=>CP (l&&l1&&l2) (0<=a/\a<=b/\b<=s.length) (K (A (.str (l&&l1&&l2) (aB s lo hi a b))))
 | _,_=>.fail "slice of a text"
def jM (σ:Operand->Option SV)(m:Nat)(_arr:Bool)(key o n:Nat)(cl:Bool)(c:Nat)(lo hi:Option Operand)(K:Option SV->VC):VC :=
 match bound σ (C,0) lo,bound σ (C,n) hi with
 | some (C,a),A (C,b)=>CP C (0<=a/\a<=b) (CP cl (b<=c) (match cl with
   | true=>K (A (.slc key (if c=a.toNat then o else o+a.toNat*m) (b.toNat - a.toNat) cl (c - a.toNat)))
   | false=>fork (N (c=a.toNat)) (λe=>match e with
     | true=>K (A (.slc key o (b.toNat - a.toNat) cl (c - a.toNat)))
     | false=>K (A (.slc key (o+a.toNat*m) (b.toNat - a.toNat) cl (c - a.toNat))))))
 | _,_=>.fail "slice: bounds that are not known"
def qZ (lo:Option Operand)(i c a:Nat):Nat:=match lo with
 | none=>i
 | some _=>if c=a then i else i+a
theorem D7 {i c:Nat}{a:Int}(ha:bound σ (C,0) lo=A (la,a)):qZ lo i c a.toNat=if c=a.toNat then i else i+a.toNat:=by
 cases lo with
 | none =>simp only[bound] at ha;injection ha with ha;injection ha with _ ha;subst ha;simp[qZ]
 | some _=>rfl
def jK (σ:Operand->Option SV)(key w i n c:Nat)(lo hi:Option Operand)(K:Option SV->VC):VC :=
 match bound σ (C,0) lo,bound σ (D,n) hi with
 | some (_,a),A (_,b)=>.and (.atom (0<=a/\a<=b/\b<=c)) (K (A (.bx key w D (qZ lo i c a.toNat) (b.toNat - a.toNat) (c - a.toNat))))
 | _,_=>.fail "slice: bounds"
def me (σ:Operand->Option SV)(key w o i n c:Nat)(lo hi:Option Operand)(K:Option SV->VC):VC :=
 match bound σ (C,0) lo,bound σ (D,n) hi with
 | some (_,a),A (_,b)=>.and (.atom (0<n/\0<=a/\a<=b/\b<=c)) (K (A (.aS key w D o (qZ lo i c a.toNat) (b.toNat - a.toNat) (c - a.toNat))))
 | _,_=>.fail "slice: bounds"
def rY (σ:Operand->Option SV)(n:Nat)(lo hi:Option Operand):Bool :=
 match bound σ (C,0) lo,bound σ (C,n) hi with
 | some (C,_),A (C,_)=>C
 | _,_=>D
def nZ (σ:Operand->Option SV)(key o n:Nat)(lo hi:Option Operand)(K:Option SV->VC):VC :=
 match bound σ (C,0) lo,bound σ (C,n) hi with
 | some (_,a),A (_,b)=>.and (.atom (0<=a/\a<=b/\b<=n)) (fork (N (n=a.toNat)) (λe=>match e with
    | true=>K (A (.bx key 1 D o (b.toNat - a.toNat) (n - a.toNat)))
    | false=>K (A (.bx key 1 D (o+a.toNat) (b.toNat - a.toNat) (n - a.toNat)))))
 | _,_=>.fail "slice: bounds"
def o7 (σ:Operand->Option SV)(m:Nat)(key o n c:Nat)(lo hi:Option Operand)(mx:Operand)(K:Option SV->VC):VC :=
 match hi,bound σ (C,0) lo,bound σ (C,n) hi,bound σ (C,c) (A mx)with
 | some _,A (C,a),A (C,b),A (C,z)=>CP C (0<=a/\a<=b/\b<=z/\z<=c)
    (K (A (.slc key (if z.toNat=a.toNat then o else o+a.toNat*m) (b.toNat - a.toNat) C (z.toNat - a.toNat))))
 | _,_,_,_=>.fail "slice: bounds that are not known"
def Gj (P:Program)(σ:Operand->Option SV)(t:TypeId)(x:Option SV)(lo hi mx:Option Operand)(K:Option SV->VC):VC :=
 match mx,P.underlying t,x with
 | none,A .string,A (.str l s)=>n6 σ l s lo hi K
 | none,A (.array n e),A (.ptr key C o)=>(match sz P e with
   | some m=>(match !rY σ n lo hi&&Nat.beq m 1 with
     | true=>nZ σ key o n lo hi K
     | false=>jM σ m C key o n C n lo hi K)
   | none=>.fail "slice")
 | some z,A (.array n e),A (.ptr key C o)=>(match sz P e with
   | some m=>o7 σ m key o n n lo hi z K
   | none=>.fail "slice")
 | some z,A (.slice e),A (.slc key o n C c)=>(match sz P e with
   | some m=>o7 σ m key o n c lo hi z K
   | none=>.fail "slice")
 | none,A (.slice e),A (.slc key o n cl c)=>(match sz P e with
   | some m=>jM σ m D key o n cl c lo hi K
   | none=>.fail "slice")
 | none,A (.slice e),A (.bx key w z i n c)=>(match sz P e with
   | some m=>if m=w then(match z with
     | true=>.and (.atom (0<n)) (jK σ key w i n c lo hi K)
     | false=>jK σ key w i n c lo hi K)else .fail "slice: another row"
   | none=>.fail "slice")
 | none,A (.slice e),A (.aS key w _ o i n c)=>(match sz P e with
   | some m=>if m=w then me σ key w o i n c lo hi K else .fail "slice: another row"
   | none=>.fail "slice")
 | _,_,_=>.fail "slice"
theorem lB (hr:Reads E σ ρ){d:Bool×Int}{n:Int}
  (h:bound σ d (A x)=A (l,n)) {y:Nat} {code:BoundsCode} (h0:0<=n) (h1:n<=y):(c6 (ρ x) y code).run P w=.ok n.toNat w:=by
 simp only[bound] at h;split at h
 ·rename_i k l' n' hx;injection h with h;injection h with _ h;subst h;rw[hr x _ hx];simp[SV.val,c6,asIntOf,h0,h1]
 ·cases h
theorem jD (hr:Reads E σ ρ){isSlice:Bool}{n c:Nat}{ld:Bool}{a b:Int}
  (ha:bound σ (C,0) lo=A (la,a)) (hb:bound σ (ld,(n:Int)) hi=A (lb,b)) (h0:0<=a) (h1:a<=b) (h2:b<=c) :
  (O isSlice n c (lo.map ρ) (hi.map ρ) G).run P w=.ok (a.toNat,b.toNat,c) w:=by
 cases hi with
 | none =>
   simp only[bound] at hb;injection hb with hb;injection hb with _ hb;subst hb;cases lo with
   | none =>simp only[bound] at ha;injection ha with ha;injection ha with _ ha;subst ha;simp[O]
   | some x =>have hx:=λcode=>lB (P:=P) (w:=w) hr ha (y:=n) (code:=code) h0 h1;simp[O,hx]
 | some y =>
   have hy:=λcode=>lB (P:=P) (w:=w) hr hb (y:=c) (code:=code) (by omega) h2;cases lo with
   | none =>simp only[bound] at ha;injection ha with ha;injection ha with _ ha;subst ha;simp[O,hy]
   | some x =>have hx:=λcode=>lB (P:=P) (w:=w) hr ha (y:=b.toNat) (code:=code) h0 (by omega);simp[O,hy,hx]
theorem yC (hr:Reads E σ ρ){isSlice:Bool}{n c:Nat}{hi mx:Operand}{ld lz:Bool}{a b z:Int}
  (ha:bound σ (C,0) lo=A (la,a)) (hb:bound σ (ld,(n:Int)) (A hi)=A (lb,b)) (hz:bound σ (C,(c:Int)) (A mx)=A (lz,z)) (h0:0<=a) (h1:a<=b) (h2:b<=z) (h3:z<=c) :
  (O isSlice n c (lo.map ρ) (A (ρ hi)) (A (ρ mx))).run P w=.ok (a.toNat,b.toNat,z.toNat) w:=by
 have hmz:=λcode=>lB (P:=P) (w:=w) hr hz (y:=c) (code:=code) (by omega) h3;have hy:=λcode=>lB (P:=P) (w:=w) hr hb (y:=z.toNat) (code:=code) (by omega) (by omega);cases lo with
 | none =>simp only[bound] at ha;injection ha with ha;injection ha with _ ha;subst ha;simp[O,hmz,hy]
 | some x =>have hx:=λcode=>lB (P:=P) (w:=w) hr ha (y:=b.toNat) (code:=code) h0 (by omega);simp[O,hmz,hy,hx]
theorem sO (s:e_)(l h:Nat):(X s.toArray).extract l h=⟨((s.drop l).take (h - l)).toArray⟩:=by apply ey;rw[er];simp
theorem Ra {σ:Operand->Option SV}{ls:Bool}{a b:Int}
  (ha:bound σ (C,0) lo=A (la,a)) (hb:bound σ (ls,(s.length:Int)) hi=A (lb,b)) (h:0<=a/\a<=b/\b<=s.length) :
  (s.drop a.toNat).take (b.toNat - a.toNat)=aB s lo hi a b:=by
 cases lo with
 | none =>
   simp only[bound] at ha;injection ha with ha;injection ha with _ ha;subst ha;cases hi with
   | none=>simp only[bound] at hb;injection hb with hb;injection hb with _ hb;subst hb;simp[aB]
   | some y=>simp[aB]
 | some x =>
   cases hi with
   | none =>simp only[bound] at hb;injection hb with hb;injection hb with _ hb;subst hb;simp only[aB];rw[List.take_of_length_le];simp
   | some y=>rfl
theorem Qy {t0:TypeId}{mx:Option Operand} :
  aW P look σ (λρ=>M t0 (ρ x) (lo.map ρ) (hi.map ρ) (mx.map ρ)) (Gj P σ t0 (σ x) lo hi mx):=by
 unfold Gj;split
 ·rename_i l s hd hx;unfold n6;split
  ·rename_i l1 a l2 b ha hb;refine aW.CP λh=>aW.v _ λE w ρ hc hr=> ?_;have hs:(X s.toArray).size=s.length:=by simp[cx]
   have:=jD (P:=P) (w:=w) hr (isSlice:=D) (c:=s.length) ha hb h.1 h.2.1 h.2.2;simp only[hr x _ hx,SV.val,M,H,aL hd,F,V,J,hs];simp only[J] at this;simp only[Option.isSome_none,Bool.false_eq_true,if_false,H];rw[this];simp only[F,I,sO,Ra ha hb h]
  ·exact aW.fail _
 ·rename_i n e key o hd hx;split
  ·rename_i m hm;split
   ·rename_i hlit;have hm1:m=1:=by simp at hlit;exact hlit.2
    subst hm1;unfold nZ;split
    ·rename_i l1 a l2 b ha hb;refine aW.atom λh=>aW.fork ?_
     have main: ∀ E w ρ,Reads E σ ρ->(M t0 (ρ x) (lo.map ρ) (hi.map ρ) ((G:Option Operand).map ρ)).run P w =
       .ok ((SV.bx key 1 D (if n=a.toNat then o else o+a.toNat) (b.toNat - a.toNat) (n - a.toNat)).val E) w:=by
      intro E w ρ hr;have:=jD (P:=P) (w:=w) hr (isSlice:=D) (c:=n) ha hb h.1 h.2.1 h.2.2;simp only[J] at this;simp only[hr x _ hx,SV.val,M,H,aL hd,F,J,bl,I,this,cu hm,cQ];split<;>simp
     by_cases hca:n=a.toNat
     ·rw[decide_eq_true hca];refine aW.v _ λE w ρ hc hr=> ?_;have:=main E w ρ hr;rw[if_pos hca] at this;exact this
     ·rw[decide_eq_false hca];refine aW.v _ λE w ρ hc hr=> ?_;have:=main E w ρ hr;rw[if_neg hca] at this;exact this
    ·exact aW.fail _
   ·unfold jM;split
    ·rename_i a b ha hb;refine aW.CP λh=>aW.CP λh'=>aW.v _ λE w ρ hc hr=> ?_;have:=jD (P:=P) (w:=w) hr (isSlice:=D) (c:=n) ha hb h.1 h.2 h';simp only[J] at this;simp only[hr x _ hx,SV.val,M,H,aL hd,F,J,bl,I,this,cu hm,cQ];split<;>rfl
    ·exact aW.fail _
  ·exact aW.fail _
 ·rename_i z n e key o hd hx;split
  ·rename_i m hm;unfold o7;split
   ·rename_i y a b c ha hz hb;refine aW.CP λh=>aW.v _ λE w ρ hc hr=> ?_;have:=yC (P:=P) (w:=w) hr (isSlice:=D) (c:=n) ha hb hz h.1 h.2.1 h.2.2.1 h.2.2.2;simp only[J] at this;simp only[hr x _ hx,SV.val,M,H,aL hd,F,J,bl,I,this,cu hm,cQ];split<;>rfl
   ·exact aW.fail _
  ·exact aW.fail _
 ·rename_i z e key o n c hd hx;split
  ·rename_i m hm;unfold o7;split
   ·rename_i y a b c' ha hz hb;refine aW.CP λh=>aW.v _ λE w ρ hc hr=> ?_;have:=yC (P:=P) (w:=w) hr (isSlice:=C) (c:=c) ha hb hz h.1 h.2.1 h.2.2.1 h.2.2.2;simp only[J] at this;simp only[hr x _ hx,SV.val,M,H,aL hd,F,J,V,this,cu hm,cQ,I];split<;>rfl
   ·exact aW.fail _
  ·exact aW.fail _
 ·rename_i e key o n cl c hd hx;split
  ·rename_i m hm
   have main: ∀ {la lb:Bool} {a b:Int},bound σ (C,0) lo=A (la,a)->bound σ (C,(n:Int)) hi=A (lb,b)->0<=a->a<=b->b<=c ->
     ∀ E w ρ,Reads E σ ρ->(M t0 (ρ x) (lo.map ρ) (hi.map ρ) ((G:Option Operand).map ρ)).run P w =
       .ok ((SV.slc key (if c=a.toNat then o else o+a.toNat*m) (b.toNat - a.toNat) cl (c - a.toNat)).val E) w:=by
    intro la lb a b ha hb h0 h1 h2 E w ρ hr;have:=jD (P:=P) (w:=w) hr (isSlice:=C) (c:=c) ha hb h0 h1 h2;simp only[J] at this;simp only[hr x _ hx,SV.val,M,H,aL hd,F,J,V,this,cu hm,cQ,I];split<;>rfl
   unfold jM;split
   ·rename_i a b ha hb;refine aW.CP λh=>aW.CP λh'=> ?_;cases cl with
    | true=>exact aW.v _ λE w ρ hc hr=>main ha hb h.1 h.2 h' E w ρ hr
    | false =>
      refine aW.fork ?_;by_cases hca:c=a.toNat
      ·rw[decide_eq_true hca];refine aW.v _ λE w ρ hc hr=> ?_;have:=main ha hb h.1 h.2 h' E w ρ hr;rw[if_pos hca] at this;exact this
      ·rw[decide_eq_false hca];refine aW.v _ λE w ρ hc hr=> ?_;have:=main ha hb h.1 h.2 h' E w ρ hr;rw[if_neg hca] at this;exact this
   ·exact aW.fail _
  ·exact aW.fail _
 ·rename_i e key w0 z i n c hd hx;split
  ·rename_i m hm;refine aW.ite (λhmw=> ?_) (λ_=>aW.fail _);subst hmw;have hx':(z&&Nat.beq n 0)=D->∀(E:Nat->Nat) (ρ:Operand->Value),Reads E σ ρ->ρ x=(SV.bx key m D i n c).val E:=λh E ρ hr=>by rw[hr x _ hx];simp[SV.val,h]
   have core:(∀(E:Nat->Nat) (ρ:Operand->Value),Reads E σ ρ->ρ x=(SV.bx key m D i n c).val E)->aW P look σ (λρ=>M t0 (ρ x) (lo.map ρ) (hi.map ρ) ((G:Option Operand).map ρ)) (jK σ key m i n c lo hi):=λhx=>by
    unfold jK;split
    ·rename_i l1 a l2 b ha hb;refine aW.atom λh=>aW.v _ λE w ρ hc hr=> ?_;have:=jD (P:=P) (w:=w) hr (isSlice:=C) (c:=c) ha hb h.1 h.2.1 h.2.2;simp only[J] at this;rw[D7 ha];simp only[hx E ρ hr,SV.val,a_,cond_false,M,H,aL hd,F,J,V,this,cu hm,cQ,I];split
     ·rfl
     ·simp[Nat.add_mul]
    ·exact aW.fail _
   cases z with
   | true=>exact aW.atom λh0=>core λE ρ hr=>hx' (by cases n with | zero=>omega | succ n=>rfl) E ρ hr
   | false=>exact core λE ρ hr=>hx' rfl E ρ hr
  ·exact aW.fail _
 ·rename_i e key w0 z o i n c hd hx;split
  ·rename_i m hm;refine aW.ite (λhmw=> ?_) (λ_=>aW.fail _);subst hmw;unfold me;split
   ·rename_i l1 a l2 b ha hb;refine aW.atom λh=>aW.v _ λE w ρ hc hr=> ?_;have hx':ρ x=(SV.aS key m D o i n c).val E:=by
     rw[hr x _ hx];have hz:(z&&Nat.beq n 0)=false:=by cases n with | zero=>omega | succ n=>simp[Nat.beq]
     simp[SV.val,hz]
    have:=jD (P:=P) (w:=w) hr (isSlice:=C) (c:=c) ha hb h.2.1 h.2.2.1 h.2.2.2;simp only[J] at this;rw[D7 ha];simp only[hx',SV.val,a_,cond_false,M,H,aL hd,F,J,V,this,cu hm,cQ,I];split
    ·rfl
    ·simp[Nat.add_mul,Nat.add_assoc]
   ·exact aW.fail _
  ·exact aW.fail _
 ·exact aW.fail _
end
end Sx
namespace Sx
open Go
section
variable {P : Program} {look : k5} {σ : Operand -> Option SV}
def fX (P:Program)(t:TypeId):Option SV :=
 match P.info? t with
 | some i=>(match i.zero with
   | some v=>SV.ofConst v
   | none=>G)
 | none=>G
theorem dG (h:fX P t=A v):(zeroValue t).run P w=.ok (v.val E) w:=by
 unfold fX at h;split at h
 ·rename_i i hi;split at h
  ·rename_i z hz;simp[zeroValue,jn hi,hz,SV.yQ (E:=E) h]
  ·cases h
 ·cases h
def uI (ok:Bool)(v:SV)(K:Option SV->VC):VC :=
 match ok with
 | true=>K (A (.aD [v,.bool C C]))
 | false=>K (A v)
def qa (P:Program)(at_:TypeId)(ok:Bool)(K:Option SV->VC):VC :=
 match ok with
 | true=>(match fX P at_ with
   | some z=>K (A (.aD [z,.bool C D]))
   | none=>.fail "typeAssert: no zero")
 | false=>.fail "typeAssert fails"
theorem qc {s:(Operand->Value)->Sem Value}{at_:TypeId}(h: ∀ E w ρ,Reads E σ ρ->ok=C->∀ z,(zeroValue at_).run P w=.ok z w->(s ρ).run P w=.ok (.tuple #[z,.bool D]) w) :
  aW P look σ s (qa P at_ ok):=by
 unfold qa;cases ok with
 | false=>exact aW.fail _
 | true =>
   cases hz:fX P at_ with
   | none=>exact aW.fail _
   | some z=>exact aW.v _ λE w ρ hc hr=>by rw[h E w ρ hr rfl _ (dG (E:=E) hz)];rfl
theorem yz {s:(Operand->Value)->Sem Value}(v:SV)(h: ∀ E w ρ,Reads E σ ρ->(s ρ).run P w=.ok (if ok then .tuple #[v.val E,.bool C] else v.val E) w) :
  aW P look σ s (uI ok v):=by
 unfold uI;cases ok with
 | false=>exact aW.v _ λE w ρ hc hr=>by rw[h E w ρ hr];rfl
 | true=>exact aW.v _ λE w ρ hc hr=>by rw[h E w ρ hr];rfl
def isIface:TypeDesc->Option (Array (String×TypeId))
 | .interface want=>A want
 | _=>G
def Dg (want:Array (String×TypeId))(got:Array Method):Bool:=want.toList.any λx=>!got.any λm=>m.name==x.1&&m.sig==x.2
theorem AX {l:List String}(h:l≠[]): ∃ m,Q l=A m:=by
 cases l with
 | nil=>exact absurd rfl h
 | cons s r=>exact⟨_,rfl⟩
def DM (missing:List String):Option String :=Q (missing.partition (·.contains '.')).2 <|> Q ((missing.partition (·.contains '.')).1.map λid=>(id.splitOn ".").getLastD id)
theorem Bg (want:Array (String×TypeId))(got:Array Method):bh want got=DM ((want.toList.filter fun(x:String×TypeId)=>!got.any λm=>m.name==x.1&&m.sig==x.2).map (·.1)):=rfl
theorem HV {want:Array (String×TypeId)}{got:Array Method}(h:Dg want got=D):bh want got=none:=by
 have:(want.toList.filter fun(x:String×TypeId)=>!got.any λm=>m.name==x.1&&m.sig==x.2)=[]:=by rw[bn];intro x hx hb;unfold Dg at h;rw[List.any_eq_false] at h;exact h x hx hb
 rw[Bg,this];rfl
theorem AR {want:Array (String×TypeId)}{got:Array Method}(h:Dg want got=C): ∃ m,bh want got=A m:=by
 unfold Dg at h;rw[List.any_eq_true] at h;obtain⟨x,hx,hb⟩:=h;have hmem:x.1∈ (want.toList.filter fun(x:String×TypeId)=>!got.any λm=>m.name==x.1&&m.sig==x.2).map (·.1):=ek.2 ⟨x,List.mem_filter.2 ⟨hx,hb⟩,rfl⟩;rw[Bg];unfold DM;generalize (want.toList.filter fun(x:String×TypeId)=>!got.any λm=>m.name==x.1&&m.sig==x.2).map (·.1)=missing at hmem;rw[List.partition_eq_filter_filter];show ∃ m,(Q (missing.filter (not∘ λs=>s.contains '.')) <|> Q ((missing.filter λs=>s.contains '.').map λid=>(id.splitOn ".").getLastD id))=A m;by_cases hd:x.1.contains '.'=C
 ·have hne:(missing.filter λs=>s.contains '.')≠[]:=by intro h0;rw[bn] at h0;exact h0 _ hmem hd
  obtain⟨m,hm⟩:=AX (l:=(missing.filter λs=>s.contains '.').map λid=>(id.splitOn ".").getLastD id) (by simpa using hne);cases hl:Q (missing.filter (not∘ λs=>s.contains '.'))with
  | none=>exact⟨m,by rw[hm];rfl⟩
  | some q=>exact⟨q,rfl⟩
 ·have hne:(missing.filter (not∘ λs=>s.contains '.'))≠[]:=by intro h0;rw[bn] at h0;exact h0 _ hmem (by simpa using hd)
  obtain⟨m,hm⟩:=AX hne;exact⟨m,by rw[hm];rfl⟩
def Gc (P:Program)(x:SV)(at_:TypeId)(ok:Bool)(K:Option SV->VC):VC :=
 match P.underlying at_,x with
 | some _,.aA=>qa P at_ ok K
 | some d,.iface u v=>(match isIface d with
   | some want=>(match P.info? u with
     | some i=>(match Dg want i.methods with
       | false=>uI ok (.iface u v) K
       | true=>qa P at_ ok K)
     | none=>.fail "typeAssert")
   | none=>if u=at_ then uI ok v K else qa P at_ ok K)
 | _,_=>.fail "typeAssert"
theorem Mp {at_:TypeId}(hx:σ x=A a):aW P look σ (λρ=>S (ρ x) t at_ ok) (Gc P a at_ ok):=by
 unfold Gc;split
 ·rename_i d hd;exact qc λE w ρ hr hok z hz=>by rw[hr x _ hx];cases d<;>simp[SV.val,S,aL hd,hok,hz]
 ·rename_i d u v hd;split
  ·rename_i want hw;have hd':P.underlying at_=A (.interface want):=by cases d<;>simp[isIface] at hw;subst hw;exact hd
   split
   ·rename_i i hi;split
    ·rename_i hm;have hm:=HV hm;exact yz _ λE w ρ hr=>by rw[hr x _ hx];simp only[SV.val,S,H,aL hd',F,jn hi,hm];cases ok<;>rfl
    ·rename_i hm;obtain⟨m,hm⟩:=AR hm;exact qc λE w ρ hr hok z hz=>by rw[hr x _ hx];simp[SV.val,S,aL hd',jn hi,hm,hok,hz]
   ·exact aW.fail _
  ·rename_i hw;refine aW.ite (λe=> ?_) (λe=> ?_)
   ·subst e;exact yz _ λE w ρ hr=>by
     rw[hr x _ hx];cases d<;>simp only[isIface] at hw<;>first
      | (cases hw;done)
      | (simp only[SV.val,S,H,aL hd,F,if_true];cases ok<;>rfl)
   ·exact qc λE w ρ hr hok z hz=>by
     rw[hr x _ hx];cases d<;>simp only[isIface] at hw<;>first
      | (cases hw;done)
      | simp[SV.val,S,aL hd,e,hok,hz]
 ·exact aW.fail _
def abJ (P:Program)(t:TypeId)(x:SV)(K:Option SV->VC):VC :=
 match P.underlying t,x with
 | some .string,.str l s=>K (A (.int .i64 l s.length))
 | some (.slice _),.slc _ _ n _ _=>K (A (.int .i64 C n))
 | some (.slice _),.bx _ _ _ _ n _=>K (A (.int .i64 D n))
 | some (.slice _),.aS _ _ _ _ _ n _=>K (A (.int .i64 D n))
 | some (.slice _),.fc _ _ _ _ _ n _=>K (A (.int .i64 D n))
 | some (.slice _),.aK=>K (A (.int .i64 C 0))
 | some (.array n _),_=>K (A (.int .i64 C n))
 | some (.map _ _),.gr=>K (A (.int .i64 C 0))
 | _,_=>.fail "len"
theorem Yo (hx:σ x=A a)(h0:ats[0]?=A t) :
  aW P look σ (λρ=>Z ats ty #[ρ x]) (abJ P t a):=by
 unfold abJ;have hs: ∀ s:e_,(X s.toArray).size=s.length:=λs=>by simp[cx]
 split<;>first
  | exact aW.fail _
  | (rename_i hd;exact aW.v _ λE w ρ hc hr=>by
      rw[hr x _ hx];simp only[SV.val,Z,h0,ef,List.getElem?_cons_zero,H,aL hd,F]
      first
       | rfl
       | (show Result.ok (goInt (X _).size) w=_;rw[hs];rfl))
def abH (P:Program)(t:TypeId)(x:SV)(K:Option SV->VC):VC :=
 match P.underlying t,x with
 | some (.slice _),.slc _ _ _ l c=>K (A (.int .i64 l c))
 | some (.slice _),.bx _ _ D _ _ c=>K (A (.int .i64 D c))
 | some (.slice _),.aK=>K (A (.int .i64 C 0))
 | some (.array n _),_=>K (A (.int .i64 C n))
 | _,_=>.fail "cap"
theorem Yl (hx:σ x=A a)(h0:ats[0]?=A t) :
  aW P look σ (λρ=>cB ats ty #[ρ x]) (abH P t a):=by
 unfold abH
 split<;>first
  | exact aW.fail _
  | (rename_i hd;exact aW.v _ λE w ρ hc hr=>by rw[hr x _ hx];simp[SV.val,cB,h0,aL hd,goInt])
def sk (mx:Bool)(x y:SV)(K:Option SV->VC):VC :=
 match x,y with
 | .int k l a,.int k' l' b=>if k=k' then K (A (.int k (l&&l') (match mx with | true=>max a b | false=>min a b)))else .fail "min, max: kinds"
 | _,_=>.fail "min, max"
theorem Yq {y:Operand}(hx:σ x=A a)(hy:σ y=A b) :
  aW P look σ (λρ=>c4 ats ty #[ρ x,ρ y]) (sk D a b):=by
 unfold sk;split
 ·rename_i k l m k' l' n;refine aW.ite (λe=>aW.v _ λE w ρ hc hr=> ?_) (λ_=>aW.fail _);subst e;rw[hr x _ hx,hr y _ hy];simp only[SV.val,c4,c!,d_,Builtin.min2,H,I,F];congr 2;by_cases h:n<m
  ·rw[if_pos h];omega
  ·rw[if_neg h];omega
 ·exact aW.fail _
theorem Yp {y:Operand}(hx:σ x=A a)(hy:σ y=A b) :
  aW P look σ (λρ=>cL ats ty #[ρ x,ρ y]) (sk C a b):=by
 unfold sk;split
 ·rename_i k l m k' l' n;refine aW.ite (λe=>aW.v _ λE w ρ hc hr=> ?_) (λ_=>aW.fail _);subst e;rw[hr x _ hx,hr y _ hy];simp only[SV.val,cL,c!,d_,Builtin.max2,H,I,F];congr 2;by_cases h:n>m
  ·rw[if_pos h];omega
  ·rw[if_neg h];omega
 ·exact aW.fail _
def bf {α:Type}(cs:List α)(off:Nat):List α->List α
 | []=>cs
 | v::r=>bf (cs.set off v) (off+1) r
theorem vU {α β:Type}(f:α->β): ∀(vs cs:List α) (off:Nat),(bf cs off vs).map f=bf (cs.map f) off (vs.map f)
 | [],_,_=>rfl
 | v::r,cs,off=>by simp[bf,vU f r,List.map_set]
theorem qo: ∀(vs:List Value) (cells:Array Value) (off k:Nat),
  ((vs.zipIdx k).foldl (λcs (x:Value×Nat)=>cs.setIfInBounds (off+x.2) x.1) cells).toList=bf cells.toList (off+k) vs
 | [],_,_,_=>rfl
 | v::r,cells,off,k=>by simp only[List.zipIdx_cons,List.foldl_cons,bf];rw[qo r];simp[Nat.add_assoc]
def sR (place:Nat->Option (Nat×Nat))(cells:List SV):List (Nat×SV)->Option (List SV)
 | []=>A cells
 | (i,v)::rest =>
   match place i with
   | none=>G
   | some (off,size) =>if v.plain&&N (v.cells.length=size)&&N (off+size<=cells.length)then sR place (bf cells off v.cells) rest else G
theorem rH {E:Nat->Nat}{place:Nat->Option (Nat×Nat)}: ∀(parts:List (Nat×SV)) (cells out:List SV),sR place cells parts=A out ->
  c5 place (SV.vals E cells).toArray (parts.map λp=>(p.1,p.2.val E))=A (SV.vals E out).toArray
 | [],cells,out,h=>by simp[sR] at h;subst h;rfl
 | (i,v)::rest,cells,out,h=>by
   simp only[sR] at h;split at h
   ·cases h
   ·rename_i off size hp;split at h
    ·rename_i hc;simp only[Bool.and_eq_true,decide_eq_true_eq] at hc;obtain⟨⟨h1,h2⟩,h3⟩:=hc;have ih:=rH (E:=E) rest _ out h;simp only[b6,c5,hp];rw[SV.ff h1];rw[if_neg (by simp[h2,SV.bP];omega)];rw[← ih];congr 1;apply Array.ext';rw[← Array.foldl_toList,Array.toList_zipIdx,qo];simp[SV.bP,vU]
    ·cases h
def partsOf (σ:Operand->Option SV):List (Nat×Operand)->Option (List (Nat×SV))
 | []=>A []
 | (i,x)::r=>match σ x,partsOf σ r with
   | some v,A l=>A ((i,v)::l)
   | _,_=>G
theorem mX {σ:Operand->Option SV}{E:Nat->Nat}{ρ:Operand->Value}(hr:Reads E σ ρ): ∀ {ps:List (Nat×Operand)} {l:List (Nat×SV)},partsOf σ ps=A l ->
  ps.map (λp=>(p.1,ρ p.2))=l.map λp=>(p.1,p.2.val E)
 | [],l,h=>by simp[partsOf] at h;subst h;rfl
 | (i,x)::r,l,h=>by
   simp only[partsOf] at h;split at h
   ·rename_i v l' hv hl;injection h with h;subst h;simp[hr x v hv,mX hr hl]
   ·cases h
def j9 (P:Program):List Field->Option (List (Nat×Nat))
 | []=>A []
 | f::r=>match sz P f.type,j9 P r with
   | some n,A l=>A ((f.offset,n)::l)
   | _,_=>G
theorem pT {w:World}: ∀ {fs:List Field} {l:List (Nat×Nat)},j9 P fs=A l ->
  (fs.mapM (λf=>do pure (f.offset,← sizeOf f.type)):Sem (List (Nat×Nat))).run P w=.ok l w
 | [],l,h=>by simp[j9] at h;subst h;simp
 | f::r,l,h=>by
   simp only[j9] at h;split at h
   ·rename_i n l' hn hl;injection h with h;subst h;have ih:=pT (w:=w) hl;simp at ih;simp[List.mapM_cons,cu hn,ih]
   ·cases h
def Gd (P:Program)(σ:Operand->Option SV)(t:TypeId)(parts:List (Nat×Operand))(K:Option SV->VC):VC :=
 match P.underlying t,fX P t,partsOf σ parts with
 | some (.struct fs),A (.agg zs),A ps=>(match j9 P fs.toList with
   | some pl=>(match sR (λi=>pl[i]?) zs ps with
     | some out=>K (A (.agg out))
     | none=>.fail "build: fill")
   | none=>.fail "build: places")
 | some (.array _ e),A (.agg zs),A ps=>(match sz P e with
   | some m=>(match sR (λi=>A (i*m,m)) zs ps with
     | some out=>K (A (.agg out))
     | none=>.fail "build: fill")
   | none=>.fail "build: places")
 | _,_,_=>.fail "build"
theorem Qt {parts:Array (Nat×Operand)} :
  aW P look σ (λρ=>a! t (parts.map fun(i,x)=>(i,ρ x))) (Gd P σ t parts.toList):=by
 unfold Gd;split
 ·rename_i fs zs ps hd hz hp;split
  ·rename_i pl hpl;split
   ·rename_i out hf;refine aW.v _ λE w ρ hc hr=> ?_;have hm:(fs.mapM (λf=>do pure (f.offset,← sizeOf f.type)):Sem (Array (Nat×Nat))).run P w=.ok pl.toArray w:=by have:=pT (P:=P) (w:=w) hpl;rw[Array.mapM_eq_mapM_toList];simp only[Sem.run_map,this,F]
    have hfill:=rH (E:=E) ps zs out hf;have hparts:=mX hr hp;have hpp:(parts.map fun(x:Nat×Operand)=>(x.1,ρ x.2)).toList=ps.map λp=>(p.1,p.2.val E):=by rw[← hparts];simp
    simp only[a!,H,dG (E:=E) hz,F,aL hd,hm];simp only[SV.val,Value.cells,hpp,ef,hfill];rfl
   ·exact aW.fail _
  ·exact aW.fail _
 ·rename_i e zs ps hd hz hp;split
  ·rename_i m hm;split
   ·rename_i out hf;refine aW.v _ λE w ρ hc hr=> ?_;have hfill:=rH (E:=E) ps zs out hf;have hparts:=mX hr hp;have hpp:(parts.map fun(x:Nat×Operand)=>(x.1,ρ x.2)).toList=ps.map λp=>(p.1,p.2.val E):=by rw[← hparts];simp
    simp only[a!,H,dG (E:=E) hz,F,aL hd,cu hm];simp only[SV.val,Value.cells,hpp,hfill];rfl
   ·exact aW.fail _
  ·exact aW.fail _
 ·exact aW.fail _
end
end Sx
namespace Sx
open Go
noncomputable section
def mA (d:e_->Bool)(s:e_):e_->Bool:=λt=>d t||decide (t=s)
def x8 (g:e_->Int)(s:e_)(n:Int):e_->Int:=λt=>bif N (t=s)then n else g t
def QN (g:e_->Value)(s:e_)(v:Value):e_->Value:=λt=>bif N (t=s)then v else g t
def abQ (g:e_->Nat)(s:e_)(n:Nat):e_->Nat:=λt=>bif N (t=s)then n else g t
def dflt (b:Bool)(n:Int):Int:=bif b then n else 0
def acT (b:Bool)(v:Value):Value:=bif b then v else .pointer G
def bL.look (c:bL)(b:Bool)(s:e_)(z:SV):Option SV:=match c,z with
 | .int k g,.int k' _ 0=>if k=k' then A (.int k D (dflt b (g s)))else G
 | .raw g,.cH=>A (.raw (acT b (g s)))
 | _,_=>G
def bL.set (c:bL)(s:e_)(v:SV):Option bL:=match c,v with
 | .int k g,.int k' _ n=>if k=k' then A (.int k (x8 g s n))else G
 | .raw g,.raw u=>A (.raw (QN g s u))
 | .raw g,.cH=>A (.raw (QN g s (.pointer G)))
 | .ref k g,.fY _ a 0=>A (.ref k (abQ g s a))
 | _,_=>G
theorem JI {t:e_}(h:mC s=mC t):s=t:=by simp only[mC,Value.string.injEq] at h;have:=congrArg cm h;simpa using this
theorem GM {α β:Type}{f:α->β}: ∀ {l:List α},(l.map f).Nodup->∀ {a b:α},a∈ l->b∈ l->f a=f b->a=b
 | [],_,a,b,h,_,_=>by cases h
 | x::r,hn,a,b,ha,hb,e=>by
   simp only[b6,List.nodup_cons,ek,not_exists,not_and] at hn;rcases ei.1 ha with h1 | h1<;>rcases ei.1 hb with h2 | h2
   ·exact h1.trans h2.symm
   ·subst h1;exact absurd e.symm (hn.1 b h2)
   ·subst h2;exact absurd e (hn.1 a h1)
   ·exact GM hn.2 h1 h2 e
theorem bL.Ik {b:Bool}{z:SV}(h:c.look b s z=A v)(E:Nat->Nat):v.val E=if b=C then c.val s else z.val E:=by
 unfold bL.look at h;split at h
 ·split at h
  ·rename_i e;subst e;injection h with h;subst h;cases b<;>rfl
  ·cases h
 ·injection h with h;subst h;cases b<;>rfl
 ·cases h
theorem bL.GC (h:c.set s v=A c')(E:Nat->Nat):c'.val s=v.val E/\∀ t,t≠s->c'.val t=c.val t:=by
 unfold bL.set at h;split at h
 ·split at h
  ·rename_i e;subst e;injection h with h;subst h;exact⟨by simp[bL.val,SV.val,x8],λt ht=>by simp[bL.val,x8,ht]⟩
  ·cases h
 ·injection h with h;subst h;exact⟨by simp[bL.val,SV.val,QN],λt ht=>by simp[bL.val,QN,ht]⟩
 ·injection h with h;subst h;exact⟨by simp[bL.val,SV.val,QN],λt ht=>by simp[bL.val,QN,ht]⟩
 ·injection h with h;subst h;exact⟨by simp[bL.val,SV.val,abQ],λt ht=>by simp[bL.val,abQ,ht]⟩
 ·cases h
theorem VK (s:e_):c_ .string (mC s):=trivial
theorem zg.find {pend}(h:zg d c pend es clock)(s:e_) :
  (d s=D/\L .string (mC s) es.toList 0=A G/\∀ x∈ es.toList,x.key≠mC s) ∨
  (d s=C/\∃ j e,L .string (mC s) es.toList 0=A (A (j,c.val s))/\es[j]?=A e/\e.key=mC s/\e.val=c.val s):=by
 rcases MapKept.findNow_spec (VK s) es.toList 0 h.ks with ⟨h1,h2⟩ | ⟨j,e,h1,h2,h3⟩
 ·cases hd:d s with
  | false=>exact .inl ⟨rfl,h1,h2⟩
  | true =>obtain⟨e,he,hk,_⟩:=h.has s hd;exact absurd hk (h2 e he)
 ·have hj:es[j]?=A e:=by simpa using h2
  have hm:e∈ es.toList:=en h2;cases hd:d s with
  | false=>exact absurd h3 (h.no s hd e hm)
  | true =>obtain⟨e',he',hk,hv⟩:=h.has s hd;have:=GM h.st.2.2 he' hm (hk.trans h3.symm);subst this;exact .inr ⟨rfl,j,e',by rw[h1,Nat.zero_add,hv],hj,h3,hv⟩
theorem mem_modify {i:Nat}{f:MapEntry->MapEntry}{x:MapEntry}:x∈ (es.modify i f).toList↔∃ j e,es[j]?=A e/\x=if i=j then f e else e:=by
 rw[ej];constructor
 ·rintro⟨j,hj⟩;rw[W,b_] at hj;by_cases e:i=j
  ·rw[if_pos e] at hj;obtain⟨y,hy,rfl⟩:=Option.map_eq_some_iff.1 hj;exact⟨j,y,hy,by rw[if_pos e]⟩
  ·rw[if_neg e] at hj;exact⟨j,x,hj,by rw[if_neg e]⟩
 ·rintro⟨j,e,hj,rfl⟩;refine⟨j,?_⟩;rw[W,b_,hj];by_cases e:i=j<;>simp[e]
theorem zg.put {pend}(h:zg d c pend es clock){u:Value}(hc:c'.val s=u/\∀ t,t≠s->c'.val t=c.val t)
  {j:Nat} {e:MapEntry} (hj:es[j]?=A e) (hk:e.key=mC s) {f:MapEntry->MapEntry} (hf:(f e).key=mC s/\(f e).val=u/\(f e).born=e.born) (hfb: ∀ x,(f x).born=x.born) (hd:d s=C) {pend'} (hp: ∀ t b,pend'=A (t,b)->t=s/\(e.born:Int)=b):zg (mA d s) c' pend' (es.modify j f) clock:=by
 have hkey: ∀ e',es[j]?=A e'->(f e').key=e'.key:=λe' he'=>by rw[hj] at he';cases he';rw[hf.1,hk]
 have hme:f e∈ (es.modify j f).toList:=mem_modify.2 ⟨j,e,hj,by rw[if_pos rfl]⟩;refine⟨MapKept.stamped_modify h.st _ _ (λx _=>hfb x) (λe' _ he'=>hkey e' he'),MapKept.isKey_modify h.ks _ _ hkey,λt ht=> ?_,λt ht x hx=> ?_,λt b ht=> ?_⟩
 ·by_cases e1:t=s
  ·subst e1;exact⟨f e,hme,hf.1,by rw[hf.2.1,hc.1]⟩
  ·obtain⟨x,hx,hxk,hxv⟩:=h.has t (by simpa [mA,e1] using ht);rw[ej] at hx;obtain⟨i,hi⟩:=hx;rw[W] at hi;have hne:j≠i:=λe2=>by subst e2;rw[hj] at hi;cases hi;exact e1 (JI (hxk.symm.trans hk))
   exact⟨x,mem_modify.2 ⟨i,x,hi,by rw[if_neg hne]⟩,hxk,by rw[hxv,hc.2 t e1]⟩
 ·have hts:t≠s/\d t=false:=by simp only[mA,b!,decide_eq_false_iff_not] at ht;exact⟨ht.2,ht.1⟩
  obtain⟨i,y,hi,rfl⟩:=mem_modify.1 hx;have hy:y∈ es.toList:=en (by rw[W];exact hi);by_cases e1:j=i
  ·rw[if_pos e1];subst e1;rw[hkey y hi];exact h.no t hts.2 y hy
  ·rw[if_neg e1];exact h.no t hts.2 y hy
 ·obtain⟨rfl,hb⟩:=hp t b ht;exact⟨f e,hme,by rw[hf.2.2];exact hb,hf.1⟩
theorem zg.add {pend}(h:zg d c pend es clock){u:Value}(hc:c'.val s=u/\∀ t,t≠s->c'.val t=c.val t)
  (hn: ∀ x∈ es.toList,x.key≠mC s) {pend'} (hp: ∀ t b,pend'=A (t,b)->t=s/\(clock:Int)=b):zg (mA d s) c' pend' (es.push {key:=mC s,val:=u,born:=clock}) (clock+1):=by
 have mem: ∀ {x},x∈ (es.push {key:=mC s,val:=u,born:=clock}).toList↔x∈ es.toList∨x={key:=mC s,val:=u,born:=clock}:=by intro x;simp only[Array.toList_push,List.mem_append,List.mem_singleton]
 refine⟨MapKept.stamped_push h.st hn,λx hx=> ?_,λt ht=> ?_,λt ht x hx=> ?_,λt b ht=> ?_⟩
 ·rcases mem.1 hx with hx | rfl
  ·exact h.ks x hx
  ·trivial
 ·by_cases e1:t=s
  ·subst e1;exact⟨_,mem.2 (.inr rfl),rfl,hc.1.symm⟩
  ·obtain⟨x,hx,hxk,hxv⟩:=h.has t (by simpa [mA,e1] using ht);exact⟨x,mem.2 (.inl hx),hxk,by rw[hxv,hc.2 t e1]⟩
 ·simp only[mA,b!,decide_eq_false_iff_not] at ht;rcases mem.1 hx with hx | rfl
  ·exact h.no t ht.1 x hx
  ·exact λe1=>ht.2 (JI e1.symm)
 ·obtain⟨rfl,hb⟩:=hp t b ht;exact⟨_,mem.2 (.inr rfl),hb,rfl⟩
theorem zg.nil (c:bL)(clock:Nat):zg (λ_=>D) c G #[] clock :=⟨MapKept.stamped_empty clock,by simp,(λ_ h=>by cases h),by simp,(λ_ _ h=>by cases h)⟩
def NR:SV->SV->Option (Bool×Bool)
 | .str l s,.str l' s'=>A (l&&l',N (s=s'))
 | .int k l a,.int k' l' b=>if k=k' then A (l&&l',N (a=b))else G
 | .bool l a,.bool l' b=>A (l&&l',N (a=b))
 | _,_=>G
def tH:TypeDesc->SV->Bool
 | .string,.str .. =>C
 | .int k,.int k' .. =>decide (k'=k)
 | .bool,.bool .. =>C
 | _,_=>D
theorem rU {d:TypeDesc}(h:tH d v=C)(E:Nat->Nat):c_ d (v.val E):=by
 unfold tH at h;split at h
 ·trivial
 ·have h:=of_decide_eq_true h;exact h
 ·trivial
 ·cases h
theorem Lf {d:TypeDesc}{e:Bool}(ha:tH d a=C)(hb:tH d b=C)(h:NR a b=A (l,e))(E:Nat->Nat) :
  Instr.sameNow d (a.val E) (b.val E)=A e/\(e=C->a.val E=b.val E):=by
 obtain⟨r,h1,h2⟩:=MapKept.sameNow_of_keys (rU ha E) (rU hb E);have he:e=C↔a.val E=b.val E:=by
  unfold NR at h;split at h
  ·injection h with h;injection h with _ h;subst h;simp only[decide_eq_true_eq,SV.val,Value.string.injEq];constructor
   ·intro h;rw[h]
   ·intro h;have:=congrArg cm h;simpa using this
  ·split at h
   ·rename_i hk;injection h with h;injection h with _ h;subst h;subst hk;simp[SV.val]
   ·cases h
  ·injection h with h;injection h with _ h;subst h;simp[SV.val]
  ·cases h
 rw[h1];refine⟨?_,he.1⟩;congr 1;cases r<;>cases e<;>simp_all
abbrev Xa:=Option (Nat×(Nat×SV×SV))
def gA (d:TypeDesc)(k:SV)(t:Xa->VC):List (Nat×SV×SV)->Nat->VC
 | [],_=>t G
 | e::r,i=>match tH d e.2.1,NR k e.2.1 with
   | true,A (C,b)=>(match b with
     | true=>t (A (i,e))
     | false=>gA d k t r (i+1))
   | true,A (D,b)=>fork b λb=>(match b with
     | true=>t (A (i,e))
     | false=>gA d k t r (i+1))
   | _,_=>.fail "map: keys"
theorem mS {d:TypeDesc}{k:SV}(hk:tH d k=C): ∀(es:List (Nat×SV×SV)) (i:Nat),∃(obl:Prop) (r:Xa),(∀ t,(gA d k t es i).holds↔obl/\(t r).holds) /\
  (obl->(∀ E,L d (k.val E) (ee E es) i=A (r.map λx=>(x.1,x.2.2.2.val E)))/\∀ j e,r=A (j,e)->i<=j/\es[j - i]?=A e/\∀ E,e.2.1.val E=k.val E)
 | [],i=>⟨True,G,λt=>⟨λh=>⟨trivial,h⟩,λh=>h.2⟩,λ_=>⟨λ_=>rfl,λ_ _ h=>by cases h⟩⟩
 | e::r,i=>by
   obtain⟨obl,x,h1,h2⟩:=mS hk r (i+1)
   have fl: ∀ why:String,∃(obl:Prop) (r':Xa),(∀ t:Xa->VC,(VC.fail why).holds↔obl/\(t r').holds) /\
     (obl->(∀ E,L d (k.val E) (ee E (e::r)) i=A (r'.map λx=>(x.1,x.2.2.2.val E)))/\∀ j e',r'=A (j,e')->i<=j/\(e::r)[j - i]?=A e'/\∀ E,e'.2.1.val E=k.val E) :=
    λwhy=>⟨False,G,λt=>⟨λh=>h.elim,λh=>h.1.elim⟩,λh=>h.elim⟩
   cases hd:tH d e.2.1 with
   | false=>simp only[gA,hd];exact fl _
   | true =>
     cases he:NR k e.2.1 with
     | none=>simp only[gA,hd,he];exact fl _
     | some q =>
       obtain⟨l,b⟩:=q;have key:=λE=>Lf hk hd he E
       have fnd: ∀ E,L d (k.val E) (ee E (e::r)) i=(match b with
         | true=>A (A (i,e.2.2.val E))
         | false=>L d (k.val E) (ee E r) (i+1)):=λE=>by
        show L d (k.val E) ({key:=e.2.1.val E,val:=e.2.2.val E,born:=e.1}::ee E r) i=_;rw[L];simp only[(key E).1];cases b<;>rfl
       have main: ∃(obl:Prop) (r':Xa),(∀ t:Xa->VC,(match b with | true=>t (A (i,e)) | false=>gA d k t r (i+1)).holds↔obl/\(t r').holds) /\
         (obl->(∀ E,L d (k.val E) (ee E (e::r)) i=A (r'.map λx=>(x.1,x.2.2.2.val E)))/\∀ j e',r'=A (j,e')->i<=j/\(e::r)[j - i]?=A e'/\∀ E,e'.2.1.val E=k.val E):=by
        cases b with
        | true =>refine⟨True,A (i,e),λt=>⟨λh=>⟨trivial,h⟩,λh=>h.2⟩,λ_=>⟨λE=>by rw[fnd E];rfl,λj e' h=> ?_⟩⟩;injection h with h;injection h with h3 h4;subst h3;subst h4;exact⟨Nat.le_refl _,by simp,λE=>((key E).2 rfl).symm⟩
        | false =>refine⟨obl,x,h1,λho=>⟨λE=>by rw[fnd E];exact(h2 ho).1 E,λj e' h=> ?_⟩⟩;obtain⟨g1,g2,g3⟩:=(h2 ho).2 j e' h;refine⟨by omega,?_,g3⟩;rw[show j - i=(j - (i+1))+1 by omega];simpa using g2
       cases l with
       | true=>simp only[gA,hd,he];exact main
       | false =>simp only[gA,hd,he];obtain⟨obl',r',m1,m2⟩:=main;refine⟨obl',r',λt=> ?_,m2⟩;rw[c9];exact m1 t
def oT (ok:Bool)(z:SV):Xa->SV
 | some (_,e)=>(match ok with
   | true=>.aD [e.2.2,.bool C C]
   | false=>e.2.2)
 | none=>(match ok with
   | true=>.aD [z,.bool C D]
   | false=>z)
def zL (ok:Bool)(key a:Nat)(b:Bool):SV:=match ok,b with
 | true,C=>.aD [.fY key a 0,.bool C C]
 | true,D=>.aD [.cH,.bool C D]
 | false,C=>.fY key a 0
 | false,D=>.cH
def NS (d:TypeDesc)(k:SV)(ok:Bool)(z:SV)(es:List (Nat×SV×SV))(K:Option SV->VC):VC:=gA d k (λr=>K (A (oT ok z r))) es 0
def zP (P:Program)(look:k5)(t:TypeId)(x k:SV)(ok:Bool)(K:Option SV->VC):VC :=
 match P.underlying t with
 | some (.map kt et)=>(match P.underlying kt,fX P et with
   | some d,A z=>(match tH d k,x with
     | true,.gr=>K (A (oT ok z G))
     | true,.map key=>(match look key with
       | some (.map es _)=>NS d k ok z es K
       | some (.fmap f c _)=>(match d,k with
         | .string,.str _ s=>(match c.look (f s) s z with
           | some v=>K (A (match ok with
             | true=>.aD [v,.bool D (f s)]
             | false=>v))
           | none=>(match c,z with
             | .ref key' g,.cH=>fork (f s) λb=>K (A (zL ok key' (g s) b))
             | _,_=>.fail "lookup: what a map holds"))
         | _,_=>.fail "lookup: a key")
       | _=>.fail "lookup: no map")
     | _,_=>.fail "lookup")
   | _,_=>.fail "lookup: types")
 | _=>.fail "lookup: no map type"
section
variable {P : Program} {look : k5} {σ : Operand -> Option SV}
theorem aW.acV {s:(Operand->Value)->Sem Value}{b:Bool}{f:Bool->SV}(h:aW P look σ s (λK=>K (A (f b)))):aW P look σ s (λK=>Sx.fork b λc=>K (A (f c))):=by obtain⟨obl,sv,h1,h2⟩:=h;exact⟨obl,sv,λK=>by rw[c9];exact h1 K,h2⟩
theorem Lh {kt et:TypeId}{d:TypeDesc}{z:SV}{k:Operand}{key:Nat}{es:List (Nat×SV×SV)}(ht:P.underlying t=A (.map kt et))(hd:P.underlying kt=A d)(hz:fX P et=A z)(hkd:tH d b=C)(hl:look key=A (.map es clock))(hx:σ x=A (.map key))(hk:σ k=A b) :
  aW P look σ (λρ=>R t (ρ x) (ρ k) ok) (NS d b ok z es):=by
 obtain⟨obl,r,h1,h2⟩:=mS hkd es 0;refine⟨obl,A (oT ok z r),λK=>h1 _,λE w ρ hc hr ho=> ?_⟩;obtain⟨ob,hob,hb⟩:=hc.1 key _ hl rfl;have hb:ob=.map (ee E es).toArray clock:=hb;subst hb;have hf:=(h2 ho).1 E;have hf':L d (b.val E) (ee E es).toArray.toList 0=_:=hf;refine⟨(oT ok z r).val E,?_,λv hv=>by injection hv with hv;rw[← hv]⟩;simp only[R,hr x _ hx,hr k _ hk,H,aL ht,F,SV.val,I,az hob,an hd (rU hkd E) _ 9999,ag,aL hd,hf'];cases r with
 | none=>cases ok<;>simp[dG (E:=E) hz,oT,SV.val,SV.vals]
 | some q=>cases ok<;>simp[oT,SV.val,SV.vals]
theorem Mt {k:Operand}(hx:σ x=A a)(hk:σ k=A b) :
  aW P look σ (λρ=>R t (ρ x) (ρ k) ok) (zP P look t a b ok):=by
 unfold zP;split
 ·rename_i kt et ht;split
  ·rename_i d z hd hz;split
   ·rename_i hkd;refine aW.v _ λE w ρ hc hr=> ?_;simp only[R,hr x _ hx,hr k _ hk,H,aL ht,F,SV.val,I];cases ok<;>simp[ag,aL hd,L,dG (E:=E) hz,oT,SV.val,SV.vals,an hd (rU hkd E)]
   ·rename_i key hkd;split
    ·rename_i es clock hl;exact Lh ht hd hz hkd hl hx hk
    ·rename_i f c pend hl;split
     ·rename_i lt s;split
      ·rename_i v hv;refine aW.k _ λE w ρ hc hr=> ?_;obtain⟨ob,hob,es,clock,rfl,hfm⟩:=hc.1 key _ hl rfl;have hlv:=bL.Ik hv E
       refine⟨match ok with
        | true=>.tuple #[v.val E,.bool (f s)]
        | false=>v.val E,?_,λu hu=>by injection hu with hu;subst hu;cases ok<;>rfl⟩
       simp only[R,hr x _ hx,hr k _ hk,H,aL ht,F,SV.val,I,az hob,an (k:=.string ⟨s.toArray⟩) hd trivial _ 9999,ag,aL hd];rcases hfm.find s with ⟨h1,h2,_⟩ | ⟨h1,j,e,h2,_⟩
       ·have h2':L .string (.string ⟨s.toArray⟩) es.toList 0=_:=h2;rw[h1] at hlv ⊢;simp only[h2',I,F,H,dG (E:=E) hz,hlv];cases ok<;>simp
       ·have h2':L .string (.string ⟨s.toArray⟩) es.toList 0=_:=h2;rw[h1] at hlv ⊢;simp only[h2',I,F,H,hlv];cases ok<;>simp
      ·split
       ·rename_i key' g _;refine aW.acV ?_;refine aW.k _ λE w ρ hc hr=> ?_;obtain⟨ob,hob,es,clock,rfl,hfm⟩:=hc.1 key _ hl rfl;refine⟨(zL ok key' (g s) (f s)).val E,?_,λu hu=>by injection hu with hu;subst hu;rfl⟩;simp only[R,hr x _ hx,hr k _ hk,H,aL ht,F,SV.val,I,az hob,an (k:=.string ⟨s.toArray⟩) hd trivial _ 9999,ag,aL hd];rcases hfm.find s with ⟨h1,h2,_⟩ | ⟨h1,j,e,h2,_⟩
        ·have h2':L .string (.string ⟨s.toArray⟩) es.toList 0=_:=h2;rw[h1];simp only[h2',I,F,H,dG (E:=E) hz];cases ok<;>simp[zL,SV.val,SV.vals]
        ·have h2':L .string (.string ⟨s.toArray⟩) es.toList 0=_:=h2;rw[h1];simp only[h2',I,F,H];cases ok<;>simp[zL,SV.val,SV.vals,bL.val]
       ·exact aW.fail _
     ·exact aW.fail _
    ·exact aW.fail _
   ·exact aW.fail _
  ·exact aW.fail _
 ·exact aW.fail _
end
def bytesOf:List SV->Option (Bool×e_)
 | []=>A (C,[])
 | .int .u8 l v::r=>(match bytesOf r with
   | some (l',bs)=>A (l&&l',T v.toNat::bs)
   | none=>G)
 | _=>G
def zG (P:Program)(t:TypeId):Bool:=match P.underlying t with
 | some (.slice e)=>(match P.underlying e with
   | some (.int .u8)=>C
   | _=>D)
 | _=>D
def bD (f:Nat->Int)(i n:Nat):e_:=(List.range n).map λj=>T (f (i+j)).toNat
theorem uN (g:Nat->Int): ∀ l:List Nat,∃ lt,bytesOf (l.map λj=>SV.int .u8 D (g j))=A (lt,l.map λj=>T (g j).toNat)
 | []=>⟨C,rfl⟩
 | a::r=>by obtain⟨lt,h⟩:=uN g r;exact⟨D&&lt,by simp only[b6,bytesOf,h]⟩
def Mq (look:k5)(a:SV)(K:Option SV->VC):VC:=match a with
 | .aK=>K (A (.str C []))
 | .slc key o n _ _=>(match look key with
   | some (.cells cs _ _)=>(match gv cs o n with
     | some l=>(match bytesOf l with
       | some (l',bs)=>K (A (.str l' bs))
       | none=>.fail "convert: bytes that are not known")
     | none=>.fail "convert: a slice out of its block")
   | _=>.fail "convert: the block")
 | .bx key 1 D i n _=>(match look key with
   | some (.rows D nb [.int .u8 f] _ _ _)=>.and (.atom (i+n<=nb)) (K (A (.str D (bD f i n))))
   | _=>.fail "convert: the block")
 | _=>.fail "convert: a slice"
def Ge (P:Program)(look:k5)(src dst:TypeId)(a:SV)(K:Option SV->VC):VC:=match zG P src,P.underlying dst with
 | true,A .string=>Mq look a K
 | _,_=>Vd P src dst a K
def vD (c:Value)(s:ByteArray):Sem (ForInStep ByteArray):=do
 let .int .u8 n:=c | stuck "bytesToString: byte expected"
 pure (.yield (s.push (T n.toNat)))
theorem nE (a:Addr)(n c:Nat):Conv.bytesToString (.slice (A a) n c)=(do
  let s ← forIn (← loadCells a n) eu vD
  pure (.string s)):=rfl
theorem uq {P:Program}{w:World}{E:Nat->Nat}: ∀ {l:List SV} {lt:Bool} {bs:e_} (acc:e_),bytesOf l=A (lt,bs) ->
  (forIn (SV.vals E l) (⟨acc.toArray⟩:ByteArray) vD).run P w=.ok ⟨(acc++bs).toArray⟩ w
 | [],lt,bs,acc,h=>by simp only[bytesOf,Option.some.injEq,Prod.mk.injEq] at h;obtain⟨_,rfl⟩:=h;simp[SV.vals]
 | x::r,lt,bs,acc,h=>by
   unfold bytesOf at h;split at h
   ·rename_i e;cases e
   ·rename_i l v r' e;injection e with e1 e2;subst e1;subst e2;split at h
    ·rename_i l' bs' hr;simp only[Option.some.injEq,Prod.mk.injEq] at h;obtain⟨_,rfl⟩:=h;simp only[SV.vals,SV.val,List.forIn_cons,H];have:(vD (.int .u8 v) ⟨acc.toArray⟩).run P w=.ok (.yield ⟨(acc++[T v.toNat]).toArray⟩) w:=by simp[vD,ez]
     rw[this];simp only[F];rw[uq (acc++[T v.toNat]) hr];simp
    ·cases h
   ·cases h
section
variable {P : Program} {look : k5} {σ : Operand -> Option SV}
theorem nq {src dst:TypeId}{v:Value}(hb:zG P src=C)(hd:P.underlying dst=A .string)(hv: ∀ k n,v≠.int k n)(hs: ∀ b,v≠.string b) :
  (convert src dst v).run P w=(Conv.bytesToString v).run P w:=by
 unfold zG at hb;split at hb
 ·rename_i e he;split at hb
  ·rename_i he2;simp only[convert,H,aL he,aL hd,F]
   cases v<;>first
    | (rename_i k n;exact absurd rfl (hv k n))
    | (rename_i b;exact absurd rfl (hs b))
    | (simp only[aL he2,F])
  ·cases hb
 ·cases hb
theorem Qu {src dst:TypeId}(hx:σ x=A a):aW P look σ (λρ=>convert src dst (ρ x)) (Ge P look src dst a):=by
 unfold Ge;split
 ·rename_i hb hd;unfold Mq;split
  ·exact aW.v _ λE w ρ hc hr=>by rw[hr x _ hx,nq hb hd (λ_ _ h=>by cases h) (λ_ h=>by cases h)];rfl
  ·rename_i key o n cl c;split
   ·rename_i cs tot ty hk;split
    ·rename_i l hl;split
     ·rename_i l' bs hbs;refine aW.v _ λE w ρ hc hr=> ?_;obtain⟨ob,ho,c0,fr,rfl,_,h2,_⟩:=hc.1 key _ hk rfl;have hg:=c7 hl;have hll:=run_loadCells (P:=P) ho o (SV.vals E l) (λj v hj=>by
       rw[SV.bP,d!] at hj;cases hjl:l[j]? with
       | none=>rw[hjl] at hj;cases hj
       | some u=>rw[hjl] at hj;injection hj with hj;subst hj;exact h2 _ _ (hg.2 j u hjl))
      have hlen:(SV.vals E l).length=n:=by rw[SV.bP,b5,hg.1]
      rw[hlen] at hll;rw[hr x _ hx,nq hb hd (λ_ _ h=>by cases h) (λ_ h=>by cases h)];simp only[SV.val,nE,H,hll,F];rw[← b9];have:=uq (P:=P) (w:=w) (E:=E) [] hbs;simp only[ep] at this;exact(congrArg (λr:Result ByteArray=>r.andThen λa w'=>Sem.run P (pure (Value.string a)) w') this).trans rfl
     ·exact aW.fail _
    ·exact aW.fail _
   ·exact aW.fail _
  ·rename_i key i n c;split
   ·rename_i nb f ro tot ty hk;refine aW.atom λhin=>aW.v _ λE w ρ hc hr=> ?_;obtain⟨ob,ho,c0,fr,rfl,_,_,_,h2⟩:=hc.1 key _ hk rfl;obtain⟨lt,hbs⟩:=uN (λj=>f (i+j)) (List.range n);have hl:(SV.vals E ((List.range n).map λj=>SV.int .u8 D (f (i+j)))).length=n:=by rw[SV.bP,b5,b5,List.length_range]
    have hll:=run_loadCells (P:=P) ho (i*1) (SV.vals E ((List.range n).map λj=>SV.int .u8 D (f (i+j)))) (λj v hj=>by
     rw[SV.bP,List.map_map,d!] at hj;by_cases hjn:j<n
     ·rw[List.getElem?_range hjn] at hj;injection hj with hj;subst hj;have:=h2 (i+j) 0 (.int .u8 f) (by omega) rfl;rw[show i*1+j=(i+j)*[aE.int IntKind.u8 f].length+0 by simp];exact this
     ·rw[List.getElem?_eq_none (by simpa using hjn)] at hj;cases hj)
    rw[hl] at hll;rw[hr x _ hx,nq hb hd (λ_ _ h=>by cases h) (λ_ h=>by cases h)];simp only[SV.val,a_,cond_false,nE,H,hll,F];rw[← b9];have:=uq (P:=P) (w:=w) (E:=E) [] hbs;simp only[ep] at this;exact(congrArg (λr:Result ByteArray=>r.andThen λa w'=>Sem.run P (pure (Value.string a)) w') this).trans rfl
   ·exact aW.fail _
  ·exact aW.fail _
 ·exact Ve hx
end
def Qz (P:Program)(src dst:TypeId):Bool :=
 match P.underlying src,P.underlying dst with
 | some (.int _),A (.int _)=>C
 | some .string,A .string=>C
 | _,A .string=>zG P src
 | _,_=>D
def dQ (P:Program):Op->Bool
 | .move _ | .assign _ | .pick .. | .load .. | .nilCheck _ | .binOp .. | .unOp .. | .makeInterface .. | .makeFunc .. | .slice .. | .fieldAddr .. | .field ..
 | .indexAddr .. | .index .. | .typeAssert .. | .extract .. | .build .. | .lookup .. =>C
 | .convert s d _=>Qz P s d
 | .call c=>(match c.callee with
   | .builtin .len | .builtin .cap | .builtin .min | .builtin .max=>C
   | _=>D)
 | _=>D
def need (x:Option SV)(t:SV->VC):VC :=
 match x with
 | some v=>t v
 | none=>.fail "a value that is not known"
def abK (x:Option SV)(K:Option SV->VC):VC :=
 match x with
 | some (.ptr a b c)=>K (A (.ptr a b c))
 | some (.kN a b c d)=>K (A (.kN a b c d))
 | some (.iD a b c d e)=>K (A (.iD a b c d e))
 | some (.fY a b c)=>K (A (.fY a b c))
 | some (.m8 a b c d e)=>K (A (.m8 a b c d e))
 | some (.iface t v)=>K (A (.iface t v))
 | some (.func (.func f) a b)=>K (A (.func (.func f) a b))
 | _=>.fail "nilCheck"
def Vh (c a b:Option SV)(K:Option SV->VC):VC :=
 match c with
 | some (.bool C v)=>(match v with
   | true=>K a
   | false=>K b)
 | some (.bool D v)=>fork v (λe=>match e with
   | true=>K a
   | false=>K b)
 | _=>.fail "pick"
def Oe (P:Program)(look:k5)(t:TypeId)(x:SV)(K:Option SV->VC):VC :=
 match x with
 | .map key=>(match P.underlying t,look key with
   | some (.map _ _),A (.map es _)=>K (A (.int .i64 C es.length))
   | _,_=>.fail "len: no map")
 | _=>abJ P t x K
theorem Vf {P:Program}{look:k5}{σ:Operand->Option SV}(hx:σ x=A a)(h0:ats[0]?=A t) :
  aW P look σ (λρ=>Z ats ty #[ρ x]) (Oe P look t a):=by
 unfold Oe;split
 ·rename_i key;split
  ·rename_i kt et es clock ht hl;refine aW.v _ λE w ρ hc hr=> ?_;obtain⟨ob,hob,hb⟩:=hc.1 key _ hl rfl;have hb:ob=.map (ee E es).toArray clock:=hb;subst hb;simp[Z,h0,hr x _ hx,SV.val,aL ht,az hob,goInt,ee]
  ·exact aW.fail _
 ·exact Yo hx h0
def Oc (P:Program)(look:k5)(σ:Operand->Option SV)(b:Builtin)(ats:Array TypeId)(args:List Operand)(K:Option SV->VC):VC :=
 match b,args with
 | .len,[x]=>(match ats[0]? with
   | some t=>need (σ x) (λv=>Oe P look t v K)
   | none=>.fail "len")
 | .cap,[x]=>(match ats[0]? with
   | some t=>need (σ x) (λv=>abH P t v K)
   | none=>.fail "cap")
 | .min,[x,y]=>need (σ x) (λv=>need (σ y) (λu=>sk D v u K))
 | .max,[x,y]=>need (σ x) (λv=>need (σ y) (λu=>sk C v u K))
 | _,_=>.fail "builtin"
def qop (P:Program)(look:k5)(σ:Operand->Option SV)(o:Op)(K:Option SV->VC):VC :=
 match o with
 | .move x | .assign x=>K (σ x)
 | .pick c a b=>Vh (σ c) (σ a) (σ b) K
 | .load t a=>Og P look t (σ a) K
 | .nilCheck x=>abK (σ x) K
 | .binOp op t x y _=>need (σ x) (λa=>need (σ y) (λb=>abG P op t (isConst x||isConst y) a b K))
 | .unOp op _ x=>need (σ x) (λa=>qun op a K)
 | .convert s d x=>need (σ x) (λa=>Ge P look s d a K)
 | .makeInterface t x=>need (σ x) (λa=>ue P t a K)
 | .makeFunc fn a b=>xU fn (E5 σ a.toList) (E5 σ b.toList) K
 | .slice t x lo hi mx=>Gj P σ t (σ x) lo hi mx K
 | .fieldAddr s x f=>ua P s (σ x) f K
 | .field t x f=>need (σ x) (λa=>Mr P t a f K)
 | .indexAddr t x i=>uc P t (σ x) (σ i) K
 | .index t x i=>need (σ x) (λa=>need (σ i) (λb=>Ms P t a b K))
 | .typeAssert x _ at_ ok=>need (σ x) (λa=>Gc P a at_ ok K)
 | .extract x i=>need (σ x) (λa=>BB a i K)
 | .build t parts=>Gd P σ t parts.toList K
 | .lookup t x k ok=>need (σ x) (λa=>need (σ k) (λb=>zP P look t a b ok K))
 | .call c=>(match c.callee with
   | .builtin b=>Oc P look σ b c.argTypes c.args.toList K
   | _=>.fail "call")
 | _=>.fail "no quiet operation"
def iR (P:Program)(look:k5)(σ:Operand->Option SV)(o:Oper)(t:QT):Prop :=
 ∃(obl:Prop) (sv:Option SV),(∀ K,(t K).holds↔obl/\(K sv).holds) /\
  (∀ E w ρ,Compat E look w->Reads E σ ρ->obl->∃ r,(execOp ρ o).run P w=.ok (.value r) w/\∀ v,sv=A v->r=v.val E)
section
variable {P : Program} {look : k5} {σ : Operand -> Option SV}
theorem iR.of {s:(Operand->Value)->Sem Value}{t:QT}(h:aW P look σ s t)(he: ∀ ρ,execOp ρ o=(do pure (.value (← s ρ)):Sem Next)):iR P look σ o t:=by obtain⟨obl,sv,h1,h2⟩:=h;refine⟨obl,sv,h1,λE w ρ hc hr ho=> ?_⟩;obtain⟨r,hrun,hv⟩:=h2 E w ρ hc hr ho;exact⟨r,by rw[he,H,hrun];rfl,hv⟩
theorem iR.fail (why:String):iR P look σ o (λ_=>.fail why) :=⟨False,G,λ_K=>⟨λh=>h.elim,λh=>h.1.elim⟩,λ_ _ _ _ _ h=>h.elim⟩
theorem iR.need {o:Oper}{x:Operand}{t:SV->QT}(h: ∀ v,σ x=A v->iR P look σ o (t v)):iR P look σ o (λK=>need (σ x) (λv=>t v K)):=by
 unfold Sx.need;cases hx:σ x with
 | none=>exact iR.fail _
 | some v=>exact h v hx
theorem iR.k (x:Operand)(he: ∀ ρ,execOp ρ o=(pure (.value (ρ x)):Sem Next)):iR P look σ o (λK=>K (σ x)) :=⟨True,σ x,λK=>⟨λh=>⟨trivial,h⟩,λh=>h.2⟩,λE w ρ _ hr _=>⟨ρ x,by rw[he];rfl,λv hv=>hr x v hv⟩⟩
theorem Gg (o:Oper):iR P look σ o (qop P look σ o.op):=by
 obtain⟨dst,op,type,pos,after,guard⟩:=o;cases op
 case move x=>exact iR.k x λρ=>rfl
 case assign x=>exact iR.k x λρ=>rfl
 case pick c a b =>
  show iR P look σ _ (Vh (σ c) (σ a) (σ b));unfold Vh;have key: ∀ l v,σ c=A (.bool l v)->iR P look σ ⟨dst,.pick c a b,type,pos,after,guard⟩ (λK=>match v with | true=>K (σ a) | false=>K (σ b)):=by
   intro l v hc;have he: ∀ E ρ w,Reads E σ ρ->(execOp ρ ⟨dst,.pick c a b,type,pos,after,guard⟩).run P w=.ok (.value (if v then ρ a else ρ b)) w:=by intro E ρ w hr;simp only[execOp,hr c _ hc,SV.val,asBool,H,I,F]
   cases v with
   | true=>exact⟨True,σ a,λK=>⟨λh=>⟨trivial,h⟩,λh=>h.2⟩,λE w ρ _ hr _=>⟨ρ a,by rw[he E ρ w hr];rfl,λv hv=>hr a v hv⟩⟩
   | false=>exact⟨True,σ b,λK=>⟨λh=>⟨trivial,h⟩,λh=>h.2⟩,λE w ρ _ hr _=>⟨ρ b,by rw[he E ρ w hr];rfl,λv hv=>hr b v hv⟩⟩
  split
  ·rename_i v hc;exact key _ _ hc
  ·rename_i v hc;obtain⟨obl,sv,h1,h2⟩:=key _ _ hc;exact⟨obl,sv,λK=>by rw[c9];exact h1 K,h2⟩
  ·exact iR.fail _
 case load t a=>exact iR.of (Vg t a) λρ=>rfl
 case nilCheck x =>
  show iR P look σ _ (abK (σ x));unfold abK;split
  all_goals first
   | exact iR.fail _
   | (rename_i hx;exact⟨True,_,λK=>⟨λh=>⟨trivial,h⟩,λh=>h.2⟩,λE w ρ _ hr _=>⟨_,by simp only[execOp,hr x _ hx,SV.val];rfl,λv hv=>by injection hv with hv;subst hv;rfl⟩⟩)
 case binOp op t x y yt=>exact iR.need λa ha=>iR.need λb hb=>iR.of (Yk (_yt:=yt) ha hb) λρ=>rfl
 case unOp op t x=>exact iR.need λa ha=>iR.of (abN ha) λρ=>rfl
 case convert s d x=>exact iR.need λa ha=>iR.of (Qu ha) λρ=>rfl
 case makeInterface t x=>exact iR.need λa ha=>iR.of (Ct ha) λρ=>rfl
 case makeFunc fn a b=>exact iR.of Gf λρ=>rfl
 case slice t x lo hi mx=>exact iR.of Qy λρ=>rfl
 case fieldAddr s x f=>exact iR.of (Cr s x f) λρ=>rfl
 case field t x f=>exact iR.need λa ha=>iR.of (Qv ha) λρ=>rfl
 case indexAddr t x i=>exact iR.of (Cs t x i) λρ=>rfl
 case index t x i=>exact iR.need λa ha=>iR.need λb hb=>iR.of (Qw ha hb) λρ=>rfl
 case typeAssert x t at_ ok=>exact iR.need λa ha=>iR.of (Mp (t:=t) ha) λρ=>rfl
 case extract x i=>exact iR.need λa ha=>iR.of (I8 ha) λρ=>rfl
 case build t parts=>exact iR.of Qt λρ=>rfl
 case lookup t x k ok=>exact iR.need λa ha=>iR.need λb hb=>iR.of (Mt ha hb) λρ=>rfl
 case call c =>
  obtain⟨callee,args,ats⟩:=c;cases callee with
  | value f=>exact iR.fail _
  | invoke r m=>exact iR.fail _
  | builtin b =>
    show iR P look σ _ (Oc P look σ b ats args.toList);unfold Oc;have harr: ∀ {l:List Operand},args.toList=l->args=l.toArray:=λh=>by rw[← h]
    split
    ·rename_i x hx;have:=harr hx;subst this;split
     ·rename_i t ht;exact iR.need λa ha=>iR.of (Vf (ty:=type) ha ht) λρ=>(Y ..).trans (by rw[BigFrame.builtin_len];simp)
     ·exact iR.fail _
    ·rename_i x hx;have:=harr hx;subst this;split
     ·rename_i t ht;exact iR.need λa ha=>iR.of (Yl (ty:=type) ha ht) λρ=>(Y ..).trans (by rw[BigFrame.builtin_cap];simp)
     ·exact iR.fail _
    ·rename_i x y hx;have:=harr hx;subst this;exact iR.need λa ha=>iR.need λb hb=>iR.of (Yq (ats:=ats) (ty:=type) ha hb) λρ=>(Y ..).trans (by rw[BigFrame.builtin_min];simp)
    ·rename_i x y hx;have:=harr hx;subst this;exact iR.need λa ha=>iR.need λb hb=>iR.of (Yp (ats:=ats) (ty:=type) ha hb) λρ=>(Y ..).trans (by rw[BigFrame.builtin_max];simp)
    ·exact iR.fail _
 all_goals exact iR.fail _
end
end
end Sx
end Go.Proofs.YtoibaecagklkaaaGreatDoor
