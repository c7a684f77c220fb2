/- A part of the proof. -/
import Derived.Test.YtoibaecagklkaaaGreatDoorMb
import Derived.BigFrame
open Array renaming forIn_toList->b9,getElem?_modify->b_,getElem?_toList->V
open Bool renaming false->D,false_and->b!,or_eq_false_iff->ct,true->C
open ByteArray renaming data->cx,data_extract->ek,empty->en,ext->ep,mk->W,push->er,size->cy
open Decidable renaming decide->N
open Go.BigFrame renaming execOp_builtin->X
open Go.Builtin renaming cap_->cT,len_->Y,max_->c4,min_->c5
open Go.Instr renaming build->aW,fill->c6,findKey->Z,findNow->J,least->Q,lookup->R,missingMethod->a_,slice->ag,sliceAt->M,sliceBound->c7,sliceBounds->O,sureAddr->a!,typeAssert->S
open Go.MapKept renaming IsKey->c_,run_checkKey->an,run_getObj_map->az
open Go.Result renaming andThen_ok->G
open Go.Sem renaming run_bind->H,run_pure->I
open List renaming filter_eq_nil_iff->bf,foldlM_cons->c!,foldlM_nil->dm,getElem?_map->dQ,getElem?_toArray->d_,length_map->b5,map_cons->b6,mem_cons->d!,mem_iff_getElem?->ec,mem_map->ef,mem_of_getElem?->ei,nil_append->ej
open Option renaming map->L,none->F,some->A
open UInt8 renaming ofNat->T
namespace Go.Proofs.YtoibaecagklkaaaGreatDoor
open Go Sx
variable {es:Array MapEntry}{ats:Array TypeId}{l la lb ok:Bool}{s:f_}{d:f_->Bool}{clock:Nat}{E:Nat->Nat}{o:Oper}{x:Operand}{ρ:Operand->Value}{hi lo:Option Operand}{a b v:SV}{t ty:TypeId}{w:World}{c c':aE}
namespace Sx
open Go
section
variable {P : Program} {look : l8} {σ : Operand -> Option SV}
def bound (σ:Operand->Option SV)(d:Bool×Int):Option Operand->Option (Bool×Int)
 | none=>A d
 | some x=>match σ x with
   | some (.int _ l n)=>A (l,n)
   | _=>F
def bX (s:f_):Option Operand->Option Operand->Int->Int->f_
 | none,F,_,_=>s
 | none,A _,_,h=>s.take h.toNat
 | some _,F,l,_=>s.drop l.toNat
 | some _,A _,l,h=>(s.drop l.toNat).take (h.toNat - l.toNat)
def oC (l:Bool)(c:Prop)[Decidable c](t:VC):VC :=
 match l with
 | true=>if c then t else .fail "a bound"
 | false=>.and (.atom c) t
theorem aR.oC {s:(Operand->Value)->Sem Value}{c:Prop}[Decidable c]{t:QT}(h:c->aR P look σ s t):aR P look σ s (λK=>Sx.oC l c (t K)):=by
 unfold Sx.oC;cases l
 ·exact aR.atom h
 ·exact aR.ite h (λ_=>aR.fail _)
def pz (σ:Operand->Option SV)(l:Bool)(s:f_)(lo hi:Option Operand)(K:Option SV->VC):VC :=
 match bound σ (C,0) lo,bound σ (l,s.length) hi with
 | some (l1,a),A (l2,b)=>oC (l&&l1&&l2) (0<=a/\a<=b/\b<=s.length) (K (A (.str (l&&l1&&l2) (bX s lo hi a b))))
 | _,_=>.fail "slice of a text"
def kK (σ:Operand->Option SV)(m:Nat)(_arr:Bool)(key o n:Nat)(cl:Bool)(c:Nat)(lo hi:Option Operand)(K:Option SV->VC):VC :=
 match bound σ (C,0) lo,bound σ (C,n) hi with
 | some (C,a),A (C,b)=>oC C (0<=a/\a<=b) (oC cl (b<=c) (match cl with
   | true=>K (A (.slc key (if c=a.toNat then o else o+a.toNat*m) (b.toNat - a.toNat) cl (c - a.toNat)))
   | false=>fork (N (c=a.toNat)) (λe=>match e with
     | true=>K (A (.slc key o (b.toNat - a.toNat) cl (c - a.toNat)))
     | false=>K (A (.slc key (o+a.toNat*m) (b.toNat - a.toNat) cl (c - a.toNat))))))
 | _,_=>.fail "slice: bounds that are not known"
def OF (lo:Option Operand)(i c a:Nat):Nat:=match lo with
 | none=>i
 | some _=>if c=a then i else i+a
theorem Tt {i c:Nat}{a:Int}(ha:bound σ (C,0) lo=A (la,a)):OF lo i c a.toNat=if c=a.toNat then i else i+a.toNat:=by
 cases lo with
 | none =>simp only[bound] at ha;cases ha;simp[OF]
 | some _=>rfl
def kJ (σ:Operand->Option SV)(key w i n c:Nat)(lo hi:Option Operand)(K:Option SV->VC):VC :=
 match bound σ (C,0) lo,bound σ (D,n) hi with
 | some (_,a),A (_,b)=>.and (.atom (0<=a/\a<=b/\b<=c)) (K (A (.aX key w D (OF lo i c a.toNat) (b.toNat - a.toNat) (c - a.toNat))))
 | _,_=>.fail "slice: bounds"
def tP (σ:Operand->Option SV)(n:Nat)(lo hi:Option Operand):Bool :=
 match bound σ (C,0) lo,bound σ (C,n) hi with
 | some (C,_),A (C,_)=>C
 | _,_=>D
def pq (σ:Operand->Option SV)(key o n:Nat)(lo hi:Option Operand)(K:Option SV->VC):VC :=
 match bound σ (C,0) lo,bound σ (C,n) hi with
 | some (_,a),A (_,b)=>.and (.atom (0<=a/\a<=b/\b<=n)) (fork (N (n=a.toNat)) (λe=>match e with
    | true=>K (A (.aX key 1 D o (b.toNat - a.toNat) (n - a.toNat)))
    | false=>K (A (.aX key 1 D (o+a.toNat) (b.toNat - a.toNat) (n - a.toNat)))))
 | _,_=>.fail "slice: bounds"
def qF (σ:Operand->Option SV)(m:Nat)(key o n c:Nat)(lo hi:Option Operand)(mx:Operand)(K:Option SV->VC):VC :=
 match hi,bound σ (C,0) lo,bound σ (C,n) hi,bound σ (C,c) (A mx)with
 | some _,A (C,a),A (C,b),A (C,z)=>oC C (0<=a/\a<=b/\b<=z/\z<=c)
    (K (A (.slc key (if z.toNat=a.toNat then o else o+a.toNat*m) (b.toNat - a.toNat) C (z.toNat - a.toNat))))
 | _,_,_,_=>.fail "slice: bounds that are not known"
def IP (P:Program)(σ:Operand->Option SV)(t:TypeId)(x:Option SV)(lo hi mx:Option Operand)(K:Option SV->VC):VC :=
 match mx,P.underlying t,x with
 | none,A .string,A (.str l s)=>pz σ l s lo hi K
 | none,A (.array n e),A (.ptr key C o)=>(match sz P e with
   | some m=>(match !tP σ n lo hi&&Nat.beq m 1 with
     | true=>pq σ key o n lo hi K
     | false=>kK σ m C key o n C n lo hi K)
   | none=>.fail "slice")
 | some z,A (.array n e),A (.ptr key C o)=>(match sz P e with
   | some m=>qF σ m key o n n lo hi z K
   | none=>.fail "slice")
 | some z,A (.slice e),A (.slc key o n C c)=>(match sz P e with
   | some m=>qF σ m key o n c lo hi z K
   | none=>.fail "slice")
 | none,A (.slice e),A (.slc key o n cl c)=>(match sz P e with
   | some m=>kK σ m D key o n cl c lo hi K
   | none=>.fail "slice")
 | none,A (.slice e),A (.aX key w z i n c)=>(match sz P e with
   | some m=>if m=w then(match z with
     | true=>.and (.atom (0<n)) (kJ σ key w i n c lo hi K)
     | false=>kJ σ key w i n c lo hi K)else .fail "slice: another row"
   | none=>.fail "slice")
 | _,_,_=>.fail "slice"
theorem mq (hr:Reads E σ ρ){d:Bool×Int}{n:Int}
  (h:bound σ d (A x)=A (l,n)) {y:Nat} {code:BoundsCode} (h0:0<=n) (h1:n<=y):(c7 (ρ x) y code).run P w=.ok n.toNat w:=by
 simp only[bound] at h;split at h
 ·rename_i k l' n' hx;cases h;rw[hr x _ hx];simp[SV.val,c7,asIntOf,h0,h1]
 ·cases h
theorem mL (hr:Reads E σ ρ){isSlice:Bool}{n c:Nat}{ld:Bool}{a b:Int}
  (ha:bound σ (C,0) lo=A (la,a)) (hb:bound σ (ld,(n:Int)) hi=A (lb,b)) (h0:0<=a) (h1:a<=b) (h2:b<=c) :
  (O isSlice n c (lo.map ρ) (hi.map ρ) F).run P w=.ok (a.toNat,b.toNat,c) w:=by
 cases hi with
 | none =>
   simp only[bound] at hb;cases hb;cases lo with
   | none =>simp only[bound] at ha;cases ha;simp[O]
   | some x =>have hx:=λcode=>mq (P:=P) (w:=w) hr ha (y:=n) (code:=code) h0 h1;simp[O,hx]
 | some y =>
   have hy:=λcode=>mq (P:=P) (w:=w) hr hb (y:=c) (code:=code) (by omega) h2;cases lo with
   | none =>simp only[bound] at ha;cases ha;simp[O,hy]
   | some x =>have hx:=λcode=>mq (P:=P) (w:=w) hr ha (y:=b.toNat) (code:=code) h0 (by omega);simp[O,hy,hx]
theorem Ak (hr:Reads E σ ρ){isSlice:Bool}{n c:Nat}{hi mx:Operand}{ld lz:Bool}{a b z:Int}
  (ha:bound σ (C,0) lo=A (la,a)) (hb:bound σ (ld,(n:Int)) (A hi)=A (lb,b)) (hz:bound σ (C,(c:Int)) (A mx)=A (lz,z)) (h0:0<=a) (h1:a<=b) (h2:b<=z) (h3:z<=c) :
  (O isSlice n c (lo.map ρ) (A (ρ hi)) (A (ρ mx))).run P w=.ok (a.toNat,b.toNat,z.toNat) w:=by
 have hmz:=λcode=>mq (P:=P) (w:=w) hr hz (y:=c) (code:=code) (by omega) h3;have hy:=λcode=>mq (P:=P) (w:=w) hr hb (y:=z.toNat) (code:=code) (by omega) (by omega);cases lo with
 | none =>simp only[bound] at ha;cases ha;simp[O,hmz,hy]
 | some x =>have hx:=λcode=>mq (P:=P) (w:=w) hr ha (y:=b.toNat) (code:=code) h0 (by omega);simp[O,hmz,hy,hx]
theorem uH (s:f_)(l h:Nat):(W s.toArray).extract l h=⟨((s.drop l).take (h - l)).toArray⟩:=by apply ep;rw[ek];simp
theorem TK {σ:Operand->Option SV}{ls:Bool}{a b:Int}
  (ha:bound σ (C,0) lo=A (la,a)) (hb:bound σ (ls,(s.length:Int)) hi=A (lb,b)) (h:0<=a/\a<=b/\b<=s.length) :
  (s.drop a.toNat).take (b.toNat - a.toNat)=bX s lo hi a b:=by
 cases lo with
 | none =>
   simp only[bound] at ha;cases ha;cases hi with
   | none=>simp only[bound] at hb;cases hb;simp[bX]
   | some y=>simp[bX]
 | some x =>
   cases hi with
   | none =>simp only[bound] at hb;cases hb;simp only[bX];rw[List.take_of_length_le];simp
   | some y=>rfl
theorem Tn {t0:TypeId}{mx:Option Operand} :
  aR P look σ (λρ=>M t0 (ρ x) (lo.map ρ) (hi.map ρ) (mx.map ρ)) (IP P σ t0 (σ x) lo hi mx):=by
 unfold IP;split
 ·rename_i l s hd hx;unfold pz;split
  ·rename_i l1 a l2 b ha hb;refine aR.oC λh=>aR.v _ λE w ρ hc hr=> ?_;have hs:(W s.toArray).size=s.length:=by simp[cy]
   have:=mL (P:=P) (w:=w) hr (isSlice:=D) (c:=s.length) ha hb h.1 h.2.1 h.2.2;simp only[hr x _ hx,SV.val,M,H,aI hd,G,ag,L,hs];simp only[L] at this;simp only[Option.isSome_none,Bool.false_eq_true,if_false,H];rw[this];simp only[G,I,uH,TK ha hb h]
  ·exact aR.fail _
 ·rename_i n e key o hd hx;split
  ·rename_i m hm;split
   ·rename_i hlit;have hm1:m=1:=by simp at hlit;exact hlit.2
    subst hm1;unfold pq;split
    ·rename_i l1 a l2 b ha hb;refine aR.atom λh=>aR.fork ?_
     have main: ∀ E w ρ,Reads E σ ρ->(M t0 (ρ x) (lo.map ρ) (hi.map ρ) ((F:Option Operand).map ρ)).run P w =
       .ok ((SV.aX key 1 D (if n=a.toNat then o else o+a.toNat) (b.toNat - a.toNat) (n - a.toNat)).val E) w:=by
      intro E w ρ hr;have:=mL (P:=P) (w:=w) hr (isSlice:=D) (c:=n) ha hb h.1 h.2.1 h.2.2;simp only[L] at this;simp only[hr x _ hx,SV.val,M,H,aI hd,G,L,a!,I,this,cj hm,cW];split<;>simp
     by_cases hca:n=a.toNat
     ·rw[n_ hca];refine aR.v _ λE w ρ hc hr=> ?_;have:=main E w ρ hr;rw[r_ hca] at this;exact this
     ·rw[o_ hca];refine aR.v _ λE w ρ hc hr=> ?_;have:=main E w ρ hr;rw[s_ hca] at this;exact this
    ·exact aR.fail _
   ·unfold kK;split
    ·rename_i a b ha hb;refine aR.oC λh=>aR.oC λh'=>aR.v _ λE w ρ hc hr=> ?_;have:=mL (P:=P) (w:=w) hr (isSlice:=D) (c:=n) ha hb h.1 h.2 h';simp only[L] at this;simp only[hr x _ hx,SV.val,M,H,aI hd,G,L,a!,I,this,cj hm,cW];split<;>rfl
    ·exact aR.fail _
  ·exact aR.fail _
 ·rename_i z n e key o hd hx;split
  ·rename_i m hm;unfold qF;split
   ·rename_i y a b c ha hz hb;refine aR.oC λh=>aR.v _ λE w ρ hc hr=> ?_;have:=Ak (P:=P) (w:=w) hr (isSlice:=D) (c:=n) ha hb hz h.1 h.2.1 h.2.2.1 h.2.2.2;simp only[L] at this;simp only[hr x _ hx,SV.val,M,H,aI hd,G,L,a!,I,this,cj hm,cW];split<;>rfl
   ·exact aR.fail _
  ·exact aR.fail _
 ·rename_i z e key o n c hd hx;split
  ·rename_i m hm;unfold qF;split
   ·rename_i y a b c' ha hz hb;refine aR.oC λh=>aR.v _ λE w ρ hc hr=> ?_;have:=Ak (P:=P) (w:=w) hr (isSlice:=C) (c:=c) ha hb hz h.1 h.2.1 h.2.2.1 h.2.2.2;simp only[L] at this;simp only[hr x _ hx,SV.val,M,H,aI hd,G,L,ag,this,cj hm,cW,I];split<;>rfl
   ·exact aR.fail _
  ·exact aR.fail _
 ·rename_i e key o n cl c hd hx;split
  ·rename_i m hm
   have main: ∀ {la lb:Bool} {a b:Int},bound σ (C,0) lo=A (la,a)->bound σ (C,(n:Int)) hi=A (lb,b)->0<=a->a<=b->b<=c ->
     ∀ E w ρ,Reads E σ ρ->(M t0 (ρ x) (lo.map ρ) (hi.map ρ) ((F:Option Operand).map ρ)).run P w =
       .ok ((SV.slc key (if c=a.toNat then o else o+a.toNat*m) (b.toNat - a.toNat) cl (c - a.toNat)).val E) w:=by
    intro la lb a b ha hb h0 h1 h2 E w ρ hr;have:=mL (P:=P) (w:=w) hr (isSlice:=C) (c:=c) ha hb h0 h1 h2;simp only[L] at this;simp only[hr x _ hx,SV.val,M,H,aI hd,G,L,ag,this,cj hm,cW,I];split<;>rfl
   unfold kK;split
   ·rename_i a b ha hb;refine aR.oC λh=>aR.oC λh'=> ?_;cases cl with
    | true=>exact aR.v _ λE w ρ hc hr=>main ha hb h.1 h.2 h' E w ρ hr
    | false =>
      refine aR.fork ?_;by_cases hca:c=a.toNat
      ·rw[n_ hca];refine aR.v _ λE w ρ hc hr=> ?_;have:=main ha hb h.1 h.2 h' E w ρ hr;rw[r_ hca] at this;exact this
      ·rw[o_ hca];refine aR.v _ λE w ρ hc hr=> ?_;have:=main ha hb h.1 h.2 h' E w ρ hr;rw[s_ hca] at this;exact this
   ·exact aR.fail _
  ·exact aR.fail _
 ·rename_i e key w0 z i n c hd hx;split
  ·rename_i m hm;refine aR.ite (λhmw=> ?_) (λ_=>aR.fail _);subst hmw;have hx':(z&&Nat.beq n 0)=D->∀(E:Nat->Nat) (ρ:Operand->Value),Reads E σ ρ->ρ x=(SV.aX key m D i n c).val E:=λh E ρ hr=>by rw[hr x _ hx];simp[SV.val,h]
   have core:(∀(E:Nat->Nat) (ρ:Operand->Value),Reads E σ ρ->ρ x=(SV.aX key m D i n c).val E)->aR P look σ (λρ=>M t0 (ρ x) (lo.map ρ) (hi.map ρ) ((F:Option Operand).map ρ)) (kJ σ key m i n c lo hi):=λhx=>by
    unfold kJ;split
    ·rename_i l1 a l2 b ha hb;refine aR.atom λh=>aR.v _ λE w ρ hc hr=> ?_;have:=mL (P:=P) (w:=w) hr (isSlice:=C) (c:=c) ha hb h.1 h.2.1 h.2.2;simp only[L] at this;rw[Tt ha];simp only[hx E ρ hr,SV.val,b!,cond_false,M,H,aI hd,G,L,ag,this,cj hm,cW,I];split
     ·rfl
     ·simp[Nat.add_mul]
    ·exact aR.fail _
   cases z with
   | true=>exact aR.atom λh0=>core λE ρ hr=>hx' (by cases n with | zero=>omega | succ n=>rfl) E ρ hr
   | false=>exact core λE ρ hr=>hx' rfl E ρ hr
  ·exact aR.fail _
 ·exact aR.fail _
end
end Sx
namespace Sx
open Go
section
variable {P : Program} {look : l8} {σ : Operand -> Option SV}
def gO (P:Program)(t:TypeId):Option SV :=
 match P.info? t with
 | some i=>(match i.zero with
   | some v=>SV.ofConst v
   | none=>F)
 | none=>F
theorem dV (h:gO P t=A v):(zeroValue t).run P w=.ok (v.val E) w:=by
 unfold gO at h;split at h
 ·rename_i i hi;split at h
  ·rename_i z hz;simp[zeroValue,jU hi,hz,SV.AE (E:=E) h]
  ·cases h
 ·cases h
def wA (ok:Bool)(v:SV)(K:Option SV->VC):VC :=
 match ok with
 | true=>K (A (.aN [v,.bool C C]))
 | false=>K (A v)
def rI (P:Program)(at_:TypeId)(ok:Bool)(K:Option SV->VC):VC :=
 match ok with
 | true=>(match gO P at_ with
   | some z=>K (A (.aN [z,.bool C D]))
   | none=>.fail "typeAssert: no zero")
 | false=>.fail "typeAssert fails"
theorem rJ {s:(Operand->Value)->Sem Value}{at_:TypeId}(h: ∀ E w ρ,Reads E σ ρ->ok=C->∀ z,(zeroValue at_).run P w=.ok z w->(s ρ).run P w=.ok (.tuple #[z,.bool D]) w) :
  aR P look σ s (rI P at_ ok):=by
 unfold rI;cases ok with
 | false=>exact aR.fail _
 | true =>
   cases hz:gO P at_ with
   | none=>exact aR.fail _
   | some z=>exact aR.v _ λE w ρ hc hr=>by rw[h E w ρ hr rfl _ (dV (E:=E) hz)];rfl
theorem Ah {s:(Operand->Value)->Sem Value}(v:SV)(h: ∀ E w ρ,Reads E σ ρ->(s ρ).run P w=.ok (if ok then .tuple #[v.val E,.bool C] else v.val E) w) :
  aR P look σ s (wA ok v):=by
 unfold wA;cases ok with
 | false=>exact aR.v _ λE w ρ hc hr=>by rw[h E w ρ hr];rfl
 | true=>exact aR.v _ λE w ρ hc hr=>by rw[h E w ρ hr];rfl
def isIface:TypeDesc->Option (Array (String×TypeId))
 | .interface want=>A want
 | _=>F
def Fx (want:Array (String×TypeId))(got:Array Method):Bool:=want.toList.any λx=>!got.any λm=>m.name==x.1&&m.sig==x.2
theorem CP {l:List String}(h:l≠[]): ∃ m,Q l=A m:=by
 cases l with
 | nil=>exact absurd rfl h
 | cons s r=>exact⟨_,rfl⟩
def FZ (missing:List String):Option String :=Q (missing.partition (·.contains '.')).2 <|> Q ((missing.partition (·.contains '.')).1.map λid=>(id.splitOn ".").getLastD id)
theorem C4 (want:Array (String×TypeId))(got:Array Method):a_ want got=FZ ((want.toList.filter fun(x:String×TypeId)=>!got.any λm=>m.name==x.1&&m.sig==x.2).map (·.1)):=rfl
theorem Kn {want:Array (String×TypeId)}{got:Array Method}(h:Fx want got=D):a_ want got=none:=by
 have:(want.toList.filter fun(x:String×TypeId)=>!got.any λm=>m.name==x.1&&m.sig==x.2)=[]:=by rw[bf];intro x hx hb;unfold Fx at h;rw[List.any_eq_false] at h;exact h x hx hb
 rw[C4,this];rfl
theorem CJ {want:Array (String×TypeId)}{got:Array Method}(h:Fx want got=C): ∃ m,a_ want got=A m:=by
 unfold Fx at h;rw[List.any_eq_true] at h;obtain⟨x,hx,hb⟩:=h;have hmem:x.1∈ (want.toList.filter fun(x:String×TypeId)=>!got.any λm=>m.name==x.1&&m.sig==x.2).map (·.1):=ef.2 ⟨x,List.mem_filter.2 ⟨hx,hb⟩,rfl⟩;rw[C4];unfold FZ;generalize (want.toList.filter fun(x:String×TypeId)=>!got.any λm=>m.name==x.1&&m.sig==x.2).map (·.1)=missing at hmem;rw[List.partition_eq_filter_filter];show ∃ m,(Q (missing.filter (not∘ λs=>s.contains '.')) <|> Q ((missing.filter λs=>s.contains '.').map λid=>(id.splitOn ".").getLastD id))=A m;by_cases hd:x.1.contains '.'=C
 ·have hne:(missing.filter λs=>s.contains '.')≠[]:=by intro h0;rw[bf] at h0;exact h0 _ hmem hd
  obtain⟨m,hm⟩:=CP (l:=(missing.filter λs=>s.contains '.').map λid=>(id.splitOn ".").getLastD id) (by simpa using hne);cases hl:Q (missing.filter (not∘ λs=>s.contains '.'))with
  | none=>exact⟨m,by rw[hm];rfl⟩
  | some q=>exact⟨q,rfl⟩
 ·have hne:(missing.filter (not∘ λs=>s.contains '.'))≠[]:=by intro h0;rw[bf] at h0;exact h0 _ hmem (by simpa using hd)
  obtain⟨m,hm⟩:=CP hne;exact⟨m,by rw[hm];rfl⟩
def II (P:Program)(x:SV)(at_:TypeId)(ok:Bool)(K:Option SV->VC):VC :=
 match P.underlying at_,x with
 | some _,.aC=>rI P at_ ok K
 | some d,.iface u v=>(match isIface d with
   | some want=>(match P.info? u with
     | some i=>(match Fx want i.methods with
       | false=>wA ok (.iface u v) K
       | true=>rI P at_ ok K)
     | none=>.fail "typeAssert")
   | none=>if u=at_ then wA ok v K else rI P at_ ok K)
 | _,_=>.fail "typeAssert"
theorem On {at_:TypeId}(hx:σ x=A a):aR P look σ (λρ=>S (ρ x) t at_ ok) (II P a at_ ok):=by
 unfold II;split
 ·rename_i d hd;exact rJ λE w ρ hr hok z hz=>by rw[hr x _ hx];cases d<;>simp[SV.val,S,aI hd,hok,hz]
 ·rename_i d u v hd;split
  ·rename_i want hw;have hd':P.underlying at_=A (.interface want):=by cases d<;>simp[isIface] at hw;subst hw;exact hd
   split
   ·rename_i i hi;split
    ·rename_i hm;have hm:=Kn hm;exact Ah _ λE w ρ hr=>by rw[hr x _ hx];simp only[SV.val,S,H,aI hd',G,jU hi,hm];cases ok<;>rfl
    ·rename_i hm;obtain⟨m,hm⟩:=CJ hm;exact rJ λE w ρ hr hok z hz=>by rw[hr x _ hx];simp[SV.val,S,aI hd',jU hi,hm,hok,hz]
   ·exact aR.fail _
  ·rename_i hw;refine aR.ite (λe=> ?_) (λe=> ?_)
   ·subst e;exact Ah _ λE w ρ hr=>by
     rw[hr x _ hx];cases d<;>simp only[isIface] at hw<;>first
      | (cases hw;done)
      | (simp only[SV.val,S,H,aI hd,G,if_true];cases ok<;>rfl)
   ·exact rJ λE w ρ hr hok z hz=>by
     rw[hr x _ hx];cases d<;>simp only[isIface] at hw<;>first
      | (cases hw;done)
      | simp[SV.val,S,aI hd,e,hok,hz]
 ·exact aR.fail _
def aey (P:Program)(t:TypeId)(x:SV)(K:Option SV->VC):VC :=
 match P.underlying t,x with
 | some .string,.str l s=>K (A (.int .i64 l s.length))
 | some (.slice _),.slc _ _ n _ _=>K (A (.int .i64 C n))
 | some (.slice _),.aX _ _ _ _ n _=>K (A (.int .i64 D n))
 | some (.slice _),.bE _ _ _ _ _ n _=>K (A (.int .i64 D n))
 | some (.slice _),.b7 _ _ _ _ _ n _=>K (A (.int .i64 D n))
 | some (.slice _),.aO=>K (A (.int .i64 C 0))
 | some (.array n _),_=>K (A (.int .i64 C n))
 | some (.map _ _),.fU=>K (A (.int .i64 C 0))
 | _,_=>.fail "len"
theorem aaZ (hx:σ x=A a)(h0:ats[0]?=A t) :
  aR P look σ (λρ=>Y ats ty #[ρ x]) (aey P t a):=by
 unfold aey;have hs: ∀ s:f_,(W s.toArray).size=s.length:=λs=>by simp[cy]
 split<;>first
  | exact aR.fail _
  | (rename_i hd;exact aR.v _ λE w ρ hc hr=>by
      rw[hr x _ hx];simp only[SV.val,Y,h0,d_,List.getElem?_cons_zero,H,aI hd,G]
      first
       | rfl
       | (show Result.ok (goInt (W _).size) w=_;rw[hs];rfl))
def aew (P:Program)(t:TypeId)(x:SV)(K:Option SV->VC):VC :=
 match P.underlying t,x with
 | some (.slice _),.slc _ _ _ l c=>K (A (.int .i64 l c))
 | some (.slice _),.aX _ _ D _ _ c=>K (A (.int .i64 D c))
 | some (.slice _),.aO=>K (A (.int .i64 C 0))
 | some (.array n _),_=>K (A (.int .i64 C n))
 | _,_=>.fail "cap"
theorem aaW (hx:σ x=A a)(h0:ats[0]?=A t) :
  aR P look σ (λρ=>cT ats ty #[ρ x]) (aew P t a):=by
 unfold aew
 split<;>first
  | exact aR.fail _
  | (rename_i hd;exact aR.v _ λE w ρ hc hr=>by rw[hr x _ hx];simp[SV.val,cT,h0,aI hd,goInt])
def tZ (mx:Bool)(x y:SV)(K:Option SV->VC):VC :=
 match x,y with
 | .int k l a,.int k' l' b=>if k=k' then K (A (.int k (l&&l') (match mx with | true=>max a b | false=>min a b)))else .fail "min, max: kinds"
 | _,_=>.fail "min, max"
theorem aa1 {y:Operand}(hx:σ x=A a)(hy:σ y=A b) :
  aR P look σ (λρ=>c5 ats ty #[ρ x,ρ y]) (tZ D a b):=by
 unfold tZ;split
 ·rename_i k l m k' l' n;refine aR.ite (λe=>aR.v _ λE w ρ hc hr=> ?_) (λ_=>aR.fail _);subst e;rw[hr x _ hx,hr y _ hy];simp only[SV.val,c5,c!,dm,Builtin.min2,H,I,G];congr 2;by_cases h:n<m
  ·rw[r_ h];omega
  ·rw[s_ h];omega
 ·exact aR.fail _
theorem aa0 {y:Operand}(hx:σ x=A a)(hy:σ y=A b) :
  aR P look σ (λρ=>c4 ats ty #[ρ x,ρ y]) (tZ C a b):=by
 unfold tZ;split
 ·rename_i k l m k' l' n;refine aR.ite (λe=>aR.v _ λE w ρ hc hr=> ?_) (λ_=>aR.fail _);subst e;rw[hr x _ hx,hr y _ hy];simp only[SV.val,c4,c!,dm,Builtin.max2,H,I,G];congr 2;by_cases h:n>m
  ·rw[r_ h];omega
  ·rw[s_ h];omega
 ·exact aR.fail _
def bg {α:Type}(cs:List α)(off:Nat):List α->List α
 | []=>cs
 | v::r=>bg (cs.set off v) (off+1) r
theorem xP {α β:Type}(f:α->β): ∀(vs cs:List α) (off:Nat),(bg cs off vs).map f=bg (cs.map f) off (vs.map f)
 | [],_,_=>rfl
 | v::r,cs,off=>by simp[bg,xP f r,List.map_set]
theorem rV: ∀(vs:List Value) (cells:Array Value) (off k:Nat),
  ((vs.zipIdx k).foldl (λcs (x:Value×Nat)=>cs.setIfInBounds (off+x.2) x.1) cells).toList=bg cells.toList (off+k) vs
 | [],_,_,_=>rfl
 | v::r,cells,off,k=>by simp only[List.zipIdx_cons,List.foldl_cons,bg];rw[rV r];simp[Nat.add_assoc]
def uL (place:Nat->Option (Nat×Nat))(cells:List SV):List (Nat×SV)->Option (List SV)
 | []=>A cells
 | (i,v)::rest =>
   match place i with
   | none=>F
   | some (off,size) =>if v.plain&&N (v.cells.length=size)&&N (off+size<=cells.length)then uL place (bg cells off v.cells) rest else F
theorem tB {E:Nat->Nat}{place:Nat->Option (Nat×Nat)}: ∀(parts:List (Nat×SV)) (cells out:List SV),uL place cells parts=A out ->
  c6 place (SV.vals E cells).toArray (parts.map λp=>(p.1,p.2.val E))=A (SV.vals E out).toArray
 | [],cells,out,h=>by simp[uL] at h;subst h;rfl
 | (i,v)::rest,cells,out,h=>by
   simp only[uL] at h;split at h
   ·cases h
   ·rename_i off size hp;split at h
    ·rename_i hc;simp only[Bool.and_eq_true,p_] at hc;obtain⟨⟨h1,h2⟩,h3⟩:=hc;have ih:=tB (E:=E) rest _ out h;simp only[b6,c6,hp];rw[SV.fI h1];rw[s_ (by simp[h2,SV.bM];omega)];rw[← ih];congr 1;apply Array.ext';rw[← Array.foldl_toList,Array.toList_zipIdx,rV];simp[SV.bM,xP]
    ·cases h
def partsOf (σ:Operand->Option SV):List (Nat×Operand)->Option (List (Nat×SV))
 | []=>A []
 | (i,x)::r=>match σ x,partsOf σ r with
   | some v,A l=>A ((i,v)::l)
   | _,_=>F
theorem nU {σ:Operand->Option SV}{E:Nat->Nat}{ρ:Operand->Value}(hr:Reads E σ ρ): ∀ {ps:List (Nat×Operand)} {l:List (Nat×SV)},partsOf σ ps=A l ->
  ps.map (λp=>(p.1,ρ p.2))=l.map λp=>(p.1,p.2.val E)
 | [],l,h=>by simp[partsOf] at h;subst h;rfl
 | (i,x)::r,l,h=>by
   simp only[partsOf] at h;split at h
   ·rename_i v l' hv hl;cases h;simp[hr x v hv,nU hr hl]
   ·cases h
def k7 (P:Program):List Field->Option (List (Nat×Nat))
 | []=>A []
 | f::r=>match sz P f.type,k7 P r with
   | some n,A l=>A ((f.offset,n)::l)
   | _,_=>F
theorem q8 {w:World}: ∀ {fs:List Field} {l:List (Nat×Nat)},k7 P fs=A l ->
  (fs.mapM (λf=>do pure (f.offset,← sizeOf f.type)):Sem (List (Nat×Nat))).run P w=.ok l w
 | [],l,h=>by simp[k7] at h;subst h;simp
 | f::r,l,h=>by
   simp only[k7] at h;split at h
   ·rename_i n l' hn hl;cases h;have ih:=q8 (w:=w) hl;simp at ih;simp[List.mapM_cons,cj hn,ih]
   ·cases h
def IJ (P:Program)(σ:Operand->Option SV)(t:TypeId)(parts:List (Nat×Operand))(K:Option SV->VC):VC :=
 match P.underlying t,gO P t,partsOf σ parts with
 | some (.struct fs),A (.agg zs),A ps=>(match k7 P fs.toList with
   | some pl=>(match uL (λi=>pl[i]?) zs ps with
     | some out=>K (A (.agg out))
     | none=>.fail "build: fill")
   | none=>.fail "build: places")
 | some (.array _ e),A (.agg zs),A ps=>(match sz P e with
   | some m=>(match uL (λi=>A (i*m,m)) zs ps with
     | some out=>K (A (.agg out))
     | none=>.fail "build: fill")
   | none=>.fail "build: places")
 | _,_,_=>.fail "build"
theorem Ti {parts:Array (Nat×Operand)} :
  aR P look σ (λρ=>aW t (parts.map fun(i,x)=>(i,ρ x))) (IJ P σ t parts.toList):=by
 unfold IJ;split
 ·rename_i fs zs ps hd hz hp;split
  ·rename_i pl hpl;split
   ·rename_i out hf;refine aR.v _ λE w ρ hc hr=> ?_;have hm:(fs.mapM (λf=>do pure (f.offset,← sizeOf f.type)):Sem (Array (Nat×Nat))).run P w=.ok pl.toArray w:=by have:=q8 (P:=P) (w:=w) hpl;rw[Array.mapM_eq_mapM_toList];simp only[Sem.run_map,this,G]
    have hfill:=tB (E:=E) ps zs out hf;have hparts:=nU hr hp;have hpp:(parts.map fun(x:Nat×Operand)=>(x.1,ρ x.2)).toList=ps.map λp=>(p.1,p.2.val E):=by rw[← hparts];simp
    simp only[aW,H,dV (E:=E) hz,G,aI hd,hm];simp only[SV.val,Value.cells,hpp,d_,hfill];rfl
   ·exact aR.fail _
  ·exact aR.fail _
 ·rename_i e zs ps hd hz hp;split
  ·rename_i m hm;split
   ·rename_i out hf;refine aR.v _ λE w ρ hc hr=> ?_;have hfill:=tB (E:=E) ps zs out hf;have hparts:=nU hr hp;have hpp:(parts.map fun(x:Nat×Operand)=>(x.1,ρ x.2)).toList=ps.map λp=>(p.1,p.2.val E):=by rw[← hparts];simp
    simp only[aW,H,dV (E:=E) hz,G,aI hd,cj hm];simp only[SV.val,Value.cells,hpp,hfill];rfl
   ·exact aR.fail _
  ·exact aR.fail _
 ·exact aR.fail _
end
end Sx
namespace Sx
open Go
noncomputable section
def dZ (d:f_->Bool)(s:f_):f_->Bool:=λt=>d t||decide (t=s)
def gA (g:f_->Int)(s:f_)(n:Int):f_->Int:=λt=>bif N (t=s)then n else g t
def TC (g:f_->Value)(s:f_)(v:Value):f_->Value:=λt=>bif N (t=s)then v else g t
def xO (g:f_->Nat)(s:f_)(n:Nat):f_->Nat:=λt=>bif N (t=s)then n else g t
def dflt (b:Bool)(n:Int):Int:=bif b then n else 0
def afw (b:Bool)(v:Value):Value:=bif b then v else .pointer F
def aE.look (c:aE)(b:Bool)(s:f_)(z:SV):Option SV:=match c,z with
 | .int k g,.int k' _ 0=>if k=k' then A (.int k D (dflt b (g s)))else F
 | .raw g,.cD=>A (.raw (afw b (g s)))
 | _,_=>F
def aE.set (c:aE)(s:f_)(v:SV):Option aE:=match c,v with
 | .int k g,.int k' _ n=>if k=k' then A (.int k (gA g s n))else F
 | .raw g,.raw u=>A (.raw (TC g s u))
 | .raw g,.cD=>A (.raw (TC g s (.pointer F)))
 | .ref k g,.ga _ a 0=>A (.ref k (xO g s a))
 | _,_=>F
theorem L9 {t:f_}(h:nv s=nv t):s=t:=by simp only[nv,Value.string.injEq] at h;have:=congrArg cx h;simpa using this
theorem Jc {α β:Type}{f:α->β}: ∀ {l:List α},(l.map f).Nodup->∀ {a b:α},a∈ l->b∈ l->f a=f b->a=b
 | [],_,a,b,h,_,_=>by cases h
 | x::r,hn,a,b,ha,hb,e=>by
   simp only[b6,List.nodup_cons,ef,not_exists,not_and] at hn;rcases d!.1 ha with h1 | h1<;>rcases d!.1 hb with h2 | h2
   ·exact h1.trans h2.symm
   ·subst h1;exact absurd e.symm (hn.1 b h2)
   ·subst h2;exact absurd e (hn.1 a h1)
   ·exact Jc hn.2 h1 h2 e
theorem aE.KI {b:Bool}{z:SV}(h:c.look b s z=A v)(E:Nat->Nat):v.val E=if b=C then c.val s else z.val E:=by
 unfold aE.look at h;split at h
 ·split at h
  ·rename_i e;subst e;cases h;cases b<;>rfl
  ·cases h
 ·cases h;cases b<;>rfl
 ·cases h
theorem aE.I3 (h:c.set s v=A c')(E:Nat->Nat):c'.val s=v.val E/\∀ t,t≠s->c'.val t=c.val t:=by
 unfold aE.set at h;split at h
 ·split at h
  ·rename_i e;subst e;cases h;exact⟨by simp[aE.val,SV.val,gA],λt ht=>by simp[aE.val,gA,ht]⟩
  ·cases h
 ·cases h;exact⟨by simp[aE.val,SV.val,TC],λt ht=>by simp[aE.val,TC,ht]⟩
 ·cases h;exact⟨by simp[aE.val,SV.val,TC],λt ht=>by simp[aE.val,TC,ht]⟩
 ·cases h;exact⟨by simp[aE.val,SV.val,xO],λt ht=>by simp[aE.val,xO,ht]⟩
 ·cases h
theorem Yo (s:f_):c_ .string (nv s):=trivial
theorem yj.find {pend}(h:yj d c pend es clock)(s:f_) :
  (d s=D/\J .string (nv s) es.toList 0=A F/\∀ x∈ es.toList,x.key≠nv s) ∨
  (d s=C/\∃ j e,J .string (nv s) es.toList 0=A (A (j,c.val s))/\es[j]?=A e/\e.key=nv s/\e.val=c.val s):=by
 rcases MapKept.findNow_spec (Yo s) es.toList 0 h.ks with ⟨h1,h2⟩ | ⟨j,e,h1,h2,h3⟩
 ·cases hd:d s with
  | false=>exact .inl ⟨rfl,h1,h2⟩
  | true =>obtain⟨e,he,hk,_⟩:=h.has s hd;exact absurd hk (h2 e he)
 ·have hj:es[j]?=A e:=by simpa using h2
  have hm:e∈ es.toList:=ei h2;cases hd:d s with
  | false=>exact absurd h3 (h.no s hd e hm)
  | true =>obtain⟨e',he',hk,hv⟩:=h.has s hd;have:=Jc h.st.2.2 he' hm (hk.trans h3.symm);subst this;exact .inr ⟨rfl,j,e',by rw[h1,Nat.zero_add,hv],hj,h3,hv⟩
theorem mem_modify {i:Nat}{f:MapEntry->MapEntry}{x:MapEntry}:x∈ (es.modify i f).toList↔∃ j e,es[j]?=A e/\x=if i=j then f e else e:=by
 rw[ec];constructor
 ·rintro⟨j,hj⟩;rw[V,b_] at hj;by_cases e:i=j
  ·rw[r_ e] at hj;obtain⟨y,hy,rfl⟩:=Option.map_eq_some_iff.1 hj;exact⟨j,y,hy,by rw[r_ e]⟩
  ·rw[s_ e] at hj;exact⟨j,x,hj,by rw[s_ e]⟩
 ·rintro⟨j,e,hj,rfl⟩;refine⟨j,?_⟩;rw[V,b_,hj];by_cases e:i=j<;>simp[e]
theorem yj.put {pend}(h:yj d c pend es clock){u:Value}(hc:c'.val s=u/\∀ t,t≠s->c'.val t=c.val t)
  {j:Nat} {e:MapEntry} (hj:es[j]?=A e) (hk:e.key=nv s) {f:MapEntry->MapEntry} (hf:(f e).key=nv s/\(f e).val=u/\(f e).born=e.born) (hfb: ∀ x,(f x).born=x.born) (hd:d s=C) {pend'} (hp: ∀ t b,pend'=A (t,b)->t=s/\(e.born:Int)=b):yj (dZ d s) c' pend' (es.modify j f) clock:=by
 have hkey: ∀ e',es[j]?=A e'->(f e').key=e'.key:=λe' he'=>by rw[hj] at he';cases he';rw[hf.1,hk]
 have hme:f e∈ (es.modify j f).toList:=mem_modify.2 ⟨j,e,hj,by rw[r_ rfl]⟩;refine⟨MapKept.stamped_modify h.st _ _ (λx _=>hfb x) (λe' _ he'=>hkey e' he'),MapKept.isKey_modify h.ks _ _ hkey,λt ht=> ?_,λt ht x hx=> ?_,λt b ht=> ?_⟩
 ·by_cases e1:t=s
  ·subst e1;exact⟨f e,hme,hf.1,by rw[hf.2.1,hc.1]⟩
  ·obtain⟨x,hx,hxk,hxv⟩:=h.has t (by simpa [dZ,e1] using ht);rw[ec] at hx;obtain⟨i,hi⟩:=hx;rw[V] at hi;have hne:j≠i:=λe2=>by subst e2;rw[hj] at hi;cases hi;exact e1 (L9 (hxk.symm.trans hk))
   exact⟨x,mem_modify.2 ⟨i,x,hi,by rw[s_ hne]⟩,hxk,by rw[hxv,hc.2 t e1]⟩
 ·have hts:t≠s/\d t=false:=by simp only[dZ,ct,q_] at ht;exact⟨ht.2,ht.1⟩
  obtain⟨i,y,hi,rfl⟩:=mem_modify.1 hx;have hy:y∈ es.toList:=ei (by rw[V];exact hi);by_cases e1:j=i
  ·rw[r_ e1];subst e1;rw[hkey y hi];exact h.no t hts.2 y hy
  ·rw[s_ e1];exact h.no t hts.2 y hy
 ·obtain⟨rfl,hb⟩:=hp t b ht;exact⟨f e,hme,by rw[hf.2.2];exact hb,hf.1⟩
theorem yj.add {pend}(h:yj d c pend es clock){u:Value}(hc:c'.val s=u/\∀ t,t≠s->c'.val t=c.val t)
  (hn: ∀ x∈ es.toList,x.key≠nv s) {pend'} (hp: ∀ t b,pend'=A (t,b)->t=s/\(clock:Int)=b):yj (dZ d s) c' pend' (es.push {key:=nv s,val:=u,born:=clock}) (clock+1):=by
 have mem: ∀ {x},x∈ (es.push {key:=nv s,val:=u,born:=clock}).toList↔x∈ es.toList∨x={key:=nv s,val:=u,born:=clock}:=by intro x;simp only[Array.toList_push,List.mem_append,List.mem_singleton]
 refine⟨MapKept.stamped_push h.st hn,λx hx=> ?_,λt ht=> ?_,λt ht x hx=> ?_,λt b ht=> ?_⟩
 ·rcases mem.1 hx with hx | rfl
  ·exact h.ks x hx
  ·trivial
 ·by_cases e1:t=s
  ·subst e1;exact⟨_,mem.2 (.inr rfl),rfl,hc.1.symm⟩
  ·obtain⟨x,hx,hxk,hxv⟩:=h.has t (by simpa [dZ,e1] using ht);exact⟨x,mem.2 (.inl hx),hxk,by rw[hxv,hc.2 t e1]⟩
 ·simp only[dZ,ct,q_] at ht;rcases mem.1 hx with hx | rfl
  ·exact h.no t ht.1 x hx
  ·exact λe1=>ht.2 (L9 e1.symm)
 ·obtain⟨rfl,hb⟩:=hp t b ht;exact⟨_,mem.2 (.inr rfl),hb,rfl⟩
theorem yj.nil (c:aE)(clock:Nat):yj (λ_=>D) c F #[] clock :=⟨MapKept.stamped_empty clock,by simp,(λ_ h=>by cases h),by simp,(λ_ _ h=>by cases h)⟩
def Qu:SV->SV->Option (Bool×Bool)
 | .str l s,.str l' s'=>A (l&&l',N (s=s'))
 | .int k l a,.int k' l' b=>if k=k' then A (l&&l',N (a=b))else F
 | .bool l a,.bool l' b=>A (l&&l',N (a=b))
 | _,_=>F
def vF:TypeDesc->SV->Bool
 | .string,.str .. =>C
 | .int k,.int k' .. =>decide (k'=k)
 | .bool,.bool .. =>C
 | _,_=>D
theorem tL {d:TypeDesc}(h:vF d v=C)(E:Nat->Nat):c_ d (v.val E):=by
 unfold vF at h;split at h
 ·trivial
 ·have h:=l_ h;exact h
 ·trivial
 ·cases h
theorem Nv {d:TypeDesc}{e:Bool}(ha:vF d a=C)(hb:vF d b=C)(h:Qu a b=A (l,e))(E:Nat->Nat) :
  Instr.sameNow d (a.val E) (b.val E)=A e/\(e=C->a.val E=b.val E):=by
 obtain⟨r,h1,h2⟩:=MapKept.sameNow_of_keys (tL ha E) (tL hb E);have he:e=C↔a.val E=b.val E:=by
  unfold Qu at h;split at h
  ·cases h;simp only[p_,SV.val,Value.string.injEq];constructor
   ·intro h;rw[h]
   ·intro h;have:=congrArg cx h;simpa using this
  ·split at h
   ·rename_i hk;cases h;subst hk;simp[SV.val]
   ·cases h
  ·cases h;simp[SV.val]
  ·cases h
 rw[h1];refine⟨?_,he.1⟩;congr 1;cases r<;>cases e<;>simp_all
abbrev Zy:=Option (Nat×(Nat×SV×SV))
def ij (d:TypeDesc)(k:SV)(t:Zy->VC):List (Nat×SV×SV)->Nat->VC
 | [],_=>t F
 | e::r,i=>match vF d e.2.1,Qu k e.2.1 with
   | true,A (C,b)=>(match b with
     | true=>t (A (i,e))
     | false=>ij d k t r (i+1))
   | true,A (D,b)=>fork b λb=>(match b with
     | true=>t (A (i,e))
     | false=>ij d k t r (i+1))
   | _,_=>.fail "map: keys"
theorem nQ {d:TypeDesc}{k:SV}(hk:vF d k=C): ∀(es:List (Nat×SV×SV)) (i:Nat),∃(obl:Prop) (r:Zy),(∀ t,(ij d k t es i).holds↔obl/\(t r).holds) /\
  (obl->(∀ E,J d (k.val E) (eS E es) i=A (r.map λx=>(x.1,x.2.2.2.val E)))/\∀ j e,r=A (j,e)->i<=j/\es[j - i]?=A e/\∀ E,e.2.1.val E=k.val E)
 | [],i=>⟨True,F,λt=>⟨λh=>⟨trivial,h⟩,λh=>h.2⟩,λ_=>⟨λ_=>rfl,λ_ _ h=>by cases h⟩⟩
 | e::r,i=>by
   obtain⟨obl,x,h1,h2⟩:=nQ hk r (i+1)
   have fl: ∀ why:String,∃(obl:Prop) (r':Zy),(∀ t:Zy->VC,(VC.fail why).holds↔obl/\(t r').holds) /\
     (obl->(∀ E,J d (k.val E) (eS E (e::r)) i=A (r'.map λx=>(x.1,x.2.2.2.val E)))/\∀ j e',r'=A (j,e')->i<=j/\(e::r)[j - i]?=A e'/\∀ E,e'.2.1.val E=k.val E) :=
    λwhy=>⟨False,F,λt=>⟨λh=>h.elim,λh=>h.1.elim⟩,λh=>h.elim⟩
   cases hd:vF d e.2.1 with
   | false=>simp only[ij,hd];exact fl _
   | true =>
     cases he:Qu k e.2.1 with
     | none=>simp only[ij,hd,he];exact fl _
     | some q =>
       obtain⟨l,b⟩:=q;have key:=λE=>Nv hk hd he E
       have fnd: ∀ E,J d (k.val E) (eS E (e::r)) i=(match b with
         | true=>A (A (i,e.2.2.val E))
         | false=>J d (k.val E) (eS E r) (i+1)):=λE=>by
        show J d (k.val E) ({key:=e.2.1.val E,val:=e.2.2.val E,born:=e.1}::eS E r) i=_;rw[J];simp only[(key E).1];cases b<;>rfl
       have main: ∃(obl:Prop) (r':Zy),(∀ t:Zy->VC,(match b with | true=>t (A (i,e)) | false=>ij d k t r (i+1)).holds↔obl/\(t r').holds) /\
         (obl->(∀ E,J d (k.val E) (eS E (e::r)) i=A (r'.map λx=>(x.1,x.2.2.2.val E)))/\∀ j e',r'=A (j,e')->i<=j/\(e::r)[j - i]?=A e'/\∀ E,e'.2.1.val E=k.val E):=by
        cases b with
        | true =>refine⟨True,A (i,e),λt=>⟨λh=>⟨trivial,h⟩,λh=>h.2⟩,λ_=>⟨λE=>by rw[fnd E];rfl,λj e' h=> ?_⟩⟩;cases h;exact⟨Nat.le_refl _,by simp,λE=>((key E).2 rfl).symm⟩
        | false =>refine⟨obl,x,h1,λho=>⟨λE=>by rw[fnd E];exact(h2 ho).1 E,λj e' h=> ?_⟩⟩;obtain⟨g1,g2,g3⟩:=(h2 ho).2 j e' h;refine⟨by omega,?_,g3⟩;rw[show j - i=(j - (i+1))+1 by omega];simpa using g2
       cases l with
       | true=>simp only[ij,hd,he];exact main
       | false =>simp only[ij,hd,he];obtain⟨obl',r',m1,m2⟩:=main;refine⟨obl',r',λt=> ?_,m2⟩;rw[bP];exact m1 t
def qp (ok:Bool)(z:SV):Zy->SV
 | some (_,e)=>(match ok with
   | true=>.aN [e.2.2,.bool C C]
   | false=>e.2.2)
 | none=>(match ok with
   | true=>.aN [z,.bool C D]
   | false=>z)
def Bs (ok:Bool)(key a:Nat)(b:Bool):SV:=match ok,b with
 | true,C=>.aN [.ga key a 0,.bool C C]
 | true,D=>.aN [.cD,.bool C D]
 | false,C=>.ga key a 0
 | false,D=>.cD
def Qv (d:TypeDesc)(k:SV)(ok:Bool)(z:SV)(es:List (Nat×SV×SV))(K:Option SV->VC):VC:=ij d k (λr=>K (A (qp ok z r))) es 0
def Bv (P:Program)(look:l8)(t:TypeId)(x k:SV)(ok:Bool)(K:Option SV->VC):VC :=
 match P.underlying t with
 | some (.map kt et)=>(match P.underlying kt,gO P et with
   | some d,A z=>(match vF d k,x with
     | true,.fU=>K (A (qp ok z F))
     | true,.map key=>(match look key with
       | some (.map es _)=>Qv d k ok z es K
       | some (.fmap f c _)=>(match d,k with
         | .string,.str _ s=>(match c.look (f s) s z with
           | some v=>K (A (match ok with
             | true=>.aN [v,.bool D (f s)]
             | false=>v))
           | none=>(match c,z with
             | .ref key' g,.cD=>fork (f s) λb=>K (A (Bs ok key' (g s) b))
             | _,_=>.fail "lookup: what a map holds"))
         | _,_=>.fail "lookup: a key")
       | _=>.fail "lookup: no map")
     | _,_=>.fail "lookup")
   | _,_=>.fail "lookup: types")
 | _=>.fail "lookup: no map type"
section
variable {P : Program} {look : l8} {σ : Operand -> Option SV}
theorem aR.afA {s:(Operand->Value)->Sem Value}{b:Bool}{f:Bool->SV}(h:aR P look σ s (λK=>K (A (f b)))):aR P look σ s (λK=>Sx.fork b λc=>K (A (f c))):=by obtain⟨obl,sv,h1,h2⟩:=h;exact⟨obl,sv,λK=>by rw[bP];exact h1 K,h2⟩
theorem Nw {kt et:TypeId}{d:TypeDesc}{z:SV}{k:Operand}{key:Nat}{es:List (Nat×SV×SV)}(ht:P.underlying t=A (.map kt et))(hd:P.underlying kt=A d)(hz:gO P et=A z)(hkd:vF d b=C)(hl:look key=A (.map es clock))(hx:σ x=A (.map key))(hk:σ k=A b) :
  aR P look σ (λρ=>R t (ρ x) (ρ k) ok) (Qv d b ok z es):=by
 obtain⟨obl,r,h1,h2⟩:=nQ hkd es 0;refine⟨obl,A (qp ok z r),λK=>h1 _,λE w ρ hc hr ho=> ?_⟩;obtain⟨ob,hob,hb⟩:=hc.1 key _ hl rfl;have hb:ob=.map (eS E es).toArray clock:=hb;subst hb;have hf:=(h2 ho).1 E;have hf':J d (b.val E) (eS E es).toArray.toList 0=_:=hf;refine⟨(qp ok z r).val E,?_,λv hv=>by injection hv with hv;rw[← hv]⟩;simp only[R,hr x _ hx,hr k _ hk,H,aI ht,G,SV.val,I,az hob,an hd (tL hkd E) _ 9999,Z,aI hd,hf'];cases r with
 | none=>cases ok<;>simp[dV (E:=E) hz,qp,SV.val,SV.vals]
 | some q=>cases ok<;>simp[qp,SV.val,SV.vals]
theorem Ou {k:Operand}(hx:σ x=A a)(hk:σ k=A b) :
  aR P look σ (λρ=>R t (ρ x) (ρ k) ok) (Bv P look t a b ok):=by
 unfold Bv;split
 ·rename_i kt et ht;split
  ·rename_i d z hd hz;split
   ·rename_i hkd;refine aR.v _ λE w ρ hc hr=> ?_;simp only[R,hr x _ hx,hr k _ hk,H,aI ht,G,SV.val,I];cases ok<;>simp[Z,aI hd,J,dV (E:=E) hz,qp,SV.val,SV.vals,an hd (tL hkd E)]
   ·rename_i key hkd;split
    ·rename_i es clock hl;exact Nw ht hd hz hkd hl hx hk
    ·rename_i f c pend hl;split
     ·rename_i lt s;split
      ·rename_i v hv;refine aR.k _ λE w ρ hc hr=> ?_;obtain⟨ob,hob,es,clock,rfl,hfm⟩:=hc.1 key _ hl rfl;have hlv:=aE.KI hv E
       refine⟨match ok with
        | true=>.tuple #[v.val E,.bool (f s)]
        | false=>v.val E,?_,λu hu=>by cases hu;cases ok<;>rfl⟩
       simp only[R,hr x _ hx,hr k _ hk,H,aI ht,G,SV.val,I,az hob,an (k:=.string ⟨s.toArray⟩) hd trivial _ 9999,Z,aI hd];rcases hfm.find s with ⟨h1,h2,_⟩ | ⟨h1,j,e,h2,_⟩
       ·have h2':J .string (.string ⟨s.toArray⟩) es.toList 0=_:=h2;rw[h1] at hlv ⊢;simp only[h2',I,G,H,dV (E:=E) hz,hlv];cases ok<;>simp
       ·have h2':J .string (.string ⟨s.toArray⟩) es.toList 0=_:=h2;rw[h1] at hlv ⊢;simp only[h2',I,G,H,hlv];cases ok<;>simp
      ·split
       ·rename_i key' g _;refine aR.afA ?_;refine aR.k _ λE w ρ hc hr=> ?_;obtain⟨ob,hob,es,clock,rfl,hfm⟩:=hc.1 key _ hl rfl;refine⟨(Bs ok key' (g s) (f s)).val E,?_,λu hu=>by cases hu;rfl⟩;simp only[R,hr x _ hx,hr k _ hk,H,aI ht,G,SV.val,I,az hob,an (k:=.string ⟨s.toArray⟩) hd trivial _ 9999,Z,aI hd];rcases hfm.find s with ⟨h1,h2,_⟩ | ⟨h1,j,e,h2,_⟩
        ·have h2':J .string (.string ⟨s.toArray⟩) es.toList 0=_:=h2;rw[h1];simp only[h2',I,G,H,dV (E:=E) hz];cases ok<;>simp[Bs,SV.val,SV.vals]
        ·have h2':J .string (.string ⟨s.toArray⟩) es.toList 0=_:=h2;rw[h1];simp only[h2',I,G,H];cases ok<;>simp[Bs,SV.val,SV.vals,aE.val]
       ·exact aR.fail _
     ·exact aR.fail _
    ·exact aR.fail _
   ·exact aR.fail _
  ·exact aR.fail _
 ·exact aR.fail _
end
def bytesOf:List SV->Option (Bool×f_)
 | []=>A (C,[])
 | .int .u8 l v::r=>(match bytesOf r with
   | some (l',bs)=>A (l&&l',T v.toNat::bs)
   | none=>F)
 | _=>F
def Bl (P:Program)(t:TypeId):Bool:=match P.underlying t with
 | some (.slice e)=>(match P.underlying e with
   | some (.int .u8)=>C
   | _=>D)
 | _=>D
def dG (f:Nat->Int)(i n:Nat):f_:=(List.range n).map λj=>T (f (i+j)).toNat
theorem wE (g:Nat->Int): ∀ l:List Nat,∃ lt,bytesOf (l.map λj=>SV.int .u8 D (g j))=A (lt,l.map λj=>T (g j).toNat)
 | []=>⟨C,rfl⟩
 | a::r=>by obtain⟨lt,h⟩:=wE g r;exact⟨D&&lt,by simp only[b6,bytesOf,h]⟩
def Oo (look:l8)(a:SV)(K:Option SV->VC):VC:=match a with
 | .aO=>K (A (.str C []))
 | .slc key o n _ _=>(match look key with
   | some (.cells cs _ _)=>(match ic cs o n with
     | some l=>(match bytesOf l with
       | some (l',bs)=>K (A (.str l' bs))
       | none=>.fail "convert: bytes that are not known")
     | none=>.fail "convert: a slice out of its block")
   | _=>.fail "convert: the block")
 | .aX key 1 D i n _=>(match look key with
   | some (.rows D nb [.int .u8 f] _ _ _)=>.and (.atom (i+n<=nb)) (K (A (.str D (dG f i n))))
   | _=>.fail "convert: the block")
 | _=>.fail "convert: a slice"
def IK (P:Program)(look:l8)(src dst:TypeId)(a:SV)(K:Option SV->VC):VC:=match Bl P src,P.underlying dst with
 | true,A .string=>Oo look a K
 | _,_=>XL P src dst a K
def xA (c:Value)(s:ByteArray):Sem (ForInStep ByteArray):=do
 let .int .u8 n:=c | stuck "bytesToString: byte expected"
 pure (.yield (s.push (T n.toNat)))
theorem oG (a:Addr)(n c:Nat):Conv.bytesToString (.slice (A a) n c)=(do
  let s ← forIn (← loadCells a n) en xA
  pure (.string s)):=rfl
theorem vW {P:Program}{w:World}{E:Nat->Nat}: ∀ {l:List SV} {lt:Bool} {bs:f_} (acc:f_),bytesOf l=A (lt,bs) ->
  (forIn (SV.vals E l) (⟨acc.toArray⟩:ByteArray) xA).run P w=.ok ⟨(acc++bs).toArray⟩ w
 | [],lt,bs,acc,h=>by simp only[bytesOf,Option.some.injEq,Prod.mk.injEq] at h;obtain⟨_,rfl⟩:=h;simp[SV.vals]
 | x::r,lt,bs,acc,h=>by
   unfold bytesOf at h;split at h
   ·rename_i e;cases e
   ·rename_i l v r' e;injection e with e1 e2;subst e1;subst e2;split at h
    ·rename_i l' bs' hr;simp only[Option.some.injEq,Prod.mk.injEq] at h;obtain⟨_,rfl⟩:=h;simp only[SV.vals,SV.val,List.forIn_cons,H];have:(xA (.int .u8 v) ⟨acc.toArray⟩).run P w=.ok (.yield ⟨(acc++[T v.toNat]).toArray⟩) w:=by simp[xA,er]
     rw[this];simp only[G];rw[vW (acc++[T v.toNat]) hr];simp
    ·cases h
   ·cases h
section
variable {P : Program} {look : l8} {σ : Operand -> Option SV}
theorem ot {src dst:TypeId}{v:Value}(hb:Bl P src=C)(hd:P.underlying dst=A .string)(hv: ∀ k n,v≠.int k n)(hs: ∀ b,v≠.string b) :
  (convert src dst v).run P w=(Conv.bytesToString v).run P w:=by
 unfold Bl at hb;split at hb
 ·rename_i e he;split at hb
  ·rename_i he2;simp only[convert,H,aI he,aI hd,G]
   cases v<;>first
    | (rename_i k n;exact absurd rfl (hv k n))
    | (rename_i b;exact absurd rfl (hs b))
    | (simp only[aI he2,G])
  ·cases hb
 ·cases hb
theorem Tj {src dst:TypeId}(hx:σ x=A a):aR P look σ (λρ=>convert src dst (ρ x)) (IK P look src dst a):=by
 unfold IK;split
 ·rename_i hb hd;unfold Oo;split
  ·exact aR.v _ λE w ρ hc hr=>by rw[hr x _ hx,ot hb hd (λ_ _ h=>by cases h) (λ_ h=>by cases h)];rfl
  ·rename_i key o n cl c;split
   ·rename_i cs tot ty hk;split
    ·rename_i l hl;split
     ·rename_i l' bs hbs;refine aR.v _ λE w ρ hc hr=> ?_;obtain⟨ob,ho,c0,fr,rfl,_,h2,_⟩:=hc.1 key _ hk rfl;have hg:=cV hl;have hll:=run_loadCells (P:=P) ho o (SV.vals E l) (λj v hj=>by
       rw[SV.bM,dQ] at hj;cases hjl:l[j]? with
       | none=>rw[hjl] at hj;cases hj
       | some u=>rw[hjl] at hj;cases hj;exact h2 _ _ (hg.2 j u hjl))
      have hlen:(SV.vals E l).length=n:=by rw[SV.bM,b5,hg.1]
      rw[hlen] at hll;rw[hr x _ hx,ot hb hd (λ_ _ h=>by cases h) (λ_ h=>by cases h)];simp only[SV.val,oG,H,hll,G];rw[← b9];have:=vW (P:=P) (w:=w) (E:=E) [] hbs;simp only[ej] at this;exact(congrArg (λr:Result ByteArray=>r.andThen λa w'=>Sem.run P (pure (Value.string a)) w') this).trans rfl
     ·exact aR.fail _
    ·exact aR.fail _
   ·exact aR.fail _
  ·rename_i key i n c;split
   ·rename_i nb f ro tot ty hk;refine aR.atom λhin=>aR.v _ λE w ρ hc hr=> ?_;obtain⟨ob,ho,c0,fr,rfl,_,_,_,h2⟩:=hc.1 key _ hk rfl;obtain⟨lt,hbs⟩:=wE (λj=>f (i+j)) (List.range n);have hl:(SV.vals E ((List.range n).map λj=>SV.int .u8 D (f (i+j)))).length=n:=by rw[SV.bM,b5,b5,List.length_range]
    have hll:=run_loadCells (P:=P) ho (i*1) (SV.vals E ((List.range n).map λj=>SV.int .u8 D (f (i+j)))) (λj v hj=>by
     rw[SV.bM,List.map_map,dQ] at hj;by_cases hjn:j<n
     ·rw[List.getElem?_range hjn] at hj;cases hj;have:=h2 (i+j) 0 (.int .u8 f) (by omega) rfl;rw[show i*1+j=(i+j)*[av.int IntKind.u8 f].length+0 by simp];exact this
     ·rw[List.getElem?_eq_none (by simpa using hjn)] at hj;cases hj)
    rw[hl] at hll;rw[hr x _ hx,ot hb hd (λ_ _ h=>by cases h) (λ_ h=>by cases h)];simp only[SV.val,b!,cond_false,oG,H,hll,G];rw[← b9];have:=vW (P:=P) (w:=w) (E:=E) [] hbs;simp only[ej] at this;exact(congrArg (λr:Result ByteArray=>r.andThen λa w'=>Sem.run P (pure (Value.string a)) w') this).trans rfl
   ·exact aR.fail _
  ·exact aR.fail _
 ·exact XM hx
end
def To (P:Program)(src dst:TypeId):Bool :=
 match P.underlying src,P.underlying dst with
 | some (.int _),A (.int _)=>C
 | some .string,A .string=>C
 | _,A .string=>Bl P src
 | _,_=>D
def ey (P:Program):Op->Bool
 | .move _ | .assign _ | .pick .. | .load .. | .nilCheck _ | .binOp .. | .unOp .. | .makeInterface .. | .makeFunc .. | .slice .. | .fieldAddr .. | .field ..
 | .indexAddr .. | .index .. | .typeAssert .. | .extract .. | .build .. | .lookup .. =>C
 | .convert s d _=>To P s d
 | .call c=>(match c.callee with
   | .builtin .len | .builtin .cap | .builtin .min | .builtin .max=>C
   | _=>D)
 | _=>D
def need (x:Option SV)(t:SV->VC):VC :=
 match x with
 | some v=>t v
 | none=>.fail "a value that is not known"
def aez (x:Option SV)(K:Option SV->VC):VC :=
 match x with
 | some (.ptr a b c)=>K (A (.ptr a b c))
 | some (.lS a b c d)=>K (A (.lS a b c d))
 | some (.i9 a b c d e)=>K (A (.i9 a b c d e))
 | some (.ga a b c)=>K (A (.ga a b c))
 | some (.n7 a b c d e)=>K (A (.n7 a b c d e))
 | some (.iface t v)=>K (A (.iface t v))
 | some (.func (.func f) a b)=>K (A (.func (.func f) a b))
 | _=>.fail "nilCheck"
def XQ (c a b:Option SV)(K:Option SV->VC):VC :=
 match c with
 | some (.bool C v)=>(match v with
   | true=>K a
   | false=>K b)
 | some (.bool D v)=>fork v (λe=>match e with
   | true=>K a
   | false=>K b)
 | _=>.fail "pick"
def QX (P:Program)(look:l8)(t:TypeId)(x:SV)(K:Option SV->VC):VC :=
 match x with
 | .map key=>(match P.underlying t,look key with
   | some (.map _ _),A (.map es _)=>K (A (.int .i64 C es.length))
   | _,_=>.fail "len: no map")
 | _=>aey P t x K
theorem XN {P:Program}{look:l8}{σ:Operand->Option SV}(hx:σ x=A a)(h0:ats[0]?=A t) :
  aR P look σ (λρ=>Y ats ty #[ρ x]) (QX P look t a):=by
 unfold QX;split
 ·rename_i key;split
  ·rename_i kt et es clock ht hl;refine aR.v _ λE w ρ hc hr=> ?_;obtain⟨ob,hob,hb⟩:=hc.1 key _ hl rfl;have hb:ob=.map (eS E es).toArray clock:=hb;subst hb;simp[Y,h0,hr x _ hx,SV.val,aI ht,az hob,goInt,eS]
  ·exact aR.fail _
 ·exact aaZ hx h0
def QV (P:Program)(look:l8)(σ:Operand->Option SV)(b:Builtin)(ats:Array TypeId)(args:List Operand)(K:Option SV->VC):VC :=
 match b,args with
 | .len,[x]=>(match ats[0]? with
   | some t=>need (σ x) (λv=>QX P look t v K)
   | none=>.fail "len")
 | .cap,[x]=>(match ats[0]? with
   | some t=>need (σ x) (λv=>aew P t v K)
   | none=>.fail "cap")
 | .min,[x,y]=>need (σ x) (λv=>need (σ y) (λu=>tZ D v u K))
 | .max,[x,y]=>need (σ x) (λv=>need (σ y) (λu=>tZ C v u K))
 | _,_=>.fail "builtin"
def qop (P:Program)(look:l8)(σ:Operand->Option SV)(o:Op)(K:Option SV->VC):VC :=
 match o with
 | .move x | .assign x=>K (σ x)
 | .pick c a b=>XQ (σ c) (σ a) (σ b) K
 | .load t a=>QY P look t (σ a) K
 | .nilCheck x=>aez (σ x) K
 | .binOp op t x y _=>need (σ x) (λa=>need (σ y) (λb=>aev P op t (isConst x||isConst y) a b K))
 | .unOp op _ x=>need (σ x) (λa=>qun op a K)
 | .convert s d x=>need (σ x) (λa=>IK P look s d a K)
 | .makeInterface t x=>need (σ x) (λa=>vU P t a K)
 | .makeFunc fn a b=>zB fn (Hx σ a.toList) (Hx σ b.toList) K
 | .slice t x lo hi mx=>IP P σ t (σ x) lo hi mx K
 | .fieldAddr s x f=>vS P s (σ x) f K
 | .field t x f=>need (σ x) (λa=>Oq P t a f K)
 | .indexAddr t x i=>vT P t (σ x) (σ i) K
 | .index t x i=>need (σ x) (λa=>need (σ i) (λb=>Ot P t a b K))
 | .typeAssert x _ at_ ok=>need (σ x) (λa=>II P a at_ ok K)
 | .extract x i=>need (σ x) (λa=>Dr a i K)
 | .build t parts=>IJ P σ t parts.toList K
 | .lookup t x k ok=>need (σ x) (λa=>need (σ k) (λb=>Bv P look t a b ok K))
 | .call c=>(match c.callee with
   | .builtin b=>QV P look σ b c.argTypes c.args.toList K
   | _=>.fail "call")
 | _=>.fail "no quiet operation"
def js (P:Program)(look:l8)(σ:Operand->Option SV)(o:Oper)(t:QT):Prop :=
 ∃(obl:Prop) (sv:Option SV),(∀ K,(t K).holds↔obl/\(K sv).holds) /\
  (∀ E w ρ,Compat E look w->Reads E σ ρ->obl->∃ r,(execOp ρ o).run P w=.ok (.value r) w/\∀ v,sv=A v->r=v.val E)
section
variable {P : Program} {look : l8} {σ : Operand -> Option SV}
theorem js.of {s:(Operand->Value)->Sem Value}{t:QT}(h:aR P look σ s t)(he: ∀ ρ,execOp ρ o=(do pure (.value (← s ρ)):Sem Next)):js P look σ o t:=by obtain⟨obl,sv,h1,h2⟩:=h;refine⟨obl,sv,h1,λE w ρ hc hr ho=> ?_⟩;obtain⟨r,hrun,hv⟩:=h2 E w ρ hc hr ho;exact⟨r,by rw[he,H,hrun];rfl,hv⟩
theorem js.fail (why:String):js P look σ o (λ_=>.fail why) :=⟨False,F,λ_K=>⟨λh=>h.elim,λh=>h.1.elim⟩,λ_ _ _ _ _ h=>h.elim⟩
theorem js.need {o:Oper}{x:Operand}{t:SV->QT}(h: ∀ v,σ x=A v->js P look σ o (t v)):js P look σ o (λK=>need (σ x) (λv=>t v K)):=by
 unfold Sx.need;cases hx:σ x with
 | none=>exact js.fail _
 | some v=>exact h v hx
theorem js.k (x:Operand)(he: ∀ ρ,execOp ρ o=(pure (.value (ρ x)):Sem Next)):js P look σ o (λK=>K (σ x)) :=⟨True,σ x,λK=>⟨λh=>⟨trivial,h⟩,λh=>h.2⟩,λE w ρ _ hr _=>⟨ρ x,by rw[he];rfl,λv hv=>hr x v hv⟩⟩
theorem IM (o:Oper):js P look σ o (qop P look σ o.op):=by
 obtain⟨dst,op,type,pos,after,guard⟩:=o;cases op
 case move x=>exact js.k x λρ=>rfl
 case assign x=>exact js.k x λρ=>rfl
 case pick c a b =>
  show js P look σ _ (XQ (σ c) (σ a) (σ b));unfold XQ;have key: ∀ l v,σ c=A (.bool l v)->js P look σ ⟨dst,.pick c a b,type,pos,after,guard⟩ (λK=>match v with | true=>K (σ a) | false=>K (σ b)):=by
   intro l v hc;have he: ∀ E ρ w,Reads E σ ρ->(execOp ρ ⟨dst,.pick c a b,type,pos,after,guard⟩).run P w=.ok (.value (if v then ρ a else ρ b)) w:=by intro E ρ w hr;simp only[execOp,hr c _ hc,SV.val,asBool,H,I,G]
   cases v with
   | true=>exact⟨True,σ a,λK=>⟨λh=>⟨trivial,h⟩,λh=>h.2⟩,λE w ρ _ hr _=>⟨ρ a,by rw[he E ρ w hr];rfl,λv hv=>hr a v hv⟩⟩
   | false=>exact⟨True,σ b,λK=>⟨λh=>⟨trivial,h⟩,λh=>h.2⟩,λE w ρ _ hr _=>⟨ρ b,by rw[he E ρ w hr];rfl,λv hv=>hr b v hv⟩⟩
  split
  ·rename_i v hc;exact key _ _ hc
  ·rename_i v hc;obtain⟨obl,sv,h1,h2⟩:=key _ _ hc;exact⟨obl,sv,λK=>by rw[bP];exact h1 K,h2⟩
  ·exact js.fail _
 case load t a=>exact js.of (XO t a) λρ=>rfl
 case nilCheck x =>
  show js P look σ _ (aez (σ x));unfold aez;split
  all_goals first
   | exact js.fail _
   | (rename_i hx;exact⟨True,_,λK=>⟨λh=>⟨trivial,h⟩,λh=>h.2⟩,λE w ρ _ hr _=>⟨_,by simp only[execOp,hr x _ hx,SV.val];rfl,λv hv=>by cases hv;rfl⟩⟩)
 case binOp op t x y yt=>exact js.need λa ha=>js.need λb hb=>js.of (aaV (_yt:=yt) ha hb) λρ=>rfl
 case unOp op t x=>exact js.need λa ha=>js.of (aeC ha) λρ=>rfl
 case convert s d x=>exact js.need λa ha=>js.of (Tj ha) λρ=>rfl
 case makeInterface t x=>exact js.need λa ha=>js.of (ED ha) λρ=>rfl
 case makeFunc fn a b=>exact js.of IL λρ=>rfl
 case slice t x lo hi mx=>exact js.of Tn λρ=>rfl
 case fieldAddr s x f=>exact js.of (EB s x f) λρ=>rfl
 case field t x f=>exact js.need λa ha=>js.of (Tk ha) λρ=>rfl
 case indexAddr t x i=>exact js.of (EC t x i) λρ=>rfl
 case index t x i=>exact js.need λa ha=>js.need λb hb=>js.of (Tl ha hb) λρ=>rfl
 case typeAssert x t at_ ok=>exact js.need λa ha=>js.of (On (t:=t) ha) λρ=>rfl
 case extract x i=>exact js.need λa ha=>js.of (Ly ha) λρ=>rfl
 case build t parts=>exact js.of Ti λρ=>rfl
 case lookup t x k ok=>exact js.need λa ha=>js.need λb hb=>js.of (Ou ha hb) λρ=>rfl
 case call c =>
  obtain⟨callee,args,ats⟩:=c;cases callee with
  | value f=>exact js.fail _
  | invoke r m=>exact js.fail _
  | builtin b =>
    show js P look σ _ (QV P look σ b ats args.toList);unfold QV;have harr: ∀ {l:List Operand},args.toList=l->args=l.toArray:=λh=>by rw[← h]
    split
    ·rename_i x hx;have:=harr hx;subst this;split
     ·rename_i t ht;exact js.need λa ha=>js.of (XN (ty:=type) ha ht) λρ=>(X ..).trans (by rw[BigFrame.builtin_len];simp)
     ·exact js.fail _
    ·rename_i x hx;have:=harr hx;subst this;split
     ·rename_i t ht;exact js.need λa ha=>js.of (aaW (ty:=type) ha ht) λρ=>(X ..).trans (by rw[BigFrame.builtin_cap];simp)
     ·exact js.fail _
    ·rename_i x y hx;have:=harr hx;subst this;exact js.need λa ha=>js.need λb hb=>js.of (aa1 (ats:=ats) (ty:=type) ha hb) λρ=>(X ..).trans (by rw[BigFrame.builtin_min];simp)
    ·rename_i x y hx;have:=harr hx;subst this;exact js.need λa ha=>js.need λb hb=>js.of (aa0 (ats:=ats) (ty:=type) ha hb) λρ=>(X ..).trans (by rw[BigFrame.builtin_max];simp)
    ·exact js.fail _
 all_goals exact js.fail _
end
end
end Sx
end Go.Proofs.YtoibaecagklkaaaGreatDoor
