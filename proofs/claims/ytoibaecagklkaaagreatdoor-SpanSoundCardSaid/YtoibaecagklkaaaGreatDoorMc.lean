/-
  The framework's fifth part: slices of slices, assertions, len and its like, composite literals; 'qop', all quiet operations.
-/
import Derived.Test.YtoibaecagklkaaaGreatDoorMb
import Derived.BigFrame
import Derived.MapKept
namespace Go.Proofs.YtoibaecagklkaaaGreatDoor.Sx
open Go
section
variable {P : Program} {look : jH} {σ : Operand -> Option SV}
def bound (σ:Operand->Option SV)(d:Bool×Int):Option Operand->Option (Bool×Int)
 | none=>some d
 | some x=>match σ x with
   | some (.int _ l n)=>some (l,n)
   | _=>none
def bz (s:List UInt8):Option Operand->Option Operand->Int->Int->List UInt8
 | none,none,_,_=>s
 | none,some _,_,h=>s.take h.toNat
 | some _,none,l,_=>s.drop l.toNat
 | some _,some _,l,h=>(s.drop l.toNat).take (h.toNat - l.toNat)
def Bm (l:Bool)(c:Prop)[Decidable c](t:VC):VC :=
 match l with
 | true=>if c then t else .fail "a bound"
 | false=>.and (.atom c) t
theorem aM.Bm {s:(Operand->Value)->Sem Value}{l:Bool}{c:Prop}[Decidable c]{t:QT}(h:c->aM P look σ s t):aM P look σ s (fun K=>Sx.Bm l c (t K)):=by
 unfold Sx.Bm
 cases l
 ·exact aM.atom h
 ·exact aM.ite h (fun _=>aM.fail _)
def mG (σ:Operand->Option SV)(l:Bool)(s:List UInt8)(lo hi:Option Operand)(K:Option SV->VC):VC :=
 match bound σ (true,0) lo,bound σ (l,s.length) hi with
 | some (l1,a),some (l2,b)=>Bm (l&&l1&&l2) (0<=a/\a<=b/\b<=s.length) (K (some (.str (l&&l1&&l2) (bz s lo hi a b))))
 | _,_=>.fail "slice of a text"
def iL (σ:Operand->Option SV)(m:Nat)(_arr:Bool)(key o n:Nat)(cl:Bool)(c:Nat)(lo hi:Option Operand)(K:Option SV->VC):VC :=
 match bound σ (true,0) lo,bound σ (true,n) hi with
 | some (true,a),some (true,b)=>Bm true (0<=a/\a<=b) (Bm cl (b<=c) (match cl with
   | true=>K (some (.slc key (if c=a.toNat then o else o+a.toNat*m) (b.toNat - a.toNat) cl (c - a.toNat)))
   | false=>fork (decide (c=a.toNat)) (fun e=>match e with
     | true=>K (some (.slc key o (b.toNat - a.toNat) cl (c - a.toNat)))
     | false=>K (some (.slc key (o+a.toNat*m) (b.toNat - a.toNat) cl (c - a.toNat))))))
 | _,_=>.fail "slice: bounds that are not known"
def mB (σ:Operand->Option SV)(key w i n c:Nat)(lo hi:Option Operand)(K:Option SV->VC):VC :=
 match bound σ (true,0) lo,bound σ (false,n) hi with
 | some (_,a),some (_,b)=>.and (.atom (0<=a/\a<=b/\b<=c)) (fork (decide (c=a.toNat)) (fun e=>match e with
    | true=>K (some (.bw key w false i (b.toNat - a.toNat) (c - a.toNat)))
    | false=>K (some (.bw key w false (i+a.toNat) (b.toNat - a.toNat) (c - a.toNat)))))
 | _,_=>.fail "slice: bounds"
def qp (σ:Operand->Option SV)(n:Nat)(lo hi:Option Operand):Bool :=
 match bound σ (true,0) lo,bound σ (true,n) hi with
 | some (true,_),some (true,_)=>true
 | _,_=>false
def mD (σ:Operand->Option SV)(key o n:Nat)(lo hi:Option Operand)(K:Option SV->VC):VC :=
 match bound σ (true,0) lo,bound σ (true,n) hi with
 | some (_,a),some (_,b)=>.and (.atom (0<=a/\a<=b/\b<=n)) (fork (decide (n=a.toNat)) (fun e=>match e with
    | true=>K (some (.bw key 1 false o (b.toNat - a.toNat) (n - a.toNat)))
    | false=>K (some (.bw key 1 false (o+a.toNat) (b.toNat - a.toNat) (n - a.toNat)))))
 | _,_=>.fail "slice: bounds"
def nI (σ:Operand->Option SV)(m:Nat)(key o n c:Nat)(lo hi:Option Operand)(mx:Operand)(K:Option SV->VC):VC :=
 match hi,bound σ (true,0) lo,bound σ (true,n) hi,bound σ (true,c) (some mx)with
 | some _,some (true,a),some (true,b),some (true,z)=>Bm true (0<=a/\a<=b/\b<=z/\z<=c)
    (K (some (.slc key (if z.toNat=a.toNat then o else o+a.toNat*m) (b.toNat - a.toNat) true (z.toNat - a.toNat))))
 | _,_,_,_=>.fail "slice: bounds that are not known"
def C9 (P:Program)(σ:Operand->Option SV)(t:TypeId)(x:Option SV)(lo hi mx:Option Operand)(K:Option SV->VC):VC :=
 match mx,P.underlying t,x with
 | none,some .string,some (.str l s)=>mG σ l s lo hi K
 | none,some (.array n e),some (.ptr key true o)=>(match sz P e with
   | some m=>(match !qp σ n lo hi&&Nat.beq m 1 with
     | true=>mD σ key o n lo hi K
     | false=>iL σ m true key o n true n lo hi K)
   | none=>.fail "slice")
 | some z,some (.array n e),some (.ptr key true o)=>(match sz P e with
   | some m=>nI σ m key o n n lo hi z K
   | none=>.fail "slice")
 | some z,some (.slice e),some (.slc key o n true c)=>(match sz P e with
   | some m=>nI σ m key o n c lo hi z K
   | none=>.fail "slice")
 | none,some (.slice e),some (.slc key o n cl c)=>(match sz P e with
   | some m=>iL σ m false key o n cl c lo hi K
   | none=>.fail "slice")
 | none,some (.slice e),some (.bw key w false i n c)=>(match sz P e with
   | some m=>if m=w then mB σ key w i n c lo hi K else .fail "slice: another row"
   | none=>.fail "slice")
 | _,_,_=>.fail "slice"
theorem jU {E:Nat->Nat}{w:World}{ρ:Operand->Value}(hr:Reads E σ ρ){d:Bool×Int}{x:Operand}{l:Bool}{n:Int}
  (h:bound σ d (some x)=some (l,n)) {y:Nat} {code:BoundsCode} (h0:0<=n) (h1:n<=y):(Instr.sliceBound (ρ x) y code).run P w=.ok n.toNat w:=by
 simp only[bound] at h
 split at h
 ·rename_i k l' n' hx
  injection h with h;injection h with _ h;subst h
  rw[hr x _ hx]
  simp[SV.val,Instr.sliceBound,asIntOf,h0,h1]
 ·cases h
theorem j8 {E:Nat->Nat}{w:World}{ρ:Operand->Value}(hr:Reads E σ ρ){isSlice:Bool}{n c:Nat}{lo hi:Option Operand}{la lb ld:Bool}{a b:Int}
  (ha:bound σ (true,0) lo=some (la,a)) (hb:bound σ (ld,(n:Int)) hi=some (lb,b)) (h0:0<=a) (h1:a<=b) (h2:b<=c) :
  (Instr.sliceBounds isSlice n c (lo.map ρ) (hi.map ρ) none).run P w=.ok (a.toNat,b.toNat,c) w:=by
 cases hi with
 | none =>
   simp only[bound] at hb;injection hb with hb;injection hb with _ hb;subst hb
   cases lo with
   | none =>
     simp only[bound] at ha;injection ha with ha;injection ha with _ ha;subst ha
     simp[Instr.sliceBounds]
   | some x =>
     have hx:=fun code=>jU (P:=P) (w:=w) hr ha (y:=n) (code:=code) h0 h1
     simp[Instr.sliceBounds,hx]
 | some y =>
   have hy:=fun code=>jU (P:=P) (w:=w) hr hb (y:=c) (code:=code) (by omega) h2
   cases lo with
   | none =>
     simp only[bound] at ha;injection ha with ha;injection ha with _ ha;subst ha
     simp[Instr.sliceBounds,hy]
   | some x =>
     have hx:=fun code=>jU (P:=P) (w:=w) hr ha (y:=b.toNat) (code:=code) h0 (by omega)
     simp[Instr.sliceBounds,hy,hx]
theorem vT {E:Nat->Nat}{w:World}{ρ:Operand->Value}(hr:Reads E σ ρ){isSlice:Bool}{n c:Nat}{lo:Option Operand}{hi mx:Operand}{la lb ld lz:Bool}{a b z:Int}
  (ha:bound σ (true,0) lo=some (la,a)) (hb:bound σ (ld,(n:Int)) (some hi)=some (lb,b)) (hz:bound σ (true,(c:Int)) (some mx)=some (lz,z)) (h0:0<=a) (h1:a<=b) (h2:b<=z) (h3:z<=c) :
  (Instr.sliceBounds isSlice n c (lo.map ρ) (some (ρ hi)) (some (ρ mx))).run P w=.ok (a.toNat,b.toNat,z.toNat) w:=by
 have hmz:=fun code=>jU (P:=P) (w:=w) hr hz (y:=c) (code:=code) (by omega) h3
 have hy:=fun code=>jU (P:=P) (w:=w) hr hb (y:=z.toNat) (code:=code) (by omega) (by omega)
 cases lo with
 | none =>
   simp only[bound] at ha;injection ha with ha;injection ha with _ ha;subst ha
   simp[Instr.sliceBounds,hmz,hy]
 | some x =>
   have hx:=fun code=>jU (P:=P) (w:=w) hr ha (y:=b.toNat) (code:=code) h0 (by omega)
   simp[Instr.sliceBounds,hmz,hy,hx]
theorem qH (s:List UInt8)(l h:Nat):(ByteArray.mk s.toArray).extract l h=⟨((s.drop l).take (h - l)).toArray⟩:=by
 apply ByteArray.ext
 rw[ByteArray.data_extract]
 simp
theorem L5 {σ:Operand->Option SV}{s:List UInt8}{ls la lb:Bool}{lo hi:Option Operand}{a b:Int}
  (ha:bound σ (true,0) lo=some (la,a)) (hb:bound σ (ls,(s.length:Int)) hi=some (lb,b)) (h:0<=a/\a<=b/\b<=s.length) :
  (s.drop a.toNat).take (b.toNat - a.toNat)=bz s lo hi a b:=by
 cases lo with
 | none =>
   simp only[bound] at ha;injection ha with ha;injection ha with _ ha;subst ha
   cases hi with
   | none=>simp only[bound] at hb;injection hb with hb;injection hb with _ hb;subst hb;simp[bz]
   | some y=>simp[bz]
 | some x =>
   cases hi with
   | none =>
     simp only[bound] at hb;injection hb with hb;injection hb with _ hb;subst hb
     simp only[bz]
     rw[List.take_of_length_le];simp
   | some y=>rfl
theorem Mn {t:TypeId}{x:Operand}{lo hi mx:Option Operand} :
  aM P look σ (fun ρ=>Instr.sliceAt t (ρ x) (lo.map ρ) (hi.map ρ) (mx.map ρ)) (C9 P σ t (σ x) lo hi mx):=by
 unfold C9
 split
 ·rename_i l s hd hx
  unfold mG
  split
  ·rename_i l1 a l2 b ha hb
   refine aM.Bm fun h=>aM.v _ fun E w ρ hc hr=> ?_
   have hs:(ByteArray.mk s.toArray).size=s.length:=by simp[ByteArray.size]
   have:=j8 (P:=P) (w:=w) hr (isSlice:=false) (c:=s.length) ha hb h.1 h.2.1 h.2.2
   simp only[hr x _ hx,SV.val,Instr.sliceAt,Sem.run_bind,aC hd,Result.andThen_ok,Instr.slice,Option.map,hs]
   simp only[Option.map] at this
   simp only[Option.isSome_none,Bool.false_eq_true,if_false,Sem.run_bind]
   rw[this]
   simp only[Result.andThen_ok,Sem.run_pure,qH,L5 ha hb h]
  ·exact aM.fail _
 ·rename_i n e key o hd hx
  split
  ·rename_i m hm
   split
   ·rename_i hlit
    have hm1:m=1:=by simp at hlit;exact hlit.2
    subst hm1
    unfold mD
    split
    ·rename_i l1 a l2 b ha hb
     refine aM.atom fun h=>aM.fork ?_
     have main: ∀ E w ρ,Reads E σ ρ->(Instr.sliceAt t (ρ x) (lo.map ρ) (hi.map ρ) ((none:Option Operand).map ρ)).run P w =
       .ok ((SV.bw key 1 false (if n=a.toNat then o else o+a.toNat) (b.toNat - a.toNat) (n - a.toNat)).val E) w:=by
      intro E w ρ hr
      have:=j8 (P:=P) (w:=w) hr (isSlice:=false) (c:=n) ha hb h.1 h.2.1 h.2.2
      simp only[Option.map] at this
      simp only[hr x _ hx,SV.val,Instr.sliceAt,Sem.run_bind,aC hd,Result.andThen_ok,Option.map,Instr.sureAddr,Sem.run_pure,this,bK hm,ck]
      split<;>simp
     by_cases hca:n=a.toNat
     ·rw[decide_eq_true hca]
      refine aM.v _ fun E w ρ hc hr=> ?_
      have:=main E w ρ hr
      rw[if_pos hca] at this;exact this
     ·rw[decide_eq_false hca]
      refine aM.v _ fun E w ρ hc hr=> ?_
      have:=main E w ρ hr
      rw[if_neg hca] at this;exact this
    ·exact aM.fail _
   ·unfold iL
    split
    ·rename_i a b ha hb
     refine aM.Bm fun h=>aM.Bm fun h'=>aM.v _ fun E w ρ hc hr=> ?_
     have:=j8 (P:=P) (w:=w) hr (isSlice:=false) (c:=n) ha hb h.1 h.2 h'
     simp only[Option.map] at this
     simp only[hr x _ hx,SV.val,Instr.sliceAt,Sem.run_bind,aC hd,Result.andThen_ok,Option.map,Instr.sureAddr,Sem.run_pure,this,bK hm,ck]
     split<;>rfl
    ·exact aM.fail _
  ·exact aM.fail _
 ·rename_i z n e key o hd hx
  split
  ·rename_i m hm
   unfold nI
   split
   ·rename_i y a b c ha hz hb
    refine aM.Bm fun h=>aM.v _ fun E w ρ hc hr=> ?_
    have:=vT (P:=P) (w:=w) hr (isSlice:=false) (c:=n) ha hb hz h.1 h.2.1 h.2.2.1 h.2.2.2
    simp only[Option.map] at this
    simp only[hr x _ hx,SV.val,Instr.sliceAt,Sem.run_bind,aC hd,Result.andThen_ok,Option.map,Instr.sureAddr,Sem.run_pure,this,bK hm,ck]
    split<;>rfl
   ·exact aM.fail _
  ·exact aM.fail _
 ·rename_i z e key o n c hd hx
  split
  ·rename_i m hm
   unfold nI
   split
   ·rename_i y a b c' ha hz hb
    refine aM.Bm fun h=>aM.v _ fun E w ρ hc hr=> ?_
    have:=vT (P:=P) (w:=w) hr (isSlice:=true) (c:=c) ha hb hz h.1 h.2.1 h.2.2.1 h.2.2.2
    simp only[Option.map] at this
    simp only[hr x _ hx,SV.val,Instr.sliceAt,Sem.run_bind,aC hd,Result.andThen_ok,Option.map,Instr.slice,this,bK hm,ck,Sem.run_pure]
    split<;>rfl
   ·exact aM.fail _
  ·exact aM.fail _
 ·rename_i e key o n cl c hd hx
  split
  ·rename_i m hm
   have main: ∀ {la lb:Bool} {a b:Int},bound σ (true,0) lo=some (la,a)->bound σ (true,(n:Int)) hi=some (lb,b)->0<=a->a<=b->b<=c ->
     ∀ E w ρ,Reads E σ ρ->(Instr.sliceAt t (ρ x) (lo.map ρ) (hi.map ρ) ((none:Option Operand).map ρ)).run P w =
       .ok ((SV.slc key (if c=a.toNat then o else o+a.toNat*m) (b.toNat - a.toNat) cl (c - a.toNat)).val E) w:=by
    intro la lb a b ha hb h0 h1 h2 E w ρ hr
    have:=j8 (P:=P) (w:=w) hr (isSlice:=true) (c:=c) ha hb h0 h1 h2
    simp only[Option.map] at this
    simp only[hr x _ hx,SV.val,Instr.sliceAt,Sem.run_bind,aC hd,Result.andThen_ok,Option.map,Instr.slice,this,bK hm,ck,Sem.run_pure]
    split<;>rfl
   unfold iL
   split
   ·rename_i a b ha hb
    refine aM.Bm fun h=>aM.Bm fun h'=> ?_
    cases cl with
    | true=>exact aM.v _ fun E w ρ hc hr=>main ha hb h.1 h.2 h' E w ρ hr
    | false =>
      refine aM.fork ?_
      by_cases hca:c=a.toNat
      ·rw[decide_eq_true hca]
       refine aM.v _ fun E w ρ hc hr=> ?_
       have:=main ha hb h.1 h.2 h' E w ρ hr
       rw[if_pos hca] at this;exact this
      ·rw[decide_eq_false hca]
       refine aM.v _ fun E w ρ hc hr=> ?_
       have:=main ha hb h.1 h.2 h' E w ρ hr
       rw[if_neg hca] at this;exact this
   ·exact aM.fail _
  ·exact aM.fail _
 ·rename_i e key w0 i n c hd hx
  split
  ·rename_i m hm
   refine aM.ite (fun hmw=> ?_) (fun _=>aM.fail _)
   subst hmw
   unfold mB
   split
   ·rename_i l1 a l2 b ha hb
    refine aM.atom fun h=>aM.fork ?_
    have main: ∀ E w ρ,Reads E σ ρ->(Instr.sliceAt t (ρ x) (lo.map ρ) (hi.map ρ) ((none:Option Operand).map ρ)).run P w =
      .ok ((SV.bw key m false (if c=a.toNat then i else i+a.toNat) (b.toNat - a.toNat) (c - a.toNat)).val E) w:=by
     intro E w ρ hr
     have:=j8 (P:=P) (w:=w) hr (isSlice:=true) (c:=c) ha hb h.1 h.2.1 h.2.2
     simp only[Option.map] at this
     simp only[hr x _ hx,SV.val,Bool.false_and,cond_false,Instr.sliceAt,Sem.run_bind,aC hd,Result.andThen_ok,Option.map,Instr.slice,this,bK hm,ck,Sem.run_pure]
     split
     ·rfl
     ·simp[Nat.add_mul]
    by_cases hca:c=a.toNat
    ·rw[decide_eq_true hca]
     refine aM.v _ fun E w ρ hc hr=> ?_
     have:=main E w ρ hr
     rw[if_pos hca] at this;exact this
    ·rw[decide_eq_false hca]
     refine aM.v _ fun E w ρ hc hr=> ?_
     have:=main E w ρ hr
     rw[if_neg hca] at this;exact this
   ·exact aM.fail _
  ·exact aM.fail _
 ·exact aM.fail _
end
end Go.Proofs.YtoibaecagklkaaaGreatDoor.Sx
namespace Go.Proofs.YtoibaecagklkaaaGreatDoor.Sx
open Go
section
variable {P : Program} {look : jH} {σ : Operand -> Option SV}
def fA (P:Program)(t:TypeId):Option SV :=
 match P.info? t with
 | some i=>(match i.zero with
   | some v=>SV.ofConst v
   | none=>none)
 | none=>none
theorem cX {E:Nat->Nat}{w:World}{t:TypeId}{v:SV}(h:fA P t=some v):(zeroValue t).run P w=.ok (v.val E) w:=by
 unfold fA at h
 split at h
 ·rename_i i hi
  split at h
  ·rename_i z hz
   simp[zeroValue,iE hi,hz,SV.wC (E:=E) h]
  ·cases h
 ·cases h
def tn (ok:Bool)(v:SV)(K:Option SV->VC):VC :=
 match ok with
 | true=>K (some (.aL [v,.bool true true]))
 | false=>K (some v)
def oX (P:Program)(at_:TypeId)(ok:Bool)(K:Option SV->VC):VC :=
 match ok with
 | true=>(match fA P at_ with
   | some z=>K (some (.aL [z,.bool true false]))
   | none=>.fail "typeAssert: no zero")
 | false=>.fail "typeAssert fails"
theorem oK {s:(Operand->Value)->Sem Value}{at_:TypeId}{ok:Bool}(h: ∀ E w ρ,Reads E σ ρ->ok=true->∀ z,(zeroValue at_).run P w=.ok z w->(s ρ).run P w=.ok (.tuple #[z,.bool false]) w) :
  aM P look σ s (oX P at_ ok):=by
 unfold oX
 cases ok with
 | false=>exact aM.fail _
 | true =>
   cases hz:fA P at_ with
   | none=>exact aM.fail _
   | some z=>exact aM.v _ fun E w ρ hc hr=>by rw[h E w ρ hr rfl _ (cX (E:=E) hz)];rfl
theorem vM {s:(Operand->Value)->Sem Value}{ok:Bool}(v:SV)(h: ∀ E w ρ,Reads E σ ρ->(s ρ).run P w=.ok (if ok then .tuple #[v.val E,.bool true] else v.val E) w) :
  aM P look σ s (tn ok v):=by
 unfold tn
 cases ok with
 | false=>exact aM.v _ fun E w ρ hc hr=>by rw[h E w ρ hr];rfl
 | true=>exact aM.v _ fun E w ρ hc hr=>by rw[h E w ρ hr];rfl
def isIface:TypeDesc->Option (Array (String×TypeId))
 | .interface want=>some want
 | _=>none
def Bv (want:Array (String×TypeId))(got:Array Method):Bool:=want.toList.any fun x=>!got.any fun m=>m.name==x.1&&m.sig==x.2
theorem zJ {l:List String}(h:l≠[]): ∃ m,Instr.least l=some m:=by
 cases l with
 | nil=>exact absurd rfl h
 | cons s r=>exact⟨_,rfl⟩
def Cj (missing:List String):Option String :=
 Instr.least (missing.partition (·.contains '.')).2 <|> Instr.least ((missing.partition (·.contains '.')).1.map fun id=>(id.splitOn ".").getLastD id)
theorem yS (want:Array (String×TypeId))(got:Array Method):Instr.missingMethod want got=Cj ((want.toList.filter fun(x:String×TypeId)=>!got.any fun m=>m.name==x.1&&m.sig==x.2).map (·.1)):=rfl
theorem GJ {want:Array (String×TypeId)}{got:Array Method}(h:Bv want got=false):Instr.missingMethod want got=none:=by
 have:(want.toList.filter fun(x:String×TypeId)=>!got.any fun m=>m.name==x.1&&m.sig==x.2)=[]:=by
  rw[List.filter_eq_nil_iff]
  intro x hx hb
  unfold Bv at h
  rw[List.any_eq_false] at h
  exact h x hx hb
 rw[yS,this];rfl
theorem xG {want:Array (String×TypeId)}{got:Array Method}(h:Bv want got=true): ∃ m,Instr.missingMethod want got=some m:=by
 unfold Bv at h
 rw[List.any_eq_true] at h
 obtain⟨x,hx,hb⟩:=h
 have hmem:x.1∈ (want.toList.filter fun(x:String×TypeId)=>!got.any fun m=>m.name==x.1&&m.sig==x.2).map (·.1):=List.mem_map.2 ⟨x,List.mem_filter.2 ⟨hx,hb⟩,rfl⟩
 rw[yS]
 unfold Cj
 generalize (want.toList.filter fun(x:String×TypeId)=>!got.any fun m=>m.name==x.1&&m.sig==x.2).map (·.1)=missing at hmem
 rw[List.partition_eq_filter_filter]
 show ∃ m,(Instr.least (missing.filter (not∘ fun s=>s.contains '.')) <|> Instr.least ((missing.filter fun s=>s.contains '.').map fun id=>(id.splitOn ".").getLastD id))=some m
 by_cases hd:x.1.contains '.'=true
 ·have hne:(missing.filter fun s=>s.contains '.')≠[]:=by
   intro h0;rw[List.filter_eq_nil_iff] at h0;exact h0 _ hmem hd
  obtain⟨m,hm⟩:=zJ (l:=(missing.filter fun s=>s.contains '.').map fun id=>(id.splitOn ".").getLastD id) (by simpa using hne)
  cases hl:Instr.least (missing.filter (not∘ fun s=>s.contains '.'))with
  | none=>exact⟨m,by rw[hm];rfl⟩
  | some q=>exact⟨q,rfl⟩
 ·have hne:(missing.filter (not∘ fun s=>s.contains '.'))≠[]:=by
   intro h0;rw[List.filter_eq_nil_iff] at h0;exact h0 _ hmem (by simpa using hd)
  obtain⟨m,hm⟩:=zJ hne
  exact⟨m,by rw[hm];rfl⟩
def DG (P:Program)(x:SV)(at_:TypeId)(ok:Bool)(K:Option SV->VC):VC :=
 match P.underlying at_,x with
 | some _,.aI=>oX P at_ ok K
 | some d,.iface u v=>(match isIface d with
   | some want=>(match P.info? u with
     | some i=>(match Bv want i.methods with
       | false=>tn ok (.iface u v) K
       | true=>oX P at_ ok K)
     | none=>.fail "typeAssert")
   | none=>if u=at_ then tn ok v K else oX P at_ ok K)
 | _,_=>.fail "typeAssert"
theorem It {x:Operand}{a:SV}{t at_:TypeId}{ok:Bool}(hx:σ x=some a):aM P look σ (fun ρ=>Instr.typeAssert (ρ x) t at_ ok) (DG P a at_ ok):=by
 unfold DG
 split
 ·rename_i d hd
  exact oK fun E w ρ hr hok z hz=>by rw[hr x _ hx];cases d<;>simp[SV.val,Instr.typeAssert,aC hd,hok,hz]
 ·rename_i d u v hd
  split
  ·rename_i want hw
   have hd':P.underlying at_=some (.interface want):=by cases d<;>simp[isIface] at hw;subst hw;exact hd
   split
   ·rename_i i hi
    split
    ·rename_i hm
     have hm:=GJ hm
     exact vM _ fun E w ρ hr=>by
      rw[hr x _ hx];simp only[SV.val,Instr.typeAssert,Sem.run_bind,aC hd',Result.andThen_ok,iE hi,hm];cases ok<;>rfl
    ·rename_i hm
     obtain⟨m,hm⟩:=xG hm
     exact oK fun E w ρ hr hok z hz=>by rw[hr x _ hx];simp[SV.val,Instr.typeAssert,aC hd',iE hi,hm,hok,hz]
   ·exact aM.fail _
  ·rename_i hw
   refine aM.ite (fun e=> ?_) (fun e=> ?_)
   ·subst e
    exact vM _ fun E w ρ hr=>by
     rw[hr x _ hx];cases d<;>simp only[isIface] at hw<;>first
      | (cases hw;done)
      | (simp only[SV.val,Instr.typeAssert,Sem.run_bind,aC hd,Result.andThen_ok,if_true];cases ok<;>rfl)
   ·exact oK fun E w ρ hr hok z hz=>by
     rw[hr x _ hx];cases d<;>simp only[isIface] at hw<;>first
      | (cases hw;done)
      | simp[SV.val,Instr.typeAssert,aC hd,e,hok,hz]
 ·exact aM.fail _
def VL (P:Program)(t:TypeId)(x:SV)(K:Option SV->VC):VC :=
 match P.underlying t,x with
 | some .string,.str l s=>K (some (.int .i64 l s.length))
 | some (.slice _),.slc _ _ n _ _=>K (some (.int .i64 true n))
 | some (.slice _),.bw _ _ _ _ n _=>K (some (.int .i64 false n))
 | some (.slice _),.bP _ _ _ _ _ n _=>K (some (.int .i64 false n))
 | some (.slice _),.cn _ _ _ _ _ n _=>K (some (.int .i64 false n))
 | some (.slice _),.aO=>K (some (.int .i64 true 0))
 | some (.array n _),_=>K (some (.int .i64 true n))
 | some (.map _ _),.eM=>K (some (.int .i64 true 0))
 | _,_=>.fail "len"
theorem Sn {t:TypeId}{ats:Array TypeId}{ty:TypeId}{x:Operand}{a:SV}(hx:σ x=some a)(h0:ats[0]?=some t) :
  aM P look σ (fun ρ=>Builtin.len_ ats ty #[ρ x]) (VL P t a):=by
 unfold VL
 have hs: ∀ s:List UInt8,(ByteArray.mk s.toArray).size=s.length:=fun s=>by simp[ByteArray.size]
 split<;>first
  | exact aM.fail _
  | (rename_i hd;exact aM.v _ fun E w ρ hc hr=>by
      rw[hr x _ hx]
      simp only[SV.val,Builtin.len_,h0,List.getElem?_toArray,List.getElem?_cons_zero,Sem.run_bind,aC hd,Result.andThen_ok]
      first
       | rfl
       | (show Result.ok (goInt (ByteArray.mk _).size) w=_;rw[hs];rfl))
def Vq (P:Program)(t:TypeId)(x:SV)(K:Option SV->VC):VC :=
 match P.underlying t,x with
 | some (.slice _),.slc _ _ _ l c=>K (some (.int .i64 l c))
 | some (.slice _),.bw _ _ false _ _ c=>K (some (.int .i64 false c))
 | some (.slice _),.aO=>K (some (.int .i64 true 0))
 | some (.array n _),_=>K (some (.int .i64 true n))
 | _,_=>.fail "cap"
theorem Tw {t:TypeId}{ats:Array TypeId}{ty:TypeId}{x:Operand}{a:SV}(hx:σ x=some a)(h0:ats[0]?=some t) :
  aM P look σ (fun ρ=>Builtin.cap_ ats ty #[ρ x]) (Vq P t a):=by
 unfold Vq
 split<;>first
  | exact aM.fail _
  | (rename_i hd;exact aM.v _ fun E w ρ hc hr=>by rw[hr x _ hx];simp[SV.val,Builtin.cap_,h0,aC hd,goInt])
def pS (mx:Bool)(x y:SV)(K:Option SV->VC):VC :=
 match x,y with
 | .int k l a,.int k' l' b=>if k=k' then K (some (.int k (l&&l') (match mx with | true=>max a b | false=>min a b)))else .fail "min, max: kinds"
 | _,_=>.fail "min, max"
theorem S6 {ats:Array TypeId}{ty:TypeId}{x y:Operand}{a b:SV}(hx:σ x=some a)(hy:σ y=some b) :
  aM P look σ (fun ρ=>Builtin.min_ ats ty #[ρ x,ρ y]) (pS false a b):=by
 unfold pS
 split
 ·rename_i k l m k' l' n
  refine aM.ite (fun e=>aM.v _ fun E w ρ hc hr=> ?_) (fun _=>aM.fail _)
  subst e
  rw[hr x _ hx,hr y _ hy]
  simp only[SV.val,Builtin.min_,List.foldlM_cons,List.foldlM_nil,Builtin.min2,Sem.run_bind,Sem.run_pure,Result.andThen_ok]
  congr 2
  by_cases h:n<m
  ·rw[if_pos h];omega
  ·rw[if_neg h];omega
 ·exact aM.fail _
theorem Th {ats:Array TypeId}{ty:TypeId}{x y:Operand}{a b:SV}(hx:σ x=some a)(hy:σ y=some b) :
  aM P look σ (fun ρ=>Builtin.max_ ats ty #[ρ x,ρ y]) (pS true a b):=by
 unfold pS
 split
 ·rename_i k l m k' l' n
  refine aM.ite (fun e=>aM.v _ fun E w ρ hc hr=> ?_) (fun _=>aM.fail _)
  subst e
  rw[hr x _ hx,hr y _ hy]
  simp only[SV.val,Builtin.max_,List.foldlM_cons,List.foldlM_nil,Builtin.max2,Sem.run_bind,Sem.run_pure,Result.andThen_ok]
  congr 2
  by_cases h:n>m
  ·rw[if_pos h];omega
  ·rw[if_neg h];omega
 ·exact aM.fail _
def aZ {α:Type}(cs:List α)(off:Nat):List α->List α
 | []=>cs
 | v::r=>aZ (cs.set off v) (off+1) r
theorem sU {α β:Type}(f:α->β): ∀(vs cs:List α) (off:Nat),(aZ cs off vs).map f=aZ (cs.map f) off (vs.map f)
 | [],_,_=>rfl
 | v::r,cs,off=>by simp[aZ,sU f r,List.map_set]
theorem o6: ∀(vs:List Value) (cells:Array Value) (off k:Nat),
  ((vs.zipIdx k).foldl (fun cs (x:Value×Nat)=>cs.setIfInBounds (off+x.2) x.1) cells).toList=aZ cells.toList (off+k) vs
 | [],_,_,_=>rfl
 | v::r,cells,off,k=>by
   simp only[List.zipIdx_cons,List.foldl_cons,aZ]
   rw[o6 r]
   simp[Nat.add_assoc]
def qJ (place:Nat->Option (Nat×Nat))(cells:List SV):List (Nat×SV)->Option (List SV)
 | []=>some cells
 | (i,v)::rest =>
   match place i with
   | none=>none
   | some (off,size) =>
     if v.plain&&decide (v.cells.length=size)&&decide (off+size<=cells.length)then qJ place (aZ cells off v.cells) rest else none
theorem qa {E:Nat->Nat}{place:Nat->Option (Nat×Nat)}: ∀(parts:List (Nat×SV)) (cells out:List SV),qJ place cells parts=some out ->
  Instr.fill place (SV.vals E cells).toArray (parts.map fun p=>(p.1,p.2.val E))=some (SV.vals E out).toArray
 | [],cells,out,h=>by simp[qJ] at h;subst h;rfl
 | (i,v)::rest,cells,out,h=>by
   simp only[qJ] at h
   split at h
   ·cases h
   ·rename_i off size hp
    split at h
    ·rename_i hc
     simp only[Bool.and_eq_true,decide_eq_true_eq] at hc
     obtain⟨⟨h1,h2⟩,h3⟩:=hc
     have ih:=qa (E:=E) rest _ out h
     simp only[List.map_cons,Instr.fill,hp]
     rw[SV.dV h1]
     rw[if_neg (by simp[h2,SV.bp];omega)]
     rw[← ih]
     congr 1
     apply Array.ext'
     rw[← Array.foldl_toList,Array.toList_zipIdx,o6]
     simp[SV.bp,sU]
    ·cases h
def partsOf (σ:Operand->Option SV):List (Nat×Operand)->Option (List (Nat×SV))
 | []=>some []
 | (i,x)::r=>match σ x,partsOf σ r with
   | some v,some l=>some ((i,v)::l)
   | _,_=>none
theorem kT {σ:Operand->Option SV}{E:Nat->Nat}{ρ:Operand->Value}(hr:Reads E σ ρ): ∀ {ps:List (Nat×Operand)} {l:List (Nat×SV)},partsOf σ ps=some l ->
  ps.map (fun p=>(p.1,ρ p.2))=l.map fun p=>(p.1,p.2.val E)
 | [],l,h=>by simp[partsOf] at h;subst h;rfl
 | (i,x)::r,l,h=>by
   simp only[partsOf] at h
   split at h
   ·rename_i v l' hv hl
    injection h with h;subst h
    simp[hr x v hv,kT hr hl]
   ·cases h
def jk (P:Program):List Field->Option (List (Nat×Nat))
 | []=>some []
 | f::r=>match sz P f.type,jk P r with
   | some n,some l=>some ((f.offset,n)::l)
   | _,_=>none
theorem nT {w:World}: ∀ {fs:List Field} {l:List (Nat×Nat)},jk P fs=some l ->
  (fs.mapM (fun f=>do pure (f.offset,← sizeOf f.type)):Sem (List (Nat×Nat))).run P w=.ok l w
 | [],l,h=>by simp[jk] at h;subst h;simp
 | f::r,l,h=>by
   simp only[jk] at h
   split at h
   ·rename_i n l' hn hl
    injection h with h;subst h
    have ih:=nT (w:=w) hl
    simp at ih
    simp[List.mapM_cons,bK hn,ih]
   ·cases h
def DH (P:Program)(σ:Operand->Option SV)(t:TypeId)(parts:List (Nat×Operand))(K:Option SV->VC):VC :=
 match P.underlying t,fA P t,partsOf σ parts with
 | some (.struct fs),some (.agg zs),some ps=>(match jk P fs.toList with
   | some pl=>(match qJ (fun i=>pl[i]?) zs ps with
     | some out=>K (some (.agg out))
     | none=>.fail "build: fill")
   | none=>.fail "build: places")
 | some (.array _ e),some (.agg zs),some ps=>(match sz P e with
   | some m=>(match qJ (fun i=>some (i*m,m)) zs ps with
     | some out=>K (some (.agg out))
     | none=>.fail "build: fill")
   | none=>.fail "build: places")
 | _,_,_=>.fail "build"
theorem Me {t:TypeId}{parts:Array (Nat×Operand)} :
  aM P look σ (fun ρ=>Instr.build t (parts.map fun(i,x)=>(i,ρ x))) (DH P σ t parts.toList):=by
 unfold DH
 split
 ·rename_i fs zs ps hd hz hp
  split
  ·rename_i pl hpl
   split
   ·rename_i out hf
    refine aM.v _ fun E w ρ hc hr=> ?_
    have hm:(fs.mapM (fun f=>do pure (f.offset,← sizeOf f.type)):Sem (Array (Nat×Nat))).run P w=.ok pl.toArray w:=by
     have:=nT (P:=P) (w:=w) hpl
     rw[Array.mapM_eq_mapM_toList]
     simp only[Sem.run_map,this,Result.andThen_ok]
    have hfill:=qa (E:=E) ps zs out hf
    have hparts:=kT hr hp
    have hpp:(parts.map fun(x:Nat×Operand)=>(x.1,ρ x.2)).toList=ps.map fun p=>(p.1,p.2.val E):=by rw[← hparts];simp
    simp only[Instr.build,Sem.run_bind,cX (E:=E) hz,Result.andThen_ok,aC hd,hm]
    simp only[SV.val,Value.cells,hpp,List.getElem?_toArray,hfill]
    rfl
   ·exact aM.fail _
  ·exact aM.fail _
 ·rename_i e zs ps hd hz hp
  split
  ·rename_i m hm
   split
   ·rename_i out hf
    refine aM.v _ fun E w ρ hc hr=> ?_
    have hfill:=qa (E:=E) ps zs out hf
    have hparts:=kT hr hp
    have hpp:(parts.map fun(x:Nat×Operand)=>(x.1,ρ x.2)).toList=ps.map fun p=>(p.1,p.2.val E):=by rw[← hparts];simp
    simp only[Instr.build,Sem.run_bind,cX (E:=E) hz,Result.andThen_ok,aC hd,bK hm]
    simp only[SV.val,Value.cells,hpp,hfill]
    rfl
   ·exact aM.fail _
  ·exact aM.fail _
 ·exact aM.fail _
end
end Go.Proofs.YtoibaecagklkaaaGreatDoor.Sx
namespace Go.Proofs.YtoibaecagklkaaaGreatDoor.Sx
open Go
noncomputable section
def gd (d:List UInt8->Bool)(s:List UInt8):List UInt8->Bool:=fun t=>d t||decide (t=s)
def kK (g:List UInt8->Int)(s:List UInt8)(n:Int):List UInt8->Int:=fun t=>bif decide (t=s)then n else g t
def Li (g:List UInt8->Value)(s:List UInt8)(v:Value):List UInt8->Value:=fun t=>bif decide (t=s)then v else g t
def Uy (g:List UInt8->Nat)(s:List UInt8)(n:Nat):List UInt8->Nat:=fun t=>bif decide (t=s)then n else g t
def dflt (b:Bool)(n:Int):Int:=bif b then n else 0
def Xj (b:Bool)(v:Value):Value:=bif b then v else .pointer none
def aV.look (c:aV)(b:Bool)(s:List UInt8)(z:SV):Option SV:=match c,z with
 | .int k g,.int k' _ 0=>if k=k' then some (.int k false (dflt b (g s)))else none
 | .raw g,.bD=>some (.raw (Xj b (g s)))
 | _,_=>none
def aV.set (c:aV)(s:List UInt8)(v:SV):Option aV:=match c,v with
 | .int k g,.int k' _ n=>if k=k' then some (.int k (kK g s n))else none
 | .raw g,.raw u=>some (.raw (Li g s u))
 | .raw g,.bD=>some (.raw (Li g s (.pointer none)))
 | .ref k g,.eD _ a 0=>some (.ref k (Uy g s a))
 | _,_=>none
theorem EM {s t:List UInt8}(h:kN s=kN t):s=t:=by
 simp only[kN,Value.string.injEq] at h
 have:=congrArg ByteArray.data h
 simpa using this
theorem Db {α β:Type}{f:α->β}: ∀ {l:List α},(l.map f).Nodup->∀ {a b:α},a∈ l->b∈ l->f a=f b->a=b
 | [],_,a,b,h,_,_=>by cases h
 | x::r,hn,a,b,ha,hb,e=>by
   simp only[List.map_cons,List.nodup_cons,List.mem_map,not_exists,not_and] at hn
   rcases List.mem_cons.1 ha with h1 | h1<;>rcases List.mem_cons.1 hb with h2 | h2
   ·exact h1.trans h2.symm
   ·subst h1;exact absurd e.symm (hn.1 b h2)
   ·subst h2;exact absurd e (hn.1 a h1)
   ·exact Db hn.2 h1 h2 e
theorem aV.Fl {c:aV}{b:Bool}{s:List UInt8}{z v:SV}(h:c.look b s z=some v)(E:Nat->Nat):v.val E=if b=true then c.val s else z.val E:=by
 unfold aV.look at h
 split at h
 ·split at h
  ·rename_i e;subst e
   injection h with h;subst h
   cases b<;>rfl
  ·cases h
 ·injection h with h;subst h
  cases b<;>rfl
 ·cases h
theorem aV.C5 {c c':aV}{s:List UInt8}{v:SV}(h:c.set s v=some c')(E:Nat->Nat):c'.val s=v.val E/\∀ t,t≠s->c'.val t=c.val t:=by
 unfold aV.set at h
 split at h
 ·split at h
  ·rename_i e;subst e
   injection h with h;subst h
   exact⟨by simp[aV.val,SV.val,kK],fun t ht=>by simp[aV.val,kK,ht]⟩
  ·cases h
 ·injection h with h;subst h
  exact⟨by simp[aV.val,SV.val,Li],fun t ht=>by simp[aV.val,Li,ht]⟩
 ·injection h with h;subst h
  exact⟨by simp[aV.val,SV.val,Li],fun t ht=>by simp[aV.val,Li,ht]⟩
 ·injection h with h;subst h
  exact⟨by simp[aV.val,SV.val,Uy],fun t ht=>by simp[aV.val,Uy,ht]⟩
 ·cases h
theorem NO (s:List UInt8):MapKept.IsKey .string (kN s):=trivial
theorem wN.find {d:List UInt8->Bool}{c:aV}{pend}{es:Array MapEntry}{clock:Nat}(h:wN d c pend es clock)(s:List UInt8) :
  (d s=false/\Instr.findNow .string (kN s) es.toList 0=some none/\∀ x∈ es.toList,x.key≠kN s) ∨
  (d s=true/\∃ j e,Instr.findNow .string (kN s) es.toList 0=some (some (j,c.val s))/\es[j]?=some e/\e.key=kN s/\e.val=c.val s):=by
 rcases MapKept.findNow_spec (NO s) es.toList 0 h.ks with ⟨h1,h2⟩ | ⟨j,e,h1,h2,h3⟩
 ·cases hd:d s with
  | false=>exact .inl ⟨rfl,h1,h2⟩
  | true =>
    obtain⟨e,he,hk,_⟩:=h.has s hd
    exact absurd hk (h2 e he)
 ·have hj:es[j]?=some e:=by simpa using h2
  have hm:e∈ es.toList:=List.mem_of_getElem? h2
  cases hd:d s with
  | false=>exact absurd h3 (h.no s hd e hm)
  | true =>
    obtain⟨e',he',hk,hv⟩:=h.has s hd
    have:=Db h.st.2.2 he' hm (hk.trans h3.symm)
    subst this
    exact .inr ⟨rfl,j,e',by rw[h1,Nat.zero_add,hv],hj,h3,hv⟩
theorem mem_modify {es:Array MapEntry}{i:Nat}{f:MapEntry->MapEntry}{x:MapEntry}:x∈ (es.modify i f).toList↔∃ j e,es[j]?=some e/\x=if i=j then f e else e:=by
 rw[List.mem_iff_getElem?]
 constructor
 ·rintro⟨j,hj⟩
  rw[Array.getElem?_toList,Array.getElem?_modify] at hj
  by_cases e:i=j
  ·rw[if_pos e] at hj
   obtain⟨y,hy,rfl⟩:=Option.map_eq_some_iff.1 hj
   exact⟨j,y,hy,by rw[if_pos e]⟩
  ·rw[if_neg e] at hj
   exact⟨j,x,hj,by rw[if_neg e]⟩
 ·rintro⟨j,e,hj,rfl⟩
  refine⟨j,?_⟩
  rw[Array.getElem?_toList,Array.getElem?_modify,hj]
  by_cases e:i=j<;>simp[e]
theorem wN.put {d:List UInt8->Bool}{c c':aV}{pend}{es:Array MapEntry}{clock:Nat}(h:wN d c pend es clock){s:List UInt8}{u:Value}(hc:c'.val s=u/\∀ t,t≠s->c'.val t=c.val t)
  {j:Nat} {e:MapEntry} (hj:es[j]?=some e) (hk:e.key=kN s) {f:MapEntry->MapEntry} (hf:(f e).key=kN s/\(f e).val=u/\(f e).born=e.born) (hfb: ∀ x,(f x).born=x.born) (hd:d s=true) {pend'} (hp: ∀ t b,pend'=some (t,b)->t=s/\(e.born:Int)=b):wN (gd d s) c' pend' (es.modify j f) clock:=by
 have hkey: ∀ e',es[j]?=some e'->(f e').key=e'.key:=fun e' he'=>by rw[hj] at he';cases he';rw[hf.1,hk]
 have hme:f e∈ (es.modify j f).toList:=mem_modify.2 ⟨j,e,hj,by rw[if_pos rfl]⟩
 refine⟨MapKept.stamped_modify h.st _ _ (fun x _=>hfb x) (fun e' _ he'=>hkey e' he'),MapKept.isKey_modify h.ks _ _ hkey,fun t ht=> ?_,fun t ht x hx=> ?_,fun t b ht=> ?_⟩
 ·by_cases e1:t=s
  ·subst e1
   exact⟨f e,hme,hf.1,by rw[hf.2.1,hc.1]⟩
  ·obtain⟨x,hx,hxk,hxv⟩:=h.has t (by simpa [gd,e1] using ht)
   rw[List.mem_iff_getElem?] at hx
   obtain⟨i,hi⟩:=hx
   rw[Array.getElem?_toList] at hi
   have hne:j≠i:=fun e2=>by
    subst e2
    rw[hj] at hi;cases hi
    exact e1 (EM (hxk.symm.trans hk))
   exact⟨x,mem_modify.2 ⟨i,x,hi,by rw[if_neg hne]⟩,hxk,by rw[hxv,hc.2 t e1]⟩
 ·have hts:t≠s/\d t=false:=by
   simp only[gd,Bool.or_eq_false_iff,decide_eq_false_iff_not] at ht
   exact⟨ht.2,ht.1⟩
  obtain⟨i,y,hi,rfl⟩:=mem_modify.1 hx
  have hy:y∈ es.toList:=List.mem_of_getElem? (by rw[Array.getElem?_toList];exact hi)
  by_cases e1:j=i
  ·rw[if_pos e1]
   subst e1
   rw[hkey y hi];exact h.no t hts.2 y hy
  ·rw[if_neg e1];exact h.no t hts.2 y hy
 ·obtain⟨rfl,hb⟩:=hp t b ht
  exact⟨f e,hme,by rw[hf.2.2];exact hb,hf.1⟩
theorem wN.add {d:List UInt8->Bool}{c c':aV}{pend}{es:Array MapEntry}{clock:Nat}(h:wN d c pend es clock){s:List UInt8}{u:Value}(hc:c'.val s=u/\∀ t,t≠s->c'.val t=c.val t)
  (hn: ∀ x∈ es.toList,x.key≠kN s) {pend'} (hp: ∀ t b,pend'=some (t,b)->t=s/\(clock:Int)=b):wN (gd d s) c' pend' (es.push {key:=kN s,val:=u,born:=clock}) (clock+1):=by
 have mem: ∀ {x},x∈ (es.push {key:=kN s,val:=u,born:=clock}).toList↔x∈ es.toList∨x={key:=kN s,val:=u,born:=clock}:=by
  intro x;simp only[Array.toList_push,List.mem_append,List.mem_singleton]
 refine⟨MapKept.stamped_push h.st hn,fun x hx=> ?_,fun t ht=> ?_,fun t ht x hx=> ?_,fun t b ht=> ?_⟩
 ·rcases mem.1 hx with hx | rfl
  ·exact h.ks x hx
  ·trivial
 ·by_cases e1:t=s
  ·subst e1
   exact⟨_,mem.2 (.inr rfl),rfl,hc.1.symm⟩
  ·obtain⟨x,hx,hxk,hxv⟩:=h.has t (by simpa [gd,e1] using ht)
   exact⟨x,mem.2 (.inl hx),hxk,by rw[hxv,hc.2 t e1]⟩
 ·simp only[gd,Bool.or_eq_false_iff,decide_eq_false_iff_not] at ht
  rcases mem.1 hx with hx | rfl
  ·exact h.no t ht.1 x hx
  ·exact fun e1=>ht.2 (EM e1.symm)
 ·obtain⟨rfl,hb⟩:=hp t b ht
  exact⟨_,mem.2 (.inr rfl),hb,rfl⟩
theorem wN.nil (c:aV)(clock:Nat):wN (fun _=>false) c none #[] clock :=
 ⟨MapKept.stamped_empty clock,by simp,(fun _ h=>by cases h),by simp,(fun _ _ h=>by cases h)⟩
def Kz:SV->SV->Option (Bool×Bool)
 | .str l s,.str l' s'=>some (l&&l',decide (s=s'))
 | .int k l a,.int k' l' b=>if k=k' then some (l&&l',decide (a=b))else none
 | .bool l a,.bool l' b=>some (l&&l',decide (a=b))
 | _,_=>none
def rm:TypeDesc->SV->Bool
 | .string,.str .. =>true
 | .int k,.int k' .. =>decide (k'=k)
 | .bool,.bool .. =>true
 | _,_=>false
theorem jN {d:TypeDesc}{v:SV}(h:rm d v=true)(E:Nat->Nat):MapKept.IsKey d (v.val E):=by
 unfold rm at h
 split at h
 ·trivial
 ·have h:=of_decide_eq_true h;exact h
 ·trivial
 ·cases h
theorem G5 {d:TypeDesc}{a b:SV}{l e:Bool}(ha:rm d a=true)(hb:rm d b=true)(h:Kz a b=some (l,e))(E:Nat->Nat) :
  Instr.sameNow d (a.val E) (b.val E)=some e/\(e=true->a.val E=b.val E):=by
 obtain⟨r,h1,h2⟩:=MapKept.sameNow_of_keys (jN ha E) (jN hb E)
 have he:e=true↔a.val E=b.val E:=by
  unfold Kz at h
  split at h
  ·injection h with h;injection h with _ h;subst h
   simp only[decide_eq_true_eq,SV.val,Value.string.injEq]
   constructor
   ·intro h;rw[h]
   ·intro h
    have:=congrArg ByteArray.data h
    simpa using this
  ·split at h
   ·rename_i hk
    injection h with h;injection h with _ h;subst h;subst hk
    simp[SV.val]
   ·cases h
  ·injection h with h;injection h with _ h;subst h
   simp[SV.val]
  ·cases h
 rw[h1]
 refine⟨?_,he.1⟩
 congr 1
 cases r<;>cases e<;>simp_all
abbrev S8:=Option (Nat×(Nat×SV×SV))
def eP (d:TypeDesc)(k:SV)(t:S8->VC):List (Nat×SV×SV)->Nat->VC
 | [],_=>t none
 | e::r,i=>match rm d e.2.1,Kz k e.2.1 with
   | true,some (true,b)=>(match b with
     | true=>t (some (i,e))
     | false=>eP d k t r (i+1))
   | true,some (false,b)=>fork b fun b=>(match b with
     | true=>t (some (i,e))
     | false=>eP d k t r (i+1))
   | _,_=>.fail "map: keys"
theorem jr {d:TypeDesc}{k:SV}(hk:rm d k=true): ∀(es:List (Nat×SV×SV)) (i:Nat),∃(obl:Prop) (r:S8),(∀ t,(eP d k t es i).holds↔obl/\(t r).holds) /\
  (obl->(∀ E,Instr.findNow d (k.val E) (b5 E es) i=some (r.map fun x=>(x.1,x.2.2.2.val E)))/\∀ j e,r=some (j,e)->i<=j/\es[j - i]?=some e/\∀ E,e.2.1.val E=k.val E)
 | [],i=>⟨True,none,fun t=>⟨fun h=>⟨trivial,h⟩,fun h=>h.2⟩,fun _=>⟨fun _=>rfl,fun _ _ h=>by cases h⟩⟩
 | e::r,i=>by
   obtain⟨obl,x,h1,h2⟩:=jr hk r (i+1)
   have fl: ∀ why:String,∃(obl:Prop) (r':S8),(∀ t:S8->VC,(VC.fail why).holds↔obl/\(t r').holds) /\
     (obl->(∀ E,Instr.findNow d (k.val E) (b5 E (e::r)) i=some (r'.map fun x=>(x.1,x.2.2.2.val E)))/\∀ j e',r'=some (j,e')->i<=j/\(e::r)[j - i]?=some e'/\∀ E,e'.2.1.val E=k.val E) :=
    fun why=>⟨False,none,fun t=>⟨fun h=>h.elim,fun h=>h.1.elim⟩,fun h=>h.elim⟩
   cases hd:rm d e.2.1 with
   | false=>simp only[eP,hd];exact fl _
   | true =>
     cases he:Kz k e.2.1 with
     | none=>simp only[eP,hd,he];exact fl _
     | some q =>
       obtain⟨l,b⟩:=q
       have key:=fun E=>G5 hk hd he E
       have fnd: ∀ E,Instr.findNow d (k.val E) (b5 E (e::r)) i=(match b with
         | true=>some (some (i,e.2.2.val E))
         | false=>Instr.findNow d (k.val E) (b5 E r) (i+1)):=fun E=>by
        show Instr.findNow d (k.val E) ({key:=e.2.1.val E,val:=e.2.2.val E,born:=e.1}::b5 E r) i=_
        rw[Instr.findNow]
        simp only[(key E).1]
        cases b<;>rfl
       have main: ∃(obl:Prop) (r':S8),(∀ t:S8->VC,(match b with | true=>t (some (i,e)) | false=>eP d k t r (i+1)).holds↔obl/\(t r').holds) /\
         (obl->(∀ E,Instr.findNow d (k.val E) (b5 E (e::r)) i=some (r'.map fun x=>(x.1,x.2.2.2.val E)))/\∀ j e',r'=some (j,e')->i<=j/\(e::r)[j - i]?=some e'/\∀ E,e'.2.1.val E=k.val E):=by
        cases b with
        | true =>
          refine⟨True,some (i,e),fun t=>⟨fun h=>⟨trivial,h⟩,fun h=>h.2⟩,fun _=>⟨fun E=>by rw[fnd E];rfl,fun j e' h=> ?_⟩⟩
          injection h with h;injection h with h3 h4;subst h3;subst h4
          exact⟨Nat.le_refl _,by simp,fun E=>((key E).2 rfl).symm⟩
        | false =>
          refine⟨obl,x,h1,fun ho=>⟨fun E=>by rw[fnd E];exact(h2 ho).1 E,fun j e' h=> ?_⟩⟩
          obtain⟨g1,g2,g3⟩:=(h2 ho).2 j e' h
          refine⟨by omega,?_,g3⟩
          rw[show j - i=(j - (i+1))+1 by omega];simpa using g2
       cases l with
       | true=>simp only[eP,hd,he];exact main
       | false =>
         simp only[eP,hd,he]
         obtain⟨obl',r',m1,m2⟩:=main
         refine⟨obl',r',fun t=> ?_,m2⟩
         rw[dJ]
         exact m1 t
def nB (ok:Bool)(z:SV):S8->SV
 | some (_,e)=>(match ok with
   | true=>.aL [e.2.2,.bool true true]
   | false=>e.2.2)
 | none=>(match ok with
   | true=>.aL [z,.bool true false]
   | false=>z)
def xm (ok:Bool)(key a:Nat)(b:Bool):SV:=match ok,b with
 | true,true=>.aL [.eD key a 0,.bool true true]
 | true,false=>.aL [.bD,.bool true false]
 | false,true=>.eD key a 0
 | false,false=>.bD
def xb (P:Program)(look:jH)(t:TypeId)(x k:SV)(ok:Bool)(K:Option SV->VC):VC :=
 match P.underlying t with
 | some (.map kt et)=>(match P.underlying kt,fA P et with
   | some d,some z=>(match rm d k,x with
     | true,.eM=>K (some (nB ok z none))
     | true,.map key=>(match look key with
       | some (.map es _)=>eP d k (fun r=>K (some (nB ok z r))) es 0
       | some (.fmap f c _)=>(match d,k with
         | .string,.str _ s=>(match c.look (f s) s z with
           | some v=>K (some (match ok with
             | true=>.aL [v,.bool false (f s)]
             | false=>v))
           | none=>(match c,z with
             | .ref key' g,.bD=>fork (f s) fun b=>K (some (xm ok key' (g s) b))
             | _,_=>.fail "lookup: what a map holds"))
         | _,_=>.fail "lookup: a key")
       | _=>.fail "lookup: no map")
     | _,_=>.fail "lookup")
   | _,_=>.fail "lookup: types")
 | _=>.fail "lookup: no map type"
section
variable {P : Program} {look : jH} {σ : Operand -> Option SV}
theorem aM.Xi {s:(Operand->Value)->Sem Value}{b:Bool}{f:Bool->SV}(h:aM P look σ s (fun K=>K (some (f b)))):aM P look σ s (fun K=>Sx.fork b fun c=>K (some (f c))):=by
 obtain⟨obl,sv,h1,h2⟩:=h
 exact⟨obl,sv,fun K=>by rw[dJ];exact h1 K,h2⟩
theorem G3 {t:TypeId}{x k:Operand}{ok:Bool}{a b:SV}(hx:σ x=some a)(hk:σ k=some b) :
  aM P look σ (fun ρ=>Instr.lookup t (ρ x) (ρ k) ok) (xb P look t a b ok):=by
 unfold xb
 split
 ·rename_i kt et ht
  split
  ·rename_i d z hd hz
   split
   ·rename_i hkd
    refine aM.v _ fun E w ρ hc hr=> ?_
    simp only[Instr.lookup,hr x _ hx,hr k _ hk,Sem.run_bind,aC ht,Result.andThen_ok,SV.val,Sem.run_pure]
    cases ok<;>simp[Instr.findKey,aC hd,Instr.findNow,cX (E:=E) hz,nB,SV.val,SV.vals,MapKept.run_checkKey hd (jN hkd E)]
   ·rename_i key hkd
    split
    ·rename_i es clock hl
     obtain⟨obl,r,h1,h2⟩:=jr hkd es 0
     refine⟨obl,some (nB ok z r),fun K=>h1 _,fun E w ρ hc hr ho=> ?_⟩
     obtain⟨ob,hob,hb⟩:=hc.1 key _ hl rfl
     have hb:ob=.map (b5 E es).toArray clock:=hb
     subst hb
     have hf:=(h2 ho).1 E
     have hf':Instr.findNow d (b.val E) (b5 E es).toArray.toList 0=_:=hf
     refine⟨(nB ok z r).val E,?_,fun v hv=>by injection hv with hv;rw[← hv]⟩
     simp only[Instr.lookup,hr x _ hx,hr k _ hk,Sem.run_bind,aC ht,Result.andThen_ok,SV.val,Sem.run_pure,MapKept.run_getObj_map hob,MapKept.run_checkKey hd (jN hkd E) _ 9999,Instr.findKey,aC hd,hf']
     cases r with
     | none=>cases ok<;>simp[cX (E:=E) hz,nB,SV.val,SV.vals]
     | some q=>cases ok<;>simp[nB,SV.val,SV.vals]
    ·rename_i f c pend hl
     split
     ·rename_i lt s
      split
      ·rename_i v hv
       refine aM.k _ fun E w ρ hc hr=> ?_
       obtain⟨ob,hob,es,clock,rfl,hfm⟩:=hc.1 key _ hl rfl
       have hlv:=aV.Fl hv E
       refine⟨match ok with
        | true=>.tuple #[v.val E,.bool (f s)]
        | false=>v.val E,?_,fun u hu=>by injection hu with hu;subst hu;cases ok<;>rfl⟩
       simp only[Instr.lookup,hr x _ hx,hr k _ hk,Sem.run_bind,aC ht,Result.andThen_ok,SV.val,Sem.run_pure,MapKept.run_getObj_map hob,MapKept.run_checkKey (k:=.string ⟨s.toArray⟩) hd trivial _ 9999,Instr.findKey,aC hd]
       rcases hfm.find s with ⟨h1,h2,_⟩ | ⟨h1,j,e,h2,_⟩
       ·have h2':Instr.findNow .string (.string ⟨s.toArray⟩) es.toList 0=_:=h2
        rw[h1] at hlv ⊢
        simp only[h2',Sem.run_pure,Result.andThen_ok,Sem.run_bind,cX (E:=E) hz,hlv]
        cases ok<;>simp
       ·have h2':Instr.findNow .string (.string ⟨s.toArray⟩) es.toList 0=_:=h2
        rw[h1] at hlv ⊢
        simp only[h2',Sem.run_pure,Result.andThen_ok,Sem.run_bind,hlv]
        cases ok<;>simp
      ·split
       ·rename_i key' g _
        refine aM.Xi ?_
        refine aM.k _ fun E w ρ hc hr=> ?_
        obtain⟨ob,hob,es,clock,rfl,hfm⟩:=hc.1 key _ hl rfl
        refine⟨(xm ok key' (g s) (f s)).val E,?_,fun u hu=>by injection hu with hu;subst hu;rfl⟩
        simp only[Instr.lookup,hr x _ hx,hr k _ hk,Sem.run_bind,aC ht,Result.andThen_ok,SV.val,Sem.run_pure,MapKept.run_getObj_map hob,MapKept.run_checkKey (k:=.string ⟨s.toArray⟩) hd trivial _ 9999,Instr.findKey,aC hd]
        rcases hfm.find s with ⟨h1,h2,_⟩ | ⟨h1,j,e,h2,_⟩
        ·have h2':Instr.findNow .string (.string ⟨s.toArray⟩) es.toList 0=_:=h2
         rw[h1]
         simp only[h2',Sem.run_pure,Result.andThen_ok,Sem.run_bind,cX (E:=E) hz]
         cases ok<;>simp[xm,SV.val,SV.vals]
        ·have h2':Instr.findNow .string (.string ⟨s.toArray⟩) es.toList 0=_:=h2
         rw[h1]
         simp only[h2',Sem.run_pure,Result.andThen_ok,Sem.run_bind]
         cases ok<;>simp[xm,SV.val,SV.vals,aV.val]
       ·exact aM.fail _
     ·exact aM.fail _
    ·exact aM.fail _
   ·exact aM.fail _
  ·exact aM.fail _
 ·exact aM.fail _
end
def bytesOf:List SV->Option (Bool×List UInt8)
 | []=>some (true,[])
 | .int .u8 l v::r=>(match bytesOf r with
   | some (l',bs)=>some (l&&l',UInt8.ofNat v.toNat::bs)
   | none=>none)
 | _=>none
def w9 (P:Program)(t:TypeId):Bool:=match P.underlying t with
 | some (.slice e)=>(match P.underlying e with
   | some (.int .u8)=>true
   | _=>false)
 | _=>false
def cO (f:Nat->Int)(i n:Nat):List UInt8:=(List.range n).map fun j=>UInt8.ofNat (f (i+j)).toNat
theorem tC (g:Nat->Int): ∀ l:List Nat,∃ lt,bytesOf (l.map fun j=>SV.int .u8 false (g j))=some (lt,l.map fun j=>UInt8.ofNat (g j).toNat)
 | []=>⟨true,rfl⟩
 | a::r=>by
   obtain⟨lt,h⟩:=tC g r
   exact⟨false&&lt,by simp only[List.map_cons,bytesOf,h]⟩
def IW (look:jH)(a:SV)(K:Option SV->VC):VC:=match a with
 | .aO=>K (some (.str true []))
 | .slc key o n _ _=>(match look key with
   | some (.cells cs _ _)=>(match fu cs o n with
     | some l=>(match bytesOf l with
       | some (l',bs)=>K (some (.str l' bs))
       | none=>.fail "convert: bytes that are not known")
     | none=>.fail "convert: a slice out of its block")
   | _=>.fail "convert: the block")
 | .bw key 1 false i n _=>(match look key with
   | some (.rows false nb [.int .u8 f] _ _ _)=>.and (.atom (i+n<=nb)) (K (some (.str false (cO f i n))))
   | _=>.fail "convert: the block")
 | _=>.fail "convert: a slice"
def CN (P:Program)(look:jH)(src dst:TypeId)(a:SV)(K:Option SV->VC):VC:=match w9 P src,P.underlying dst with
 | true,some .string=>IW look a K
 | _,_=>Pj P src dst a K
def tv (c:Value)(s:ByteArray):Sem (ForInStep ByteArray):=do
 let .int .u8 n:=c | stuck "bytesToString: byte expected"
 pure (.yield (s.push (UInt8.ofNat n.toNat)))
theorem me (a:Addr)(n c:Nat):Conv.bytesToString (.slice (some a) n c)=(do
  let s ← forIn (← loadCells a n) ByteArray.empty tv
  pure (.string s)):=rfl
theorem rE {P:Program}{w:World}{E:Nat->Nat}: ∀ {l:List SV} {lt:Bool} {bs:List UInt8} (acc:List UInt8),bytesOf l=some (lt,bs) ->
  (forIn (SV.vals E l) (⟨acc.toArray⟩:ByteArray) tv).run P w=.ok ⟨(acc++bs).toArray⟩ w
 | [],lt,bs,acc,h=>by
   simp only[bytesOf,Option.some.injEq,Prod.mk.injEq] at h
   obtain⟨_,rfl⟩:=h
   simp[SV.vals]
 | x::r,lt,bs,acc,h=>by
   unfold bytesOf at h
   split at h
   ·rename_i e;cases e
   ·rename_i l v r' e
    injection e with e1 e2;subst e1;subst e2
    split at h
    ·rename_i l' bs' hr
     simp only[Option.some.injEq,Prod.mk.injEq] at h
     obtain⟨_,rfl⟩:=h
     simp only[SV.vals,SV.val,List.forIn_cons,Sem.run_bind]
     have:(tv (.int .u8 v) ⟨acc.toArray⟩).run P w=.ok (.yield ⟨(acc++[UInt8.ofNat v.toNat]).toArray⟩) w:=by
      simp[tv,ByteArray.push]
     rw[this]
     simp only[Result.andThen_ok]
     rw[rE (acc++[UInt8.ofNat v.toNat]) hr]
     simp
    ·cases h
   ·cases h
section
variable {P : Program} {look : jH} {σ : Operand -> Option SV}
theorem lI {src dst:TypeId}{v:Value}{w:World}(hb:w9 P src=true)(hd:P.underlying dst=some .string)(hv: ∀ k n,v≠.int k n)(hs: ∀ b,v≠.string b) :
  (convert src dst v).run P w=(Conv.bytesToString v).run P w:=by
 unfold w9 at hb
 split at hb
 ·rename_i e he
  split at hb
  ·rename_i he2
   simp only[convert,Sem.run_bind,aC he,aC hd,Result.andThen_ok]
   cases v<;>first
    | (rename_i k n;exact absurd rfl (hv k n))
    | (rename_i b;exact absurd rfl (hs b))
    | (simp only[aC he2,Result.andThen_ok])
  ·cases hb
 ·cases hb
theorem KI {src dst:TypeId}{x:Operand}{a:SV}(hx:σ x=some a):aM P look σ (fun ρ=>convert src dst (ρ x)) (CN P look src dst a):=by
 unfold CN
 split
 ·rename_i hb hd
  unfold IW
  split
  ·exact aM.v _ fun E w ρ hc hr=>by
    rw[hr x _ hx,lI hb hd (fun _ _ h=>by cases h) (fun _ h=>by cases h)]
    rfl
  ·rename_i key o n cl c
   split
   ·rename_i cs tot ty hk
    split
    ·rename_i l hl
     split
     ·rename_i l' bs hbs
      refine aM.v _ fun E w ρ hc hr=> ?_
      obtain⟨ob,ho,c0,fr,rfl,_,h2,_⟩:=hc.1 key _ hk rfl
      have hg:=cc hl
      have hll:=run_loadCells (P:=P) ho o (SV.vals E l) (fun j v hj=>by
       rw[SV.bp,List.getElem?_map] at hj
       cases hjl:l[j]? with
       | none=>rw[hjl] at hj;cases hj
       | some u=>rw[hjl] at hj;injection hj with hj;subst hj;exact h2 _ _ (hg.2 j u hjl))
      have hlen:(SV.vals E l).length=n:=by rw[SV.bp,List.length_map,hg.1]
      rw[hlen] at hll
      rw[hr x _ hx,lI hb hd (fun _ _ h=>by cases h) (fun _ h=>by cases h)]
      simp only[SV.val,me,Sem.run_bind,hll,Result.andThen_ok]
      rw[← Array.forIn_toList]
      have:=rE (P:=P) (w:=w) (E:=E) [] hbs
      simp only[List.nil_append] at this
      exact(congrArg (fun r:Result ByteArray=>r.andThen fun a w'=>Sem.run P (pure (Value.string a)) w') this).trans rfl
     ·exact aM.fail _
    ·exact aM.fail _
   ·exact aM.fail _
  ·rename_i key i n c
   split
   ·rename_i nb f ro tot ty hk
    refine aM.atom fun hin=>aM.v _ fun E w ρ hc hr=> ?_
    obtain⟨ob,ho,c0,fr,rfl,_,_,_,h2⟩:=hc.1 key _ hk rfl
    obtain⟨lt,hbs⟩:=tC (fun j=>f (i+j)) (List.range n)
    have hl:(SV.vals E ((List.range n).map fun j=>SV.int .u8 false (f (i+j)))).length=n:=by rw[SV.bp,List.length_map,List.length_map,List.length_range]
    have hll:=run_loadCells (P:=P) ho (i*1) (SV.vals E ((List.range n).map fun j=>SV.int .u8 false (f (i+j)))) (fun j v hj=>by
     rw[SV.bp,List.map_map,List.getElem?_map] at hj
     by_cases hjn:j<n
     ·rw[List.getElem?_range hjn] at hj
      injection hj with hj;subst hj
      have:=h2 (i+j) 0 (.int .u8 f) (by omega) rfl
      rw[show i*1+j=(i+j)*[au.int IntKind.u8 f].length+0 by simp]
      exact this
     ·rw[List.getElem?_eq_none (by simpa using hjn)] at hj;cases hj)
    rw[hl] at hll
    rw[hr x _ hx,lI hb hd (fun _ _ h=>by cases h) (fun _ h=>by cases h)]
    simp only[SV.val,Bool.false_and,cond_false,me,Sem.run_bind,hll,Result.andThen_ok]
    rw[← Array.forIn_toList]
    have:=rE (P:=P) (w:=w) (E:=E) [] hbs
    simp only[List.nil_append] at this
    exact(congrArg (fun r:Result ByteArray=>r.andThen fun a w'=>Sem.run P (pure (Value.string a)) w') this).trans rfl
   ·exact aM.fail _
  ·exact aM.fail _
 ·exact Q3 hx
end
def Mf (P:Program)(src dst:TypeId):Bool :=
 match P.underlying src,P.underlying dst with
 | some (.int _),some (.int _)=>true
 | some .string,some .string=>true
 | _,some .string=>w9 P src
 | _,_=>false
def dr (P:Program):Op->Bool
 | .move _ | .assign _ | .pick .. | .load .. | .nilCheck _ | .binOp .. | .unOp .. | .makeInterface .. | .makeFunc .. | .slice .. | .fieldAddr .. | .field ..
 | .indexAddr .. | .index .. | .typeAssert .. | .extract .. | .build .. | .lookup .. =>true
 | .convert s d _=>Mf P s d
 | .call c=>(match c.callee with
   | .builtin .len | .builtin .cap | .builtin .min | .builtin .max=>true
   | _=>false)
 | _=>false
def need (x:Option SV)(t:SV->VC):VC :=
 match x with
 | some v=>t v
 | none=>.fail "a value that is not known"
def VV (x:Option SV)(K:Option SV->VC):VC :=
 match x with
 | some (.ptr a b c)=>K (some (.ptr a b c))
 | some (.jz a b c d)=>K (some (.jz a b c d))
 | some (.gu a b c d e)=>K (some (.gu a b c d e))
 | some (.eD a b c)=>K (some (.eD a b c))
 | some (.lJ a b c d e)=>K (some (.lJ a b c d e))
 | some (.iface t v)=>K (some (.iface t v))
 | some (.func (.func f) a b)=>K (some (.func (.func f) a b))
 | _=>.fail "nilCheck"
def Rs (c a b:Option SV)(K:Option SV->VC):VC :=
 match c with
 | some (.bool true v)=>(match v with
   | true=>K a
   | false=>K b)
 | some (.bool false v)=>fork v (fun e=>match e with
   | true=>K a
   | false=>K b)
 | _=>.fail "pick"
def J8 (P:Program)(look:jH)(t:TypeId)(x:SV)(K:Option SV->VC):VC :=
 match x with
 | .map key=>(match P.underlying t,look key with
   | some (.map _ _),some (.map es _)=>K (some (.int .i64 true es.length))
   | _,_=>.fail "len: no map")
 | _=>VL P t x K
theorem Ov {P:Program}{look:jH}{σ:Operand->Option SV}{t:TypeId}{ats:Array TypeId}{ty:TypeId}{x:Operand}{a:SV}(hx:σ x=some a)(h0:ats[0]?=some t) :
  aM P look σ (fun ρ=>Builtin.len_ ats ty #[ρ x]) (J8 P look t a):=by
 unfold J8
 split
 ·rename_i key
  split
  ·rename_i kt et es clock ht hl
   refine aM.v _ fun E w ρ hc hr=> ?_
   obtain⟨ob,hob,hb⟩:=hc.1 key _ hl rfl
   have hb:ob=.map (b5 E es).toArray clock:=hb
   subst hb
   simp[Builtin.len_,h0,hr x _ hx,SV.val,aC ht,MapKept.run_getObj_map hob,goInt,b5]
  ·exact aM.fail _
 ·exact Sn hx h0
def Kk (P:Program)(look:jH)(σ:Operand->Option SV)(b:Builtin)(ats:Array TypeId)(args:List Operand)(K:Option SV->VC):VC :=
 match b,args with
 | .len,[x]=>(match ats[0]? with
   | some t=>need (σ x) (fun v=>J8 P look t v K)
   | none=>.fail "len")
 | .cap,[x]=>(match ats[0]? with
   | some t=>need (σ x) (fun v=>Vq P t v K)
   | none=>.fail "cap")
 | .min,[x,y]=>need (σ x) (fun v=>need (σ y) (fun u=>pS false v u K))
 | .max,[x,y]=>need (σ x) (fun v=>need (σ y) (fun u=>pS true v u K))
 | _,_=>.fail "builtin"
def Wq (P:Program)(look:jH)(σ:Operand->Option SV)(o:Op)(K:Option SV->VC):VC :=
 match o with
 | .move x | .assign x=>K (σ x)
 | .pick c a b=>Rs (σ c) (σ a) (σ b) K
 | .load t a=>J1 P look t (σ a) K
 | .nilCheck x=>VV (σ x) K
 | .binOp op t x y _=>need (σ x) (fun a=>need (σ y) (fun b=>U2 P op t (isConst x||isConst y) a b K))
 | .unOp op _ x=>need (σ x) (fun a=>Xw op a K)
 | .convert s d x=>need (σ x) (fun a=>CN P look s d a K)
 | .makeInterface t x=>need (σ x) (fun a=>rS P t a K)
 | .makeFunc fn a b=>uC fn (D0 σ a.toList) (D0 σ b.toList) K
 | .slice t x lo hi mx=>C9 P σ t (σ x) lo hi mx K
 | .fieldAddr s x f=>rZ P s (σ x) f K
 | .field t x f=>need (σ x) (fun a=>HY P t a f K)
 | .indexAddr t x i=>rT P t (σ x) (σ i) K
 | .index t x i=>need (σ x) (fun a=>need (σ i) (fun b=>Jr P t a b K))
 | .typeAssert x _ at_ ok=>need (σ x) (fun a=>DG P a at_ ok K)
 | .extract x i=>need (σ x) (fun a=>yp a i K)
 | .build t parts=>DH P σ t parts.toList K
 | .lookup t x k ok=>need (σ x) (fun a=>need (σ k) (fun b=>xb P look t a b ok K))
 | .call c=>(match c.callee with
   | .builtin b=>Kk P look σ b c.argTypes c.args.toList K
   | _=>.fail "call")
 | _=>.fail "no quiet operation"
def gS (P:Program)(look:jH)(σ:Operand->Option SV)(o:Oper)(t:QT):Prop :=
 ∃(obl:Prop) (sv:Option SV),(∀ K,(t K).holds↔obl/\(K sv).holds) /\
  (∀ E w ρ,Compat E look w->Reads E σ ρ->obl->∃ r,(execOp ρ o).run P w=.ok (.value r) w/\∀ v,sv=some v->r=v.val E)
section
variable {P : Program} {look : jH} {σ : Operand -> Option SV}
theorem gS.of {s:(Operand->Value)->Sem Value}{o:Oper}{t:QT}(h:aM P look σ s t)(he: ∀ ρ,execOp ρ o=(do pure (.value (← s ρ)):Sem Next)):gS P look σ o t:=by
 obtain⟨obl,sv,h1,h2⟩:=h
 refine⟨obl,sv,h1,fun E w ρ hc hr ho=> ?_⟩
 obtain⟨r,hrun,hv⟩:=h2 E w ρ hc hr ho
 exact⟨r,by rw[he,Sem.run_bind,hrun];rfl,hv⟩
theorem gS.fail {o:Oper}(why:String):gS P look σ o (fun _=>.fail why) :=
 ⟨False,none,fun _K=>⟨fun h=>h.elim,fun h=>h.1.elim⟩,fun _ _ _ _ _ h=>h.elim⟩
theorem gS.need {o:Oper}{x:Operand}{t:SV->QT}(h: ∀ v,σ x=some v->gS P look σ o (t v)):gS P look σ o (fun K=>need (σ x) (fun v=>t v K)):=by
 unfold Sx.need
 cases hx:σ x with
 | none=>exact gS.fail _
 | some v=>exact h v hx
theorem gS.k {o:Oper}(x:Operand)(he: ∀ ρ,execOp ρ o=(pure (.value (ρ x)):Sem Next)):gS P look σ o (fun K=>K (σ x)) :=
 ⟨True,σ x,fun K=>⟨fun h=>⟨trivial,h⟩,fun h=>h.2⟩,fun E w ρ _ hr _=>⟨ρ x,by rw[he];rfl,fun v hv=>hr x v hv⟩⟩
theorem HZ (o:Oper):gS P look σ o (Wq P look σ o.op):=by
 obtain⟨dst,op,type,pos,after,guard⟩:=o
 cases op
 case move x=>exact gS.k x fun ρ=>rfl
 case assign x=>exact gS.k x fun ρ=>rfl
 case pick c a b =>
  show gS P look σ _ (Rs (σ c) (σ a) (σ b))
  unfold Rs
  have key: ∀ l v,σ c=some (.bool l v)->gS P look σ ⟨dst,.pick c a b,type,pos,after,guard⟩ (fun K=>match v with | true=>K (σ a) | false=>K (σ b)):=by
   intro l v hc
   have he: ∀ E ρ w,Reads E σ ρ->(execOp ρ ⟨dst,.pick c a b,type,pos,after,guard⟩).run P w=.ok (.value (if v then ρ a else ρ b)) w:=by
    intro E ρ w hr
    simp only[execOp,hr c _ hc,SV.val,asBool,Sem.run_bind,Sem.run_pure,Result.andThen_ok]
   cases v with
   | true=>exact⟨True,σ a,fun K=>⟨fun h=>⟨trivial,h⟩,fun h=>h.2⟩,fun E w ρ _ hr _=>⟨ρ a,by rw[he E ρ w hr];rfl,fun v hv=>hr a v hv⟩⟩
   | false=>exact⟨True,σ b,fun K=>⟨fun h=>⟨trivial,h⟩,fun h=>h.2⟩,fun E w ρ _ hr _=>⟨ρ b,by rw[he E ρ w hr];rfl,fun v hv=>hr b v hv⟩⟩
  split
  ·rename_i v hc;exact key _ _ hc
  ·rename_i v hc
   obtain⟨obl,sv,h1,h2⟩:=key _ _ hc
   exact⟨obl,sv,fun K=>by rw[dJ];exact h1 K,h2⟩
  ·exact gS.fail _
 case load t a=>exact gS.of (Nj t a) fun ρ=>rfl
 case nilCheck x =>
  show gS P look σ _ (VV (σ x))
  unfold VV
  split
  all_goals first
   | exact gS.fail _
   | (rename_i hx;exact⟨True,_,fun K=>⟨fun h=>⟨trivial,h⟩,fun h=>h.2⟩,fun E w ρ _ hr _=>⟨_,by simp only[execOp,hr x _ hx,SV.val];rfl,fun v hv=>by injection hv with hv;subst hv;rfl⟩⟩)
 case binOp op t x y yt=>exact gS.need fun a ha=>gS.need fun b hb=>gS.of (RL (_yt:=yt) ha hb) fun ρ=>rfl
 case unOp op t x=>exact gS.need fun a ha=>gS.of (UC ha) fun ρ=>rfl
 case convert s d x=>exact gS.need fun a ha=>gS.of (KI ha) fun ρ=>rfl
 case makeInterface t x=>exact gS.need fun a ha=>gS.of (AB ha) fun ρ=>rfl
 case makeFunc fn a b=>exact gS.of Dz fun ρ=>rfl
 case slice t x lo hi mx=>exact gS.of Mn fun ρ=>rfl
 case fieldAddr s x f=>exact gS.of (Al s x f) fun ρ=>rfl
 case field t x f=>exact gS.need fun a ha=>gS.of (Lh ha) fun ρ=>rfl
 case indexAddr t x i=>exact gS.of (At t x i) fun ρ=>rfl
 case index t x i=>exact gS.need fun a ha=>gS.need fun b hb=>gS.of (MK ha hb) fun ρ=>rfl
 case typeAssert x t at_ ok=>exact gS.need fun a ha=>gS.of (It (t:=t) ha) fun ρ=>rfl
 case extract x i=>exact gS.need fun a ha=>gS.of (EZ ha) fun ρ=>rfl
 case build t parts=>exact gS.of Me fun ρ=>rfl
 case lookup t x k ok=>exact gS.need fun a ha=>gS.need fun b hb=>gS.of (G3 ha hb) fun ρ=>rfl
 case call c =>
  obtain⟨callee,args,ats⟩:=c
  cases callee with
  | value f=>exact gS.fail _
  | invoke r m=>exact gS.fail _
  | builtin b =>
    show gS P look σ _ (Kk P look σ b ats args.toList)
    unfold Kk
    have harr: ∀ {l:List Operand},args.toList=l->args=l.toArray:=fun h=>by rw[← h]
    split
    ·rename_i x hx
     have:=harr hx;subst this
     split
     ·rename_i t ht
      exact gS.need fun a ha=>gS.of (Ov (ty:=type) ha ht) fun ρ=>(BigFrame.execOp_builtin ..).trans (by rw[BigFrame.builtin_len];simp)
     ·exact gS.fail _
    ·rename_i x hx
     have:=harr hx;subst this
     split
     ·rename_i t ht
      exact gS.need fun a ha=>gS.of (Tw (ty:=type) ha ht) fun ρ=>(BigFrame.execOp_builtin ..).trans (by rw[BigFrame.builtin_cap];simp)
     ·exact gS.fail _
    ·rename_i x y hx
     have:=harr hx;subst this
     exact gS.need fun a ha=>gS.need fun b hb=>gS.of (S6 (ats:=ats) (ty:=type) ha hb) fun ρ=>(BigFrame.execOp_builtin ..).trans (by rw[BigFrame.builtin_min];simp)
    ·rename_i x y hx
     have:=harr hx;subst this
     exact gS.need fun a ha=>gS.need fun b hb=>gS.of (Th (ats:=ats) (ty:=type) ha hb) fun ρ=>(BigFrame.execOp_builtin ..).trans (by rw[BigFrame.builtin_max];simp)
    ·exact gS.fail _
 all_goals exact gS.fail _
end
end
end Go.Proofs.YtoibaecagklkaaaGreatDoor.Sx
