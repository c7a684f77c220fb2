/-
  The framework's sixteenth part: code, loops, functions.
-/
import Derived.Test.YtpaaiebohjjieaaGreatDoorMf
import Derived.Test.YtpaaiebohjjieaaGreatDoorMd
import Derived.RangeFuncRecord
import Derived.Scope
namespace Go.Proofs.YtpaaiebohjjieaaGreatDoor.Sx
open Go
noncomputable section
structure bp where
 α:Type
 pre:St->α->Prop
 sM:St->α->Nat
 fresh:Nat
 slots:St->α->List (Nat×SV)
 mem:St->α->List (Nat×SB)
 drop:St->List Nat:=fun _=>[]
 gh:St->List Gh:=fun _=>[]
def written:Code->List Nat
 | .region _ ops _=>ops.toList.filterMap (·.dst)
 | .seq a b=>written a++written b
 | .cond _ a b=>written a++written b
 | .block _ b=>written b
 | .loop b=>written b
 | .scope b=>written b
 | .rangeFunc _ _ a b=>written a++written b
 | _=>[]
def forget (l:List Nat)(tmps:List (Option SV)):List (Option SV):=match l with
 | []=>tmps
 | i::r=>forget r (tmps.set i none)
def pH (l:List (Nat×SV))(tmps:List (Option SV)):List (Option SV):=match l with
 | []=>tmps
 | (i,v)::r=>pH r (tmps.set i (some v))
theorem af.cells {cs cs':List SV}{tot tot':Nat}{ty:TypeId}(h: ∀ E,cs'.map (SV.val E)=cs.map (SV.val E))(ht:tot'=tot):af (.cells cs tot ty) (.cells cs' tot' ty):=by
 subst ht;refine af.of rfl rfl fun _=>⟨rfl,fun E o ⟨c,fr,h1,h2,h3,h4⟩=>⟨c,fr,h1,h2,fun i v hv=> ?_,h4⟩,id⟩
 have he:=h E;have:(cs'.map (SV.val E))[i]?=some (v.val E):=by grind
 grind
theorem af.aeW {d:List UInt8->Bool}{c:fD}{clock:Nat}(hd: ∀ s,d s=false):af (.map [] clock) (.fmap d c none):=by obtain rfl:d=fun _=>false:=funext hd;exact af.of rfl rfl fun _=>⟨rfl,fun _ _ h=>⟨#[],clock,h,GY.nil c clock⟩,id⟩
theorem af.fmap {d d':List UInt8->Bool}{c c':fD}{p:Option (List UInt8×Int)}(hd: ∀ s,d s=d' s)(hc: ∀ s,c.val s=c'.val s):af (.fmap d c p) (.fmap d' c' none):=by obtain rfl:=funext hd;exact af.of rfl rfl fun _=>⟨rfl,fun _ _ ⟨es,cl,h,h1,h2,h3,h4,_⟩=>⟨es,cl,h,h1,h2,(by grind),h4,fun _ _ h=>by cases h⟩,id⟩
abbrev Ren:=List (Nat×Nat)
def Ren.get (k:Nat):Ren->Option Nat
 | []=>none
 | e::r=>if e.1=k then some e.2 else Ren.get k r
def eH (base:Nat)(aE:Ren)(kh k1:Nat)(t:Ren->VC):VC :=
 match Nat.blt kh base with
 | true=>if kh=k1 then t aE else .fail "loop: another block"
 | false=>(match aE.get kh with
   | some k=>if k=k1 then t aE else .fail "loop: two blocks for one"
   | none=>t ((kh,k1)::aE))
def zeq (z z':Bool)(n:Nat):VC:=match z,z' with
 | true,true=>.tt
 | false,false=>.tt
 | _,_=>.atom (0<n)
theorem Rm {z z':Bool}{n:Nat}(h:(zeq z z' n).holds):(z&&Nat.beq n 0)=(z'&&Nat.beq n 0):=by
 have h0:0<n->Nat.beq n 0=false:=fun h=>by cases n with
  | zero=>omega
  | succ n=>rfl
 cases z<;>cases z'<;>simp only[zeq] at h
 ·rfl
 ·have:=h0 h;simp[this]
 ·have:=h0 h;simp[this]
 ·rfl
def nS (base:Nat):List SV->List SV->Ren->(Ren->VC)->VC
 | [],[],aE,t=>t aE
 | .ptr kh _ o::hs,.ptr k1 _ o'::us,aE,t=>eH base aE kh k1 (fun aE=>.and (ng o' o) (nS base hs us aE t))
 | _,_,_,_=>.fail "loop: what a function has captured"
def lX (base:Nat)(aE:Ren)(h u:SV)(t:Ren->VC):VC :=
 match h,u with
 | .int a _ n,.int b _ m=>if a=b then .and (ng m n) (t aE)else .fail "loop: kinds"
 | .bool _ a,.bool _ b=>.and (ng b a) (t aE)
 | .str _ a,.str _ b=>.and (ng b a) (t aE)
 | .cc,.cc=>t aE
 | .aO,.aO=>t aE
 | .iy,.iy=>t aE
 | .aZ,.aZ=>t aE
 | .gL,.gL=>t aE
 | .ptr kh _ o,.ptr k1 _ o'=>eH base aE kh k1 (fun aE=>.and (ng o' o) (t aE))
 | .o5 kh w i k,.o5 k1 w' i' k'=>if w=w'/\k=k' then eH base aE kh k1 (fun aE=>.and (ng i' i) (t aE))else .fail "loop: rows"
 | .slc kh o n _ c,.slc k1 o' n' _ c'=>eH base aE kh k1 (fun aE=>.and (.and (ng o' o) (.and (ng n' n) (ng c' c))) (t aE))
 | .bI kh w z i n c,.bI k1 w' z' i' n' c'=>if w=w' then eH base aE kh k1 (fun aE=>.and (.and (ng i' i) (.and (ng n' n) (ng c' c))) (.and (zeq z z' n) (t aE)))else .fail "loop: rows"
 | .bI kh w z i n c,.slc k1 o' n' _ c'=>eH base aE kh k1 (fun aE=>.and (.and (ng o' (i*w)) (.and (ng n' n) (ng c' c))) (.and (zeq z false n) (t aE)))
 | .bI _ _ true _ n _,.aO=>.and (ng n 0) (t aE)
 | .slc kh o n _ c,.bI k1 w z i n' c'=>eH base aE kh k1 (fun aE=>.and (.and (ng (i*w) o) (.and (ng n' n) (ng c' c))) (.and (zeq z false n') (t aE)))
 | .cC kh w z o i n c,.cC k1 w' z' o' i' n' c'=>if w=w' then eH base aE kh k1 (fun aE=>.and (.and (ng z' z) (.and (ng o' o) (.and (ng i' i) (.and (ng n' n) (ng c' c))))) (t aE))else .fail "loop: rows"
 | .cC kh w z o i n c,.slc k1 o' n' _ c'=>eH base aE kh k1 (fun aE=>.and (.and (ng o' (o+i*w)) (.and (ng n' n) (ng c' c))) (.and (ng (false&&Nat.beq n 0) (z&&Nat.beq n 0)) (t aE)))
 | .cC kh w z o i n c,.bI k1 w' z' i' n' c'=>if w=w' then eH base aE kh k1 (fun aE=>.and (.and (ng (i'*w) (o+i*w)) (.and (ng n' n) (ng c' c))) (.and (ng (z'&&Nat.beq n 0) (z&&Nat.beq n 0)) (t aE)))else .fail "loop: rows"
 | .iface a (.ptr kh _ o),.iface b (.ptr k1 _ o')=>if a=b then eH base aE kh k1 (fun aE=>.and (ng o' o) (t aE))else .fail "loop: another type"
 | .func (.func f) a b,.func (.func g) a' b'=>if f=g then nS base a a' aE (fun aE=>nS base b b' aE t)else .fail "loop: another function"
 | .map kh,.map k1=>eH base aE kh k1 t
 | .iq kh a o,.iq k1 a' o'=>eH base aE kh k1 (fun aE=>.and (ng a' a) (.and (ng o' o) (t aE)))
 | .fq kh w z a i n c,.fq k1 w' z' a' i' n' c'=>if w=w'/\z=z' then eH base aE kh k1 (fun aE=>.and (ng a' a) (.and (ng i' i) (.and (ng n' n) (.and (ng c' c) (t aE)))))else .fail "loop: rows"
 | .raw v,.raw v'=>.and (ng v' v) (t aE)
 | h,u=>(match h.wf 0&&u.wf 0 with
   | true=>.and (.eqv (∀ E,u.val E=h.val E) (∀ E,u.val E=u.val E) (fun _=>rfl)) (t aE)
   | false=>.fail "loop: another value")
def kW (base:Nat):List SV->List SV->Ren->(Ren->VC)->VC
 | [],[],aE,t=>t aE
 | h::hs,u::us,aE,t=>lX base aE h u (fun aE=>kW base hs us aE t)
 | _,_,_,_=>.fail "loop: lengths"
def uS (base:Nat):List (Nat×SV×SV)->List (Nat×SV×SV)->Ren->(Ren->VC)->VC
 | [],[],aE,t=>t aE
 | e'::r',e::r,aE,t=>.and (ng e'.1 e.1) (lX base aE e'.2.1 e.2.1 fun aE=>lX base aE e'.2.2 e.2.2 fun aE=>uS base r' r aE t)
 | _,_,_,_=>.fail "loop: entries"
def yF (base:Nat)(aE:Ren)(h u:SV)(t:Ren->VC):VC :=
 match h,u with
 | .agg a,.agg b=>kW base a b aE t
 | .bL a,.bL b=>kW base a b aE t
 | .iface a v,.iface b v'=>if a=b then(match v,v' with
    | .agg c,.agg d=>kW base c d aE t
    | v,v'=>lX base aE v v' t)else .fail "loop: another type"
 | h,u=>lX base aE h u t
def zJ (base:Nat):List (Nat×SV)->List (Option SV)->Ren->(Ren->VC)->VC
 | [],_,aE,t=>t aE
 | (i,h)::r,tmps,aE,t=>match slot tmps i with
   | some u=>yF base aE h u (fun aE=>zJ base r tmps aE t)
   | none=>.fail "loop: a slot that is not known"
def ew (base:Nat)(aE:Ren)(kh:Nat):Option Nat:=match Nat.blt kh base with
 | true=>some kh
 | false=>aE.get kh
def I7 (base:Nat)(m:Mem)(kh k1:Nat)(aE:Ren):Ren:=match Nat.blt kh base,aE.get kh,m.get k1 with
 | false,none,some B=>(match B.nj with
   | true=>(kh,k1)::aE
   | false=>aE)
 | _,_,_=>aE
def mK (base:Nat)(m:Mem):List aK->List aK->Ren->Ren
 | .ref kh _::r',.ref k1 _::r,aE=>mK base m r' r (I7 base m kh k1 aE)
 | .fq kh _ _ _ _ _::r',.fq k1 _ _ _ _ _::r,aE=>mK base m r' r (I7 base m kh k1 aE)
 | _::r',_::r,aE=>mK base m r' r aE
 | _,_,aE=>aE
def Cy (base:Nat)(m:Mem)(B' B:SB)(aE:Ren):Ren:=match B',B with
 | .rows _ _ c' _ _ _,.rows _ _ c _ _ _=>mK base m c' c aE
 | .vq _ c' _ _ _,.vq _ c _ _ _=>mK base m c' c aE
 | .lH _ _ c' _,.lH _ _ c _=>mK base m (c'.map (dm.at 0)) (c.map (dm.at 0)) aE
 | .fmap _ (.ref kh _) _,.fmap _ (.ref k1 _) _=>I7 base m kh k1 aE
 | _,_=>aE
def leA (B B':SB):VC:=.eqv (af B B') (af B B) (af.refl B)
def fY (base:Nat)(m:Mem):List (Nat×SB)->List Nat->Ren->(Ren->VC)->VC
 | [],_,aE,t=>t aE
 | (kh,B')::r,used,aE,t=>match ew base aE kh with
   | some k1=>if used.contains k1 then .fail "loop: one block for two" else(match m.get k1 with
     | some B=>(match B'.wf base with
       | true=>.and (leA B B') (fY base m r (k1::used) (Cy base m B' B aE) t)
       | false=>(match B',B with
         | .cells cs' tot' ty',.cells cs tot ty=>if ty'=ty then .and (ng tot' tot) (kW base cs' cs aE (fun aE=>fY base m r (k1::used) aE t))else .fail "loop: a block's type"
         | .map es' c',.map es c=>.and (ng c' c) (uS base es' es aE (fun aE=>fY base m r (k1::used) aE t))
         | _,_=>.fail "loop: a block that names blocks"))
     | none=>.fail "loop: no such block")
   | none=>(match B'.wf base with
      | true=>(match B'.nj with
        | false=>.and (.atom (B'.no=true)) (fY base m r used aE t)
        | true=>.and (.atom (∀ a,¬ B'.jD 0 a)) (fY base m r used aE t))
      | false=>.fail "loop: a block that names blocks")
def Ren.E (base:Nat)(aE:Ren)(E:Nat->Nat)(k:Nat):Nat:=match ew base aE k with
 | some k1=>E k1
 | none=>E k
def Ren.le (a b:Ren):Prop:=∀ k v,a.get k=some v->b.get k=some v
theorem Ren.le_refl (a:Ren):a.le a:=fun _ _ h=>h
theorem Ren.le_trans {a b c:Ren}(h:a.le b)(h':b.le c):a.le c:=fun k v x=>h' k v (h k v x)
theorem Ren.BV {base:Nat}{aE:Ren}{E:Nat->Nat}{k:Nat}(h:k<base):Ren.E base aE E k=E k:=by grind [Nat.blt_eq,Nat.blt,Ren.E,ew]
theorem b8 {base:Nat}{aE:Ren}{kh k1:Nat}{t:Ren->VC}(h:(eH base aE kh k1 t).holds) :
  ∃ ren',aE.le ren'/\(t ren').holds/\∀ ren'' (E:Nat->Nat),ren'.le ren''->Ren.E base ren'' E kh=E k1:=by
 unfold eH at h;split at h
 ·rename_i hb;split at h
  ·grind [Ren.le_refl,Ren.BV,Nat.blt_eq]
  ·exact h.elim
 ·rename_i hb;split at h
  ·rename_i k hk;split at h
   ·rename_i e;subst e;exact⟨aE,Ren.le_refl _,h,fun ren'' E hle=>by simp[Ren.E,ew,hb,hle _ _ hk]⟩
   ·exact h.elim
  ·rename_i hk;refine⟨(kh,k1)::aE,fun k v hv=> ?_,h,fun ren'' E hle=> ?_⟩
   ·by_cases e:kh=k
    ·grind
    ·simp only[Ren.get,e,if_false];exact hv
   ·have:=hle kh k1 (by simp[Ren.get])
    grind [Ren.E,ew]
theorem yE {base:Nat}: ∀ {hs us:List SV} {aE:Ren} {t:Ren->VC},(nS base hs us aE t).holds ->
  ∃ ren',aE.le ren'/\(t ren').holds/\∀ ren'' (E:Nat->Nat),ren'.le ren''->SV.vals (Ren.E base ren'' E) hs=SV.vals E us
 | hs,us,aE,t,hh=>by
   unfold nS at hh;split at hh
   ·exact⟨aE,Ren.le_refl _,hh,fun _ _ _=>rfl⟩
   ·obtain⟨r1,h1,h2,h3⟩:=b8 hh;obtain⟨r2,g1,g2,g3⟩:=yE h2.2;refine⟨r2,Ren.le_trans h1 g1,g2,fun r'' E hle=> ?_⟩;have e:_=_:=h2.1;simp only[SV.vals,SV.val,h3 r'' E (Ren.le_trans g1 hle),g3 r'' E hle,e]
   ·exact hh.elim
theorem kM {base:Nat}{aE:Ren}{h u:SV}{t:Ren->VC}(hh:(lX base aE h u t).holds) :
  ∃ ren',aE.le ren'/\(t ren').holds/\∀ ren'' (E:Nat->Nat),ren'.le ren''->h.val (Ren.E base ren'' E)=u.val E:=by
 unfold lX at hh;split at hh
 ·split at hh
  ·rename_i e;subst e;exact⟨aE,Ren.le_refl _,hh.2,fun _ _ _=>by have:_=_:=hh.1;grind [SV.val]⟩
  ·exact hh.elim
 ·exact⟨aE,Ren.le_refl _,hh.2,fun _ _ _=>by have:_=_:=hh.1;grind [SV.val]⟩
 ·exact⟨aE,Ren.le_refl _,hh.2,fun _ _ _=>by have:_=_:=hh.1;grind [SV.val]⟩
 ·exact⟨aE,Ren.le_refl _,hh,fun _ _ _=>rfl⟩
 ·exact⟨aE,Ren.le_refl _,hh,fun _ _ _=>rfl⟩
 ·exact⟨aE,Ren.le_refl _,hh,fun _ _ _=>rfl⟩
 ·exact⟨aE,Ren.le_refl _,hh,fun _ _ _=>rfl⟩
 ·exact⟨aE,Ren.le_refl _,hh,fun _ _ _=>rfl⟩
 ·obtain⟨r',h1,h2,h3⟩:=b8 hh;exact⟨r',h1,h2.2,fun r'' E hle=>by have:_=_:=h2.1;grind [SV.val]⟩
 ·split at hh
  ·rename_i e;obtain⟨rfl,rfl⟩:=e;obtain⟨r',h1,h2,h3⟩:=b8 hh;exact⟨r',h1,h2.2,fun r'' E hle=>by have:_=_:=h2.1;grind [SV.val]⟩
  ·exact hh.elim
 ·obtain⟨r',h1,h2,h3⟩:=b8 hh;exact⟨r',h1,h2.2,fun r'' E hle=>by obtain⟨a,b,c⟩:=h2.1;have a:_=_:=a;have b:_=_:=b;have c:_=_:=c;grind [SV.val]⟩
 ·split at hh
  ·rename_i e;subst e;obtain⟨r',h1,h2,h3⟩:=b8 hh;exact⟨r',h1,h2.2.2,fun r'' E hle=>by obtain⟨a,b,c⟩:=h2.1;have a:_=_:=a;have b:_=_:=b;have c:_=_:=c;have hz:=Rm h2.2.1;grind [SV.val]⟩
  ·exact hh.elim
 ·obtain⟨r',h1,h2,h3⟩:=b8 hh;exact⟨r',h1,h2.2.2,fun r'' E hle=>by obtain⟨a,b,c⟩:=h2.1;have a:_=_:=a;have b:_=_:=b;have c:_=_:=c;have hz:=Rm h2.2.1;grind [SV.val]⟩
 ·exact⟨aE,Ren.le_refl _,hh.2,fun _ _ _=>by have:_=_:=hh.1;simp[SV.val,this]⟩
 ·obtain⟨r',h1,h2,h3⟩:=b8 hh;exact⟨r',h1,h2.2.2,fun r'' E hle=>by obtain⟨a,b,c⟩:=h2.1;have a:_=_:=a;have b:_=_:=b;have c:_=_:=c;have hz:=Rm h2.2.1;grind [SV.val]⟩
 ·split at hh
  ·rename_i e;subst e;obtain⟨r',h1,h2,h3⟩:=b8 hh;exact⟨r',h1,h2.2,fun r'' E hle=>by obtain⟨a,b,c,d,e⟩:=h2.1;have a:_=_:=a;have b:_=_:=b;have c:_=_:=c;have d:_=_:=d;have e:_=_:=e;grind [SV.val]⟩
  ·exact hh.elim
 ·obtain⟨r',h1,h2,h3⟩:=b8 hh;exact⟨r',h1,h2.2.2,fun r'' E hle=>by obtain⟨a,b,c⟩:=h2.1;have a:_=_:=a;have b:_=_:=b;have c:_=_:=c;have hz:_=_:=h2.2.1;grind [SV.val]⟩
 ·split at hh
  ·rename_i e;subst e;obtain⟨r',h1,h2,h3⟩:=b8 hh;exact⟨r',h1,h2.2.2,fun r'' E hle=>by obtain⟨a,b,c⟩:=h2.1;have a:_=_:=a;have b:_=_:=b;have c:_=_:=c;have hz:_=_:=h2.2.1;grind [SV.val]⟩
  ·exact hh.elim
 ·split at hh
  ·rename_i e;subst e;obtain⟨r',h1,h2,h3⟩:=b8 hh;exact⟨r',h1,h2.2,fun r'' E hle=>by have:_=_:=h2.1;grind [SV.val]⟩
  ·exact hh.elim
 ·split at hh
  ·grind [yE,Ren.le_trans,SV.val]
  ·exact hh.elim
 ·grind [b8,SV.val]
 ·obtain⟨r',h1,⟨a,b,h2⟩,_⟩:=b8 hh;exact⟨r',h1,h2,fun r'' E hle=>by have a:_=_:=a;have b:_=_:=b;grind [SV.val]⟩
 ·split at hh
  ·rename_i e;obtain⟨rfl,rfl⟩:=e;obtain⟨r',h1,⟨a,b,c,d,h2⟩,_⟩:=b8 hh;exact⟨r',h1,h2,fun r'' E hle=>by have a:_=_:=a;have b:_=_:=b;have c:_=_:=c;have d:_=_:=d;grind [SV.val]⟩
  ·exact hh.elim
 ·exact⟨aE,Ren.le_refl _,hh.2,fun _ _ _=>by have:_=_:=hh.1;grind [SV.val]⟩
 ·split at hh
  ·rename_i hw;simp only[Bool.and_eq_true] at hw;refine⟨aE,Ren.le_refl _,hh.2,fun ren'' E _=> ?_⟩;have h1: ∀ E,SV.val E _=SV.val E _:=hh.1;rw[h1 E];exact SV.val_congr (nx:=0) (by omega) _ hw.1
  ·exact hh.elim
theorem jz {base:Nat}: ∀ {hs us:List SV} {aE:Ren} {t:Ren->VC},(kW base hs us aE t).holds ->
  ∃ ren',aE.le ren'/\(t ren').holds/\∀ ren'' (E:Nat->Nat),ren'.le ren''->SV.vals (Ren.E base ren'' E) hs=SV.vals E us
 | [],[],aE,t,h=>⟨aE,Ren.le_refl _,h,fun _ _ _=>rfl⟩
 | h::hs,u::us,aE,t,hh=>by simp only[kW] at hh;obtain⟨r1,h1,h2,h3⟩:=kM hh;obtain⟨r2,g1,g2,g3⟩:=jz h2;exact⟨r2,Ren.le_trans h1 g1,g2,fun r'' E hle=>by simp only[SV.vals];rw[h3 r'' E (Ren.le_trans g1 hle),g3 r'' E hle]⟩
 | [],_::_,_,_,h=>h.elim
 | _::_,[],_,_,h=>h.elim
theorem yD {base:Nat}: ∀ {hs us:List (Nat×SV×SV)} {aE:Ren} {t:Ren->VC},(uS base hs us aE t).holds ->
  ∃ ren',aE.le ren'/\(t ren').holds/\∀ ren'' (E:Nat->Nat),ren'.le ren''->cu (Ren.E base ren'' E) hs=cu E us
 | [],[],aE,t,h=>⟨aE,Ren.le_refl _,h,fun _ _ _=>rfl⟩
 | h::hs,u::us,aE,t,hh=>by
   simp only[uS] at hh;have e0:h.1=u.1:=hh.1;obtain⟨r1,h1,h2,h3⟩:=kM hh.2;obtain⟨r2,g1,g2,g3⟩:=kM h2;obtain⟨r3,f1,f2,f3⟩:=yD g2;exact⟨r3,Ren.le_trans h1 (Ren.le_trans g1 f1),f2,fun r'' E hle=>by have h3:=h3 r'' E (Ren.le_trans g1 (Ren.le_trans f1 hle));have g3:=g3 r'' E (Ren.le_trans f1 hle);have f3:=f3 r'' E hle;simp only[cu,List.map_cons] at f3 ⊢;rw[h3,g3,e0,f3]⟩
 | [],_::_,_,_,h=>h.elim
 | _::_,[],_,_,h=>h.elim
theorem vW {base:Nat}{aE:Ren}{h u:SV}{t:Ren->VC}(hh:(yF base aE h u t).holds) :
  ∃ ren',aE.le ren'/\(t ren').holds/\∀ ren'' (E:Nat->Nat),ren'.le ren''->h.val (Ren.E base ren'' E)=u.val E:=by
 unfold yF at hh;split at hh
 ·grind [jz,SV.val]
 ·grind [jz,SV.val]
 ·split at hh
  ·grind [jz,kM,SV.val]
  ·exact hh.elim
 ·exact kM hh
theorem wV {base:Nat}: ∀ {l:List (Nat×SV)} {tmps:List (Option SV)} {aE:Ren} {t:Ren->VC},(zJ base l tmps aE t).holds ->
  ∃ ren',aE.le ren'/\(t ren').holds/\∀ ren'' (E:Nat->Nat),ren'.le ren''->∀ i h,(i,h)∈ l->∃ u,slot tmps i=some u/\h.val (Ren.E base ren'' E)=u.val E
 | [],_,aE,t,h=>⟨aE,Ren.le_refl _,h,fun _ _ _ i h hm=>by cases hm⟩
 | (i,x)::r,tmps,aE,t,hh=>by
   simp only[zJ] at hh;split at hh
   ·rename_i u hu;obtain⟨r1,h1,h2,h3⟩:=vW hh;obtain⟨r2,g1,g2,g3⟩:=wV h2;refine⟨r2,Ren.le_trans h1 g1,g2,fun r'' E hle j h hm=> ?_⟩;rw[List.mem_cons] at hm;rcases hm with hm | hm
    ·injection hm with e1 e2;subst e1;subst e2;exact⟨u,hu,h3 r'' E (Ren.le_trans g1 hle)⟩
    ·exact g3 r'' E hle j h hm
   ·exact hh.elim
theorem sY {base:Nat}{aE ren':Ren}(h:aE.le ren'){kh k1:Nat}(hk:ew base aE kh=some k1):ew base ren' kh=some k1:=by
 unfold ew at hk ⊢;split at hk
 ·exact hk
 ·exact h _ _ hk
theorem Es {base:Nat}{m:Mem}{kh k1:Nat}{aE:Ren}:aE.le (I7 base m kh k1 aE):=by
 unfold I7;split
 ·rename_i hn _;split
  ·intro k v hv;by_cases e:kh=k
   ·grind
   ·simp only[Ren.get,e,if_false];exact hv
  ·exact Ren.le_refl _
 ·exact Ren.le_refl _
theorem qI {base:Nat}{m:Mem}: ∀ {a b:List aK} {aE:Ren},aE.le (mK base m a b aE)
 | a,b,aE=>by
   unfold mK;split
   ·exact Ren.le_trans Es qI
   ·exact Ren.le_trans Es qI
   ·exact qI
   ·exact Ren.le_refl _
theorem SH {base:Nat}{m:Mem}{B' B:SB}{aE:Ren}:aE.le (Cy base m B' B aE):=by
 unfold Cy
 grind [qI,Es,Ren.le_refl]
def BU (base:Nat)(m:Mem)(used:List Nat)(aE:Ren)(kh:Nat)(B':SB):Prop :=∀ b a,B'.jD b a->∃ k1 B,ew base aE kh=some k1/\k1∉ used/\m.get k1=some B/\B.jD b a/\(∀ E o,bw E (B.el a) o->bw (Ren.E base aE E) (B'.el a) o)/\(B'.ro=false->B.ro=false)
theorem fC {base:Nat}{m:Mem}: ∀ {l:List (Nat×SB)} {used:List Nat} {aE:Ren} {t:Ren->VC},(fY base m l used aE t).holds ->
  ∃ ren',aE.le ren'/\(t ren').holds/\∀ ren'',ren'.le ren''->(∀ kh B',Mem.get kh l=some B'->BU base m used ren'' kh B') /\
    (∀ kh kh' B B' k1,Mem.get kh l=some B->(∃ b a,B.jD b a)->Mem.get kh' l=some B'->(∃ b a,B'.jD b a)->ew base ren'' kh=some k1->ew base ren'' kh'=some k1->kh=kh')
 | [],_,aE,t,h=>⟨aE,Ren.le_refl _,h,fun _ _=>⟨(fun _ _ h=>by cases h),(fun _ _ _ _ _ h=>by cases h)⟩⟩
 | (k0,B0)::r,used,aE,t,hh=>by
   simp only[fY] at hh;split at hh
   ·rename_i k1 hk1;split at hh
    ·exact hh.elim
    ·rename_i hnu;have hnu:k1∉ used:=by grind
     split at hh
     ·rename_i B hB
      have key: ∀ {ren1:Ren},aE.le ren1->(∀ ren'',ren1.le ren''->BU base m used ren'' k0 B0)->(fY base m r (k1::used) ren1 t).holds ->
        ∃ ren',aE.le ren'/\(t ren').holds/\∀ ren'',ren'.le ren''->(∀ kh B',Mem.get kh ((k0,B0)::r)=some B'->BU base m used ren'' kh B') /\
          (∀ kh kh' B B' k1,Mem.get kh ((k0,B0)::r)=some B->(∃ b a,B.jD b a)->Mem.get kh' ((k0,B0)::r)=some B'->(∃ b a,B'.jD b a)->ew base ren'' kh=some k1->ew base ren'' kh'=some k1->kh=kh'):=by
       intro ren1 hle1 h0 hr;obtain⟨ren2,hle2,ht,g⟩:=fC hr;refine⟨ren2,Ren.le_trans hle1 hle2,ht,fun ren'' hle=> ?_⟩;obtain⟨g2,g3⟩:=g ren'' hle;have hk1'':ew base ren'' k0=some k1:=(by grind [sY,Ren.le_trans])
       refine⟨fun kh B' hg=> ?_,fun kh kh' X X' q hg hn hg' hn' hq hq'=> ?_⟩
       ·rcases Mem.jt hg with ⟨rfl,rfl⟩ | ⟨_,hg⟩
        ·grind [Ren.le_trans]
        grind [Sx.BU]
       ·rcases Mem.jt hg with ⟨e1,_⟩ | ⟨_,hgr⟩<;>rcases Mem.jt hg' with ⟨e2,_⟩ | ⟨_,hgr'⟩
        ·omega
        ·subst e1;rw[hk1''] at hq;injection hq with hq;subst hq;obtain⟨b,a,hn'⟩:=hn';obtain⟨q2,Y,h1,h2,_⟩:=g2 kh' X' hgr' b a hn'
         grind
        ·subst e2;rw[hk1''] at hq';injection hq' with hq';subst hq';obtain⟨b,a,hn⟩:=hn;obtain⟨q2,Y,h1,h2,_⟩:=g2 kh X hgr b a hn
         grind
        grind
      split at hh
      ·rename_i hwf;have hle:af B B0:=hh.1;refine key SH (fun ren'' hl b0 a0 hn=> ?_) hh.2;obtain⟨a,b,c⟩:=hle.2 b0 a0 hn;exact⟨k1,B,sY (Ren.le_trans SH hl) hk1,hnu,hB,a,fun E o ho=>(b E o ho).congr (by grind [Ren.BV]) (SB.YC hwf a0),c⟩
      ·split at hh
       ·rename_i cs' tot' ty' cs tot ty _;split at hh
        ·rename_i hty;obtain⟨htot,hh⟩:=hh;have htot:tot'=tot:=htot;obtain⟨ren1,hle1,hr,hv⟩:=jz hh;refine key hle1 (fun ren'' hl b0 a0 hn=>⟨k1,_,(by grind [sY,Ren.le_trans]),hnu,hB,hn,fun E o ho=> ?_,id⟩) hr;obtain⟨c,fr,h1,h2,h3,h4⟩:=ho;refine⟨c,fr,by grind,h2,fun i v hvi=> ?_,by omega⟩;have hvv:=hv ren'' E hl;rw[SV.bA,SV.bA] at hvv;have:(cs'.map (SV.val (Ren.E base ren'' E)))[i]?=some (v.val (Ren.E base ren'' E)):=by grind
         grind
        ·exact hh.elim
       ·rename_i es' c' es c _;obtain⟨hc,hh⟩:=hh;have hc:c'=c:=hc;obtain⟨ren1,hle1,hr,hv⟩:=yD hh;refine key hle1 (fun ren'' hl b0 a0 hn=>⟨k1,_,(by grind [sY,Ren.le_trans]),hnu,hB,hn,fun E o ho=> ?_,id⟩) hr;have ho:o=.map (cu E es).toArray c:=ho;show o=.map (cu (Ren.E base ren'' E) es').toArray c';rw[hv ren'' E hl,hc,ho]
       ·exact hh.elim
     ·exact hh.elim
   ·split at hh
    ·have hh:(∀ b a,¬ B0.jD b a)/\(fY base m r used aE t).holds:=by
      cases hF:B0.nj with
      | true=>rw[hF] at hh;exact⟨fun b a ha=>hh.1 a (SB.akN hF ha),hh.2⟩
      | false =>
        rw[hF] at hh;refine⟨fun b a ha=> ?_,hh.2⟩;have h1:B0.no=true:=hh.1
        grind [SB.oV]
     obtain⟨ren2,hle2,ht,g⟩:=fC hh.2;have hno:=hh.1;refine⟨ren2,hle2,ht,fun ren'' hle=> ?_⟩;obtain⟨g2,g3⟩:=g ren'' hle;refine⟨fun kh B' hg=> ?_,fun kh kh' X X' q hg hn hg' hn' hq hq'=> ?_⟩
     ·rcases Mem.jt hg with ⟨rfl,rfl⟩ | ⟨_,hg⟩
      ·grind [Sx.BU]
      grind
     grind [Mem.jt]
    ·exact hh.elim
def amR:SV->Option Nat
 | .ptr k _ _=>some k
 | .o5 k _ _ _=>some k
 | .tM k _ _ _=>some k
 | .slc k _ _ _ _=>some k
 | .bI k _ _ _ _ _=>some k
 | .map k=>some k
 | .yield k=>some k
 | .iq k _ _=>some k
 | .fq k _ _ _ _ _ _=>some k
 | _=>none
def dropKeys (base:Nat)(tmps:List (Option SV)):List (Nat×SV)->List Nat
 | []=>[]
 | (i,h)::r=>match amR h with
   | some kh=>(match Nat.blt kh base with
     | true=>dropKeys base tmps r
     | false=>(match slot tmps i with
       | some u=>(match amR u with
         | some k1=>k1::dropKeys base tmps r
         | none=>dropKeys base tmps r)
       | none=>dropKeys base tmps r))
   | none=>dropKeys base tmps r
def oT (ks:List Nat):Mem->Mem
 | []=>[]
 | e::r=>match ks.contains e.1 with
   | true=>oT ks r
   | false=>e::oT ks r
def bp.af1 (A:bp)(st:St)(x:A.α):Mem :=A.mem st x++oT ((A.mem st x).map (·.1)++(dropKeys st.nx st.tmps (A.slots st x)++A.drop st)) st.m
def hd (body:Code)(A:bp)(st:St)(x:A.α):St :=⟨pH (A.slots st x) (forget (written body) st.tmps),A.af1 st x,st.nx+A.fresh⟩
def w9 (body:Code)(A:bp)(st:St)(x:A.α):Bool :=(A.slots st x).all (fun p=>(written body).contains p.1&&p.2.wf (st.nx+A.fresh))&&(A.af1 st x).all (fun p=>Nat.blt p.1 (st.nx+A.fresh))
def A4 (body:Code)(A:bp)(st:St)(y:A.α)(st1:St):VC :=
 match w9 body A st y with
 | true=>ghs (A.gh st1) st1.tmps st1.m (fun tmps m=>zJ st.nx (A.slots st y) tmps [] (fun aE=>fY st.nx m (A.af1 st y) [] aE (fun _=>.tt)))
 | false=>.fail "loop: the annotation"
theorem tn: ∀ {l:List Nat} {tmps:List (Option SV)},(forget l tmps).length=tmps.length
 | [],_=>rfl
 | i::r,tmps=>by simp[forget,tn (l:=r)]
theorem qd: ∀ {l:List (Nat×SV)} {tmps:List (Option SV)},(pH l tmps).length=tmps.length
 | [],_=>rfl
 | (i,v)::r,tmps=>by simp[pH,qd (l:=r)]
theorem Bc: ∀ {l:List Nat} {tmps:List (Option SV)} {i:Nat} {v:SV},(forget l tmps)[i]?=some (some v)->tmps[i]?=some (some v)/\i∉ l
 | [],_,_,_,h=>⟨h,by simp⟩
 | j::r,tmps,i,v,h=>by
   simp only[forget] at h;have:=Bc h;rw[List.getElem?_set] at this;split at this
   ·rename_i e;subst e;split at this
    ·simp at this
    ·simp at this
   ·rename_i e;refine⟨this.1,?_⟩;rw[List.mem_cons];rintro(h1 | h1)
    ·exact e h1.symm
    ·exact this.2 h1
theorem Mx: ∀ {l:List Nat} {tmps:List (Option SV)} {i:Nat},i∉ l->(forget l tmps)[i]?=tmps[i]?
 | [],_,_,_=>rfl
 | j::r,tmps,i,h=>by rw[List.mem_cons] at h;simp only[forget];rw[Mx (by grind),List.getElem?_set,if_neg (by omega)]
theorem vO: ∀ {l:List (Nat×SV)} {tmps:List (Option SV)} {i:Nat} {v:SV},(pH l tmps)[i]?=some (some v)->(i,v)∈ l∨(tmps[i]?=some (some v)/\∀ u,(i,u)∉ l)
 | [],_,_,_,h=>.inr ⟨h,fun _ h=>by cases h⟩
 | (j,x)::r,tmps,i,v,h=>by
   simp only[pH] at h;rcases vO h with h | ⟨h',hn⟩
   ·grind
   grind
theorem FX: ∀ {l:List (Nat×SV)} {tmps:List (Option SV)} {i:Nat},(∀ u,(i,u)∉ l)->(pH l tmps)[i]?=tmps[i]?
 | [],_,_,_=>rfl
 | (j,x)::r,tmps,i,h=>by simp only[pH];rw[FX (by grind),List.getElem?_set,if_neg (by grind)]
theorem zR {nx:Nat}: ∀ {l:List (Option SV)},(∀(i:Nat) (v:SV),l[i]?=some (some v)->v.wf nx=true)->dO nx l=true
 | [],_=>rfl
 | none::r,h=>zR (l:=r) fun i v hv=>h (i+1) v (by simpa using hv)
 | some x::r,h=>by simp only[dO,Bool.and_eq_true];exact⟨h 0 x rfl,zR fun i v hv=>h (i+1) v (by simpa using hv)⟩
theorem vg {body:Code}{A:bp}{st st1:St}{y:A.α}(h:(A4 body A st y st1).holds){Γ:aQ}{E:Nat->Nat}{a:Act}{w:World}
  (hnx:Γ.wB<=st.nx) (hwt:dO st.nx st.tmps=true) (hkeep: ∀ i,i∉ written body->st1.tmps[i]?=st.tmps[i]?) (hlen:st1.tmps.length=st.tmps.length) (hs:Sat Γ E st1 a w) :
  ∃ E',(∀ k,k<st.nx->E' k=E k)/\Sat Γ E' (hd body A st y) a w:=by
 unfold A4 at h;split at h
 ·rename_i hok;simp only[w9,Bool.and_eq_true,List.all_eq_true,Nat.blt_eq,List.contains_iff_mem] at hok;obtain⟨tmps',m',htold,hsm,h⟩:=tX h hs.mm;obtain⟨ren1,_,h1,h2⟩:=wV h;obtain⟨aE,hle,_,h34⟩:=fC h1;obtain⟨h3,h4⟩:=h34 aE (Ren.le_refl _);have hold: ∀ k,k<st.nx->Ren.E st.nx aE E k=E k:=fun k hk=>Ren.BV hk;refine⟨Ren.E st.nx aE E,hold,⟨⟨by simp[hd,qd,tn,hs.tm.size,hlen],fun i v hv=> ?_⟩,zR fun i v hv=> ?_,hs.df,?_⟩⟩
  ·rcases vO hv with hm | ⟨hv,_⟩
   ·obtain⟨u,hu,hval⟩:=h2 aE E hle i v hm;obtain⟨v0,q1,q2,_⟩:=htold.get i u (s6 hu);rw[hval,q2];exact hs.tm.val i v0 q1
   ·obtain⟨hv,hn⟩:=Bc hv;have:=hs.tm.val i v (by grind);rw[SV.val_congr hold v (oO hwt hv)];exact this
  ·rcases vO hv with hm | ⟨hv,_⟩
   ·grind [Sx.hd]
   ·obtain⟨hv,hn⟩:=Bc hv;exact SV.j0 (Nat.le_add_right _ _) v (oO hwt hv)
  ·have hE: ∀ kh k1,ew st.nx aE kh=some k1->Ren.E st.nx aE E kh=E k1:=(by grind [Ren.E])
   refine⟨fun kh B' a hg hn=> ?_,fun kh kh' B B' a hg hn hg' hn' hr=> ?_,fun kh B' hg=> ?_,fun kh B' a hg hn hro=> ?_,hsm.ext,⟨Nat.le_trans hnx (Nat.le_add_right _ _),fun k hk=>(hold k (Nat.lt_of_lt_of_le hk hnx)).trans (hsm.cx.2 k hk)⟩,hsm.kp⟩
   ·obtain⟨k1,B,g1,_,g3,g5,g6,_⟩:=h3 kh B' hg _ a hn;rw[hE kh k1 g1] at g5;obtain⟨o,ho,hb⟩:=hsm.jK k1 B a g3 g5
    grind
   ·obtain⟨k1,X,g1,_,g3,g5,_,g7⟩:=h3 kh B hg _ a hn;obtain⟨k1',X',g1',_,g3',g5',_,g7'⟩:=h3 kh' B' hg' _ a hn';rw[hE kh k1 g1] at g5;rw[hE kh' k1' g1'] at g5';have:=hsm.j9 k1 k1' X X' a g3 g5 g3' g5' (hr.imp g7 g7');subst this;exact h4 kh kh' B B' k1 hg ⟨_,_,hn⟩ hg' ⟨_,_,hn'⟩ g1 g1'
   ·have: ∀(l:List (Nat×SB)),(∀ p∈ l,p.1<st.nx+A.fresh)->Mem.get kh l=some B'->kh<st.nx+A.fresh:=by
     intro l;induction l with
     | nil=>intro _ h;cases h
     | cons e r ih =>
       intro ha hg;by_cases e1:e.1=kh
       ·grind
       ·simp only[Mem.get,e1,if_false] at hg
        grind
    grind [Sx.hd]
   ·obtain⟨k1,B,g1,_,g3,g5,_,g7⟩:=h3 kh B' hg _ a hn;rw[hE kh k1 g1] at g5;exact hsm.lE k1 B a g3 g5 (g7 hro)
 ·exact h.elim
def older (nx:Nat):Mem->Mem
 | []=>[]
 | e::r=>match Nat.blt e.1 nx with
   | true=>e::older nx r
   | false=>older nx r
def V5 (nx:Nat):Mem->Bool
 | []=>true
 | e::r=>match e.2 with
   | .fmap _ (.ref k _) _=>Nat.blt k nx&&V5 nx r
   | _=>V5 nx r
def p4 (nx:Nat)(v:SV)(m':Mem)(nx':Nat)(K:SV->Mem->Nat->VC):VC :=
 match v.wf nx&&(Mem.wf nx (older nx m')&&V5 nx (older nx m'))with
 | true=>K v (older nx m') nx
 | false=>K v m' nx'
theorem qX {nx:Nat}: ∀ {m:Mem} {k:Nat} {B:SB},(older nx m).get k=some B->m.get k=some B/\k<nx
 | [],_,_,h=>by cases h
 | e::r,k,B,h=>by
   simp only[older] at h;cases hb:Nat.blt e.1 nx with
   | true =>
     rw[hb] at h;simp only at h;by_cases he:e.1=k
     ·rw[Mem.get,if_pos he] at h ⊢;exact⟨h,by rw[← he];simpa [Nat.blt_eq] using hb⟩
     ·rw[Mem.get,if_neg he] at h ⊢;exact qX h
   | false =>
     rw[hb] at h;have:=qX h;refine⟨?_,this.2⟩;rw[Mem.get,if_neg (fun e1=> ?_)]
     ·exact this.1
     ·have h2:=this.2;have h3: ¬ (e.1<nx):=by
       intro hlt;have h4:Nat.blt e.1 nx=true:=by rw[Nat.blt_eq];exact hlt
       rw[h4] at hb;cases hb
      omega
theorem vU {nx:Nat}{v:SV}{m':Mem}{nx':Nat}{K:SV->Mem->Nat->VC}{Γ:aQ}{E E':Nat->Nat}{w:World}(h:(p4 nx v m' nx' K).holds)(hs:aG Γ E' m' nx' w)
  (hg:Γ.wB<=nx) (hE: ∀ k,k<nx->E' k=E k) (hn:nx<=nx'):aV (lift K) Γ E nx (v.val E') w:=by
 unfold p4 at h;split at h
 ·rename_i hw;simp only[Bool.and_eq_true] at hw;exact⟨E',some v,older nx m',nx,hE,Nat.le_refl _,fun u hu=>by injection hu with hu;subst hu;rfl,hs.sub (fun k B hk=>(qX hk).1) (fun k B hk=>(qX hk).2) (.inr hg),h⟩
 ·exact⟨E',some v,m',nx',hE,hn,fun u hu=>by injection hu with hu;subst hu;rfl,hs,h⟩
theorem uQ {nx:Nat}{v:SV}{m':Mem}{nx':Nat}{K K':SV->Mem->Nat->VC}(hK: ∀ v m nx,(K v m nx).holds->(K' v m nx).holds)(h:(p4 nx v m' nx' K).holds):(p4 nx v m' nx' K').holds:=by
 unfold p4 at h ⊢;split at h
 ·exact hK _ _ _ h
 ·exact hK _ _ _ h
mutual
def SV.refs:SV->List Nat->List Nat
 | .ptr key _ _,l=>key::l
 | .o5 key _ _ _,l=>key::l
 | .tM key _ _ _,l=>key::l
 | .slc key _ _ _ _,l=>key::l
 | .bI key _ _ _ _ _,l=>key::l
 | .cC key _ _ _ _ _ _,l=>key::l
 | .lA key _ _ _ _,l=>key::l
 | .map key,l=>key::l
 | .yield key,l=>key::l
 | .iq key _ _,l=>key::l
 | .fq key _ _ _ _ _ _,l=>key::l
 | .su key _ _ _ _,l=>key::l
 | .agg cs,l=>SV.Oe cs l
 | .bL vs,l=>SV.Oe vs l
 | .iface _ v,l=>v.refs l
 | .func _ a b,l=>SV.Oe a (SV.Oe b l)
 | _,l=>l
def SV.Oe:List SV->List Nat->List Nat
 | [],l=>l
 | x::r,l=>x.refs (SV.Oe r l)
end
def aeJ:List (Nat×SV×SV)->List Nat->List Nat
 | [],l=>l
 | e::r,l=>e.2.1.refs (e.2.2.refs (aeJ r l))
def vm:List aK->List Nat->List Nat
 | [],l=>l
 | .ref key _::r,l=>key::vm r l
 | .fq key _ _ _ _ _::r,l=>key::vm r l
 | _::r,l=>vm r l
def SB.refs:SB->List Nat->List Nat
 | .cells cs _ _,l=>SV.Oe cs l
 | .map es _,l=>aeJ es l
 | .Qn (some k) _ _ _,l=>k::l
 | .rows _ _ av _ _ _,l=>vm av l
 | .view _ _ _ av,l=>vm av l
 | .vq _ cs _ _ _,l=>vm cs l
 | .lH _ _ av _,l=>vm (av.map (dm.at 0)) l
 | .fmap _ (.ref k _) _,l=>k::l
 | _,l=>l
def HG (nx:Nat):Mem->List Nat->List Nat
 | [],l=>l
 | e::r,l=>match Nat.blt e.1 nx,e.2 with
   | true,B=>B.refs (HG nx r l)
   | false,.loop .. =>e.1::HG nx r l
   | false,_=>HG nx r l
def an7 (k:Nat):List Nat->Bool
 | []=>false
 | x::r=>match Nat.beq x k with
   | true=>true
   | false=>an7 k r
def QM:Nat->List Nat->List Nat->Mem->List Nat
 | 0,_,seen,_=>seen
 | _+1,[],seen,_=>seen
 | f+1,k::r,seen,m=>match an7 k seen with
   | true=>QM f r seen m
   | false=>(match m.get k with
     | some B=>QM f (B.refs r) (k::seen) m
     | none=>QM f r seen m)
def IV (p:Nat->Bool):Mem->Mem
 | []=>[]
 | e::r=>match p e.1 with
   | true=>e::IV p r
   | false=>IV p r
def amS (nx:Nat)(v:SV)(m:Mem):Mem :=
 let live:=QM 100000 (v.refs (HG nx m [])) [] m
 IV (fun k=>match Nat.blt k nx with
  | true=>true
  | false=>an7 k live) m
theorem zj {p:Nat->Bool}: ∀ {m:Mem} {k:Nat} {B:SB},(IV p m).get k=some B->m.get k=some B
 | [],_,_,h=>by cases h
 | e::r,k,B,h=>by
   simp only[IV] at h;cases hp:p e.1 with
   | true =>
     rw[hp] at h;simp only at h;by_cases he:e.1=k
     ·rw[Mem.get,if_pos he] at h ⊢;exact h
     ·rw[Mem.get,if_neg he] at h ⊢;exact zj h
   | false =>
     rw[hp] at h;have hk:p k=true:=by
      clear hp;have: ∀ {m:Mem},(IV p m).get k=some B->p k=true:=by
       intro m;induction m with
       | nil=>intro h;cases h
       | cons e r ih =>
         intro h;simp only[IV] at h;cases hp:p e.1 with
         | true =>
           rw[hp] at h;simp only at h;by_cases he:e.1=k
           ·rw[← he];exact hp
           ·rw[Mem.get,if_neg he] at h;exact ih h
         | false=>rw[hp] at h;exact ih h
      exact this h
     have he: ¬ e.1=k:=fun he=>by rw[he,hk] at hp;cases hp
     rw[Mem.get,if_neg he];exact zj h
def ah9 (g:Bool)(nx:Nat)(v:SV)(m':Mem)(nx':Nat)(K:SV->Mem->Nat->VC):VC:=match g with
 | false=>p4 nx v m' nx' K
 | true=>p4 nx v (amS nx v m') nx' K
theorem aG.aqo {nx:Nat}{v:SV}{m':Mem}{nx':Nat}{Γ:aQ}{E:Nat->Nat}{w:World}(hs:aG Γ E m' nx' w):aG Γ E (amS nx v m') nx' w :=hs.sub (fun _ _ h=>zj h) (fun _ _ h=>hs.lt _ _ (zj h)) (.inl (Nat.le_refl _))
theorem XB {g:Bool}{nx:Nat}{v:SV}{m':Mem}{nx':Nat}{K:SV->Mem->Nat->VC}{Γ:aQ}{E E':Nat->Nat}{w:World}(h:(ah9 g nx v m' nx' K).holds)(hs:aG Γ E' m' nx' w)
  (hg:Γ.wB<=nx) (hE: ∀ k,k<nx->E' k=E k) (hn:nx<=nx'):aV (lift K) Γ E nx (v.val E') w:=by
 cases g with
 | false=>exact vU h hs hg hE hn
 | true=>exact vU h hs.aqo hg hE hn
theorem Oj {g:Bool}{nx:Nat}{v:SV}{m':Mem}{nx':Nat}{K K':SV->Mem->Nat->VC}(hK: ∀ v m nx,(K v m nx).holds->(K' v m nx).holds)(h:(ah9 g nx v m' nx' K).holds):(ah9 g nx v m' nx' K').holds:=by
 cases g with
 | false=>exact uQ hK h
 | true=>exact uQ hK h
inductive Ex where
 | normal
 | exit (id:Nat)
 | ret
def Ex.to:Ex->Exit
 | .normal=>.normal
 | .exit id=>.exit id
 | .ret=>.ret
def Ex.jump:Ex->Option Code
 | .normal=>none
 | .exit id=>some (.exit id)
 | .ret=>some .ret
abbrev XK:=Ex->St->VC
abbrev XP:=SV->St->VC
def FV:XP:=fun _ _=>.fail "a panic"
def Al:PK:=fun _ _ _=>.fail "a panic"
def tJ (X:XP)(Γ:aQ)(E:Nat->Nat)(nx:Nat)(e:Exit)(a:Act)(w:World):Prop :=∃ v E' st',e=.panic [{v:=SV.val E' v,recovered:=false}]/\v.wf st'.nx=true/\(∀ k,k<nx->E' k=E k)/\nx<=st'.nx/\Sat Γ E' st' a w/\(X v st').holds
def jR (K:XK)(X:XP)(Γ:aQ)(E:Nat->Nat)(nx:Nat)(e:Exit)(a:Act)(w:World):Prop :=(∃ ex:Ex,e=ex.to/\j8 (K ex) Γ E nx a w)∨tJ X Γ E nx e a w
theorem tJ.weaken {X:XP}{Γ:aQ}{E E':Nat->Nat}{nx nx':Nat}{e:Exit}{a:Act}{w:World}(h:tJ X Γ E' nx' e a w)(hE: ∀ k,k<nx->E' k=E k)(hn:nx<=nx') :
  tJ X Γ E nx e a w:=by
 obtain⟨v,E'',st'',k0,kw,k1,k2,k3,k4⟩:=h;exact⟨v,E'',st'',k0,kw,fun k hk=>(k1 k (Nat.lt_of_lt_of_le hk hn)).trans (hE k hk),Nat.le_trans hn k2,k3,k4⟩
theorem jR.weaken {K:XK}{X:XP}{Γ:aQ}{E E':Nat->Nat}{nx nx':Nat}{e:Exit}{a:Act}{w:World}(h:jR K X Γ E' nx' e a w)(hE: ∀ k,k<nx->E' k=E k)(hn:nx<=nx') :
  jR K X Γ E nx e a w:=by
 rcases h with ⟨ex,he,E'',st'',k1,k2,k3,k4⟩ | h
 ·exact .inl ⟨ex,he,E'',st'',fun k hk=>(k1 k (Nat.lt_of_lt_of_le hk hn)).trans (hE k hk),Nat.le_trans hn k2,k3,k4⟩
 ·exact .inr (h.weaken hE hn)
theorem tJ.none {Γ:aQ}{E:Nat->Nat}{nx:Nat}{e:Exit}{a:Act}{w:World}(h:tJ FV Γ E nx e a w):False:=by obtain⟨_,_,_,_,_,_,_,_,h⟩:=h;exact h.elim
theorem Mem.j0 {n k:Nat}(h:n<=k): ∀ {m:Mem},Mem.wf n m=true->Mem.wf k m=true
 | [],_=>rfl
 | e::r,hm=>by simp only[Mem.wf,Bool.and_eq_true] at hm ⊢;exact⟨SB.j0 h hm.1,Mem.j0 h hm.2⟩
def yJ:List Nat->List SV->List (Option SV)->List (Option SV)
 | p::ps,v::vs,t=>yJ ps vs (t.set p (some v))
 | _,_,t=>t
theorem UW {E:Nat->Nat}{ds:List Deferred}: ∀ {ps:List Nat} {vs:List SV} {tmps:List (Option SV)} {ts:Array Value},cK E tmps ⟨ts,ds⟩ ->
  cK E (yJ ps vs tmps) ⟨(ps.zip (SV.vals E vs)).foldl (fun t (p,v)=>t.setIfInBounds p v) ts,ds⟩
 | [],vs,tmps,ts,h=>by simpa [yJ] using h
 | p::ps,[],tmps,ts,h=>by simpa [yJ,SV.vals] using h
 | p::ps,v::vs,tmps,ts,h=>by simp only[yJ,SV.vals,List.zip_cons_cons,List.foldl_cons];refine UW ?_;have:=h.put (dst:=some p) (sv:=some v) (r:=v.val E) (fun u hu=>by injection hu with hu;subst hu;rfl);exact this
theorem UX {nx:Nat}: ∀ {ps:List Nat} {vs:List SV} {tmps:List (Option SV)},dO nx tmps=true->SV.gM nx vs=true->dO nx (yJ ps vs tmps)=true
 | [],vs,tmps,h,_=>by simpa [yJ] using h
 | p::ps,[],tmps,h,_=>by simpa [yJ] using h
 | p::ps,v::vs,tmps,h,hv=>by simp only[SV.gM,Bool.and_eq_true] at hv;simp only[yJ];exact UX (wh h (fun u hu=>by injection hu with hu;subst hu;exact hv.1)) hv.2
def wq (kl:Nat)(R:Loop)(ps:List Nat)(tmps0:List (Option SV))(fa fb:XK->St->VC):PT:=fun args m nx K =>
 match m.get kl,Nat.beq ps.length args.length with
 | some (.loop .ready none R'),true=>.and (ng R' R) (fa (fun e st1=>match e with
    | .normal=>(match st1.m.get kl with
      | some (.loop .ready pe R1)=>fb (fun e st2=>match st2.m.get kl with
         | some (.loop _ _ R2)=>(match e with
           | .normal=>p4 nx (.bool true true) (st2.m.put kl (.loop .ready none R2)) st2.nx K
           | .exit id=>p4 nx (.bool true false) (st2.m.put kl (.loop .done (some (.exit id)) R2)) st2.nx K
           | .ret=>p4 nx (.bool true false) (st2.m.put kl (.loop .done (some .ret) R2)) st2.nx K)
         | _=>.fail "yield: the record") ⟨st1.tmps,st1.m.put kl (.loop .busy pe R1),st1.nx⟩
      | _=>.fail "yield: the record")
    | _=>.fail "yield: a jump out of an assignment") ⟨yJ ps args tmps0,m,nx⟩)
 | _,_=>.fail "yield: the record"
section
variable {P : Program} {Γ : aQ}
theorem aG.QA {E:Nat->Nat}{m:Mem}{nx:Nat}{w:World}(h:aG Γ E m nx w){k:Nat}{st st':LoopState}{pe pe':Option Code}{R:Loop}(hk:m.get k=some (.loop st pe R)) :
  aG Γ E (m.put k (.loop st' pe' R)) nx (w.putObj (E k) (.loop {R with state:=st',pending:=pe'})) :=
 h.write hk rfl rfl rfl rfl
theorem Yi {kl l:Nat}{R:Loop}{tmps0:List (Option SV)}{fa fb:XK->St->VC}{E1:Nat->Nat}(hkl:kl<Γ.wB)(hl:Γ.E0 kl=l)(h1: ∀ k,k<kl->Γ.E0 k=E1 k)
  (ht:cK E1 tmps0 ⟨R.tmps,[]⟩) (hw:dO kl tmps0=true)
  (ia: ∀ Δ,Γ.le Δ->∀ K st E a w,(fa K st).holds->Sat Δ E st a w->R.assign.wpIn (Fr (some l)) 0 P (jR K FV Δ E st.nx) a w)
  (ib: ∀ Δ,Γ.le Δ->∀ K st E a w,(fb K st).holds->Sat Δ E st a w->R.body.wpIn (Fr (some l)) 0 P (jR K FV Δ E st.nx) a w) (KP:PK) :
  qO P Γ KP (.yield kl) (wq kl R R.params.toList tmps0 fa fb):=by
 intro Δ' hle' args m nx K h hwf hargs E w hs';refine Out.mono (R:=aV (lift K) Δ'.own E nx) (RP:=lB KP Δ'.own E nx) ?_ (fun _ _ h=>h.GV) (fun _ _ h=>h.GV);have hle:=aQ.le_trans hle' Δ'.agt;have hs:=hs'.aqh;have htl:Δ'.own.tail=[]:=rfl;generalize Δ'.own=Δ at hle hs htl ⊢;unfold wq at h;have hkΔ:kl<Δ.wB:=Nat.lt_of_lt_of_le hkl hle.nx;have hEl: ∀ E':Nat->Nat,(∀ k,k<Δ.wB->E' k=Δ.E0 k)->E' kl=l:=fun E' hE'=>(hE' kl hkΔ).trans ((hle.e kl hkl).trans hl);split at h
 ·rename_i R' hk hlen;obtain⟨hR,h⟩:=h;have hR:R'=R:=hR;subst hR;have hlen:R'.params.toList.length=args.length:=Nat.eq_of_beq_eq_true hlen;have hE:E kl=l:=hEl E hs.cx.2;obtain⟨o,ho,hb⟩:=hs.qD kl _ hk rfl;have hb:o=.loop {R' with state:=.ready,pending:=none}:=hb;subst hb;rw[hE] at ho;have hrun:(sr.sem E (.yield kl) (SV.vals E args).toArray).run P w=.ok (.round l R'.fn ((R'.params.zip (SV.vals E args).toArray).foldl (fun tmps (t,a)=>tmps.setIfInBounds t a) R'.tmps) R'.assign R'.body) w:=by simp only[sr.sem,hE];exact run_yield (r:={R' with state:=.ready,pending:=none}) ho (by simpa [SV.bA] using hlen.symm)
  rw[hrun];simp only[Out];have hE1: ∀ k,k<kl->E k=E1 k:=fun k hk=>(hs.cx.2 k (Nat.lt_trans hk hkΔ)).trans ((hle.e k (Nat.lt_trans hk hkl)).trans (h1 k hk));have hnx:kl<=nx:=Nat.le_of_lt (Nat.lt_of_lt_of_le hkΔ hs.cx.1);have hsat:Sat Δ E ⟨yJ R'.params.toList args tmps0,m,nx⟩ ⟨(R'.params.zip (SV.vals E args).toArray).foldl (fun tmps (t,a)=>tmps.setIfInBounds t a) R'.tmps,[]⟩ w:=by refine⟨?_,UX (m4 hnx hw) hargs,Marks.nil _ _ htl,hs⟩;have:=UW (ps:=R'.params.toList) (vs:=args) (ht.congr hw hE1);rw[← Array.foldl_toList,Array.toList_zip];exact this
  refine roundIn_of_wpIn (F:=Fence.wide) trivial (wpIn_mono (ia Δ hle _ _ E _ w h hsat) ?_);rintro e a1 w1 (⟨ex,rfl,E2,st1,g1,g2,g3,g4⟩ | hp)
  rotate_left
  ·exact hp.none.elim
  cases ex with
  | exit id=>exact g4.elim
  | ret=>exact g4.elim
  | normal =>
    simp only[Ex.to,Exit.then]
    simp only at g4;split at g4
    ·rename_i pe R1 hk1;have hE2:E2 kl=l:=hEl E2 g3.mm.cx.2;obtain⟨o1,ho1,hb1⟩:=g3.mm.qD kl _ hk1 rfl;have hb1:o1=.loop {R1 with state:=.ready,pending:=pe}:=hb1;subst hb1;rw[hE2] at ho1;refine⟨_,run_beginRound ho1 rfl,?_⟩;have hm2:=g3.mm.QA (st':=.busy) (pe':=pe) hk1;rw[hE2] at hm2;have hsat2:Sat Δ E2 ⟨st1.tmps,st1.m.put kl (.loop .busy pe R1),st1.nx⟩ a1 (w1.putObj l (.loop {R1 with state:=.busy,pending:=pe})):=by
      refine⟨g3.tm,g3.wt,?_,hm2⟩;obtain⟨Ds,d1,d2,d3,d4⟩:=g3.df;refine⟨Ds,d1,d2,fun D hD=>⟨?_,(d3 D hD).2⟩,d4⟩;have hne:D≠l:=fun e=>by have:=(d3 D hD).1;rw[e,ho1] at this;cases this
      rw[World.putObj_heap_other hne];exact(d3 D hD).1
     refine wpIn_mono (ib Δ hle _ _ E2 _ _ g4 hsat2) ?_;rintro e a2 w2 (⟨ex,rfl,E3,st2,q1,q2,q3,q4⟩ | hp)
     rotate_left
     ·exact hp.none.elim
     simp only at q4;split at q4
     ·rename_i s2 pe2 R2 hk2;have hE3:E3 kl=l:=hEl E3 q3.mm.cx.2;obtain⟨o2,ho2,hb2⟩:=q3.mm.qD kl _ hk2 rfl;have hb2:o2=.loop {R2 with state:=s2,pending:=pe2}:=hb2;subst hb2;rw[hE3] at ho2;have hEE: ∀ k,k<nx->E3 k=E k:=fun k hk=>(q1 k (Nat.lt_of_lt_of_le hk g2)).trans (g1 k hk);have hnn:nx<=st2.nx:=Nat.le_trans g2 q2
      have fin: ∀(j:Option Code),(p4 nx (.bool true j.isNone) (st2.m.put kl (.loop (if j.isNone then .ready else .done) j R2)) st2.nx K).holds ->
        ∃ v w',(Instr.endRound l j).run P w2=.ok v w'/\∃ u,Ending.returned v=.returned u/\aV (lift K) Δ E nx u w':=by
       intro j hh;refine⟨_,_,run_endRound j ho2,_,rfl,?_⟩;have hm3:=q3.mm.QA (st':=if j.isNone then .ready else .done) (pe':=j) hk2
       rw[hE3] at hm3;exact vU (v:=.bool true j.isNone) hh hm3 hs.cx.1 hEE hnn
      cases ex with
      | normal=>exact fin none q4
      | exit id=>exact fin (some (.exit id)) q4
      | ret=>exact fin (some .ret) q4
     ·exact q4.elim
    ·exact g4.elim
 ·exact h.elim
theorem DS {kl:Nat}{R:Loop}{ps:List Nat}{tmps0:List (Option SV)}{fa fb:XK->St->VC}(ia: ∀(K K':XK) st,(∀ e st',(K e st').holds->(K' e st').holds)->(fa K st).holds->(fa K' st).holds)
  (ib: ∀(K K':XK) st,(∀ e st',(K e st').holds->(K' e st').holds)->(fb K st).holds->(fb K' st).holds):aJ (wq kl R ps tmps0 fa fb):=by
 intro args m nx K K' hK h;unfold wq at h ⊢;split at h
 ·refine⟨h.1,ia _ _ _ (fun e st1 h1=> ?_) h.2⟩;cases e with
  | exit id=>exact h1
  | ret=>exact h1
  | normal =>
    simp only at h1 ⊢;split at h1
    ·refine ib _ _ _ (fun e st2 h2=> ?_) h1;split at h2
     ·cases e<;>exact uQ hK h2
     ·exact h2
    ·exact h1
 ·exact h
theorem aG.enter {E:Nat->Nat}{m:Mem}{nx:Nat}{w:World}(h:aG Γ E m nx w)(hw:Mem.wf nx m=true){R:Loop}(hR:R.state=.ready)(hp:R.pending=none){Ds:List Nat}(hD: ∀ D∈ Ds,w.heap[D]?=some (Obj.deferred (some []))) :
  ∃ Δ:aQ,Γ.le Δ/\(∀ D,D∈ w.heap.size::(Ds++Γ.keep)->D∈ Δ.keep)/\Δ.wB=nx+1/\Δ.E0=(fun k=>if k=nx then w.heap.size+1 else E k) /\
    aG Δ Δ.E0 ((nx,.loop .ready none R)::m) (nx+1) ((w.alloc (Obj.deferred (some []))).alloc (.loop R)):=by
 have hE: ∀ k,k<nx->(fun k=>if k=nx then w.heap.size+1 else E k) k=E k:=fun k hk=>by simp[Nat.ne_of_lt hk]
 refine⟨{Γ with wB:=nx+1,E0:=fun k=>if k=nx then w.heap.size+1 else E k,keep:=w.heap.size::(Ds++Γ.keep)},⟨rfl,rfl,Nat.le_succ_of_le h.cx.1,fun k hk=> ?_,fun D hD=>List.mem_cons_of_mem _ (List.mem_append_right _ hD)⟩,
  fun D hD=>hD,rfl,rfl,?_⟩
 ·exact(hE k (Nat.lt_of_lt_of_le hk h.cx.1)).trans (h.cx.2 k hk)
 ·have hm1:aG {Γ with keep:=w.heap.size::(Ds++Γ.keep)} E m nx (w.alloc (Obj.deferred (some []))):=by
   have hold: ∀ i,i<w.heap.size->(w.alloc (Obj.deferred (some []))).heap[i]?=w.heap[i]?:=fun i hi=>by show(w.heap.push _)[i]?=_;rw[Array.getElem?_push,if_neg (by omega)]
   refine⟨fun k B a hk hn=> ?_,h.j9,h.lt,h.lE,⟨h.ext.os,h.ext.tape,h.ext.output,?_,fun k hk hm=> ?_⟩,h.cx,fun D hD2=> ?_⟩
   ·obtain⟨o,ho,hb⟩:=h.jK k B a hk hn;exact⟨o,by rw[hold _ (Array.getElem?_eq_some_iff.1 ho).1];exact ho,hb⟩
   ·have:=h.ext.size;show _<=(w.heap.push _).size;simp;omega
   ·rw[hold k (Nat.lt_of_lt_of_le hk h.ext.size)];exact h.ext.block k hk hm
   ·have hold2: ∀ D,w.heap[D]?=some (Obj.deferred (some []))->(w.alloc (Obj.deferred (some []))).heap[D]?=some (Obj.deferred (some [])):=fun D hd=>by rw[hold D (Array.getElem?_eq_some_iff.1 hd).1];exact hd
    rcases List.mem_cons.1 hD2 with e | hD2
    ·subst e;show(w.heap.push _)[w.heap.size]?=_;simp
    ·rcases List.mem_append.1 hD2 with h1 | h1
     ·exact hold2 D (hD D h1)
     ·exact hold2 D (h.kp D h1)
  have hsz:(w.alloc (Obj.deferred (some []))).heap.size=w.heap.size+1:=by show(w.heap.push _).size=_;simp
  have hm2:=hm1.alloc hw (B:=.loop .ready none R) (o:=.loop R) (by show Obj.loop R=.loop {R with state:=.ready,pending:=none};rw[← hR,← hp])
  rw[hsz] at hm2;exact⟨hm2.jK,hm2.j9,hm2.lt,hm2.lE,hm2.ext,⟨Nat.le_refl _,fun k hk=>rfl⟩,hm2.kp⟩
theorem aG.leave {E:Nat->Nat}{m:Mem}{nx:Nat}{w:World}(h:aG Γ E m nx w){k:Nat}{st st':LoopState}{pe pe':Option Code}{R:Loop}(hk:m.get k=some (.loop st pe R)) :
  aG Γ E (m.drop k) nx (w.putObj (E k) (.loop {R with state:=st',pending:=pe'})):=by
 refine(h.QA (st':=st') (pe':=pe') hk).sub (fun j B hj=> ?_) (fun j B hj=>h.lt j B (Mem.hG hj).2) (.inl (Nat.le_refl _));obtain⟨hne,hj⟩:=Mem.hG hj;rw[Mem.Wd hne];exact hj
end
theorem mZ {P:Program}{b:Frame}{a:Act}{k:List Item}{cs:List Frame}{w:World}{c:Code}:step P (lone (b.atR a (.code (.scope c)::k)) cs w)=.next (lone (b.atR a (.code c::.inScope c::k)) cs w) :=step_lone_go (by simp[Go.stepG,Go.stepG.exec,Frame.atR])
theorem LS {P:Program}{b:Frame}{a:Act}{k:List Item}{cs:List Frame}{w:World}{c:Code}:step P (lone (b.atR a (.inScope c::k)) cs w)=.next (lone (b.atR a k) cs w) :=step_lone_go (by simp[Go.stepG,Go.stepG.exec,Frame.atR])
theorem z7 {F:Fence}{n:Nat}{P:Program}{Q:Exit->Act->World->Prop}{a:Act}{w:World}{c:Code}(h:c.wpIn F n P (Exit.noGoto Q) a w):(Code.scope c).wpIn F n P Q a w:=by
 intro b k cs hro hb hr;have h0:(lone (b.atR a (.code (.scope c)::k)) cs w).fenced P F:=fenced_calm hb hr rfl;obtain⟨e,a₁,w₁,hq,harr⟩:=h b (.inScope c::k) cs hro hb hr;cases e with
 | normal=>exact⟨.normal,a₁,w₁,hq,.head h0 mZ (StepsIn.trans harr (.one (fenced_calm hb hr rfl) LS))⟩
 | exit id =>
   have hx:exitTo id (.inScope c::k)=exitTo id k:=by simp[exitTo]
   exact⟨.exit id,a₁,w₁,hq,fun k' hk=>.head h0 mZ (harr.1 k' (by rw[hx];exact hk)),
    fun hr' hk=>let ⟨k₁,h1,h2⟩:=harr.2 hr' (by rw[hx];exact hk);⟨k₁,h1,.head h0 mZ h2⟩⟩
 | goto l=>exact hq.elim
 | ret=>exact⟨_,a₁,w₁,hq,.of_steps (.one h0 mZ) harr⟩
 | panic ch=>exact⟨_,a₁,w₁,hq,.of_steps (.one h0 mZ) harr⟩
 | outgrown=>exact⟨_,a₁,w₁,hq,.of_steps (.one h0 mZ) harr⟩
end
end Go.Proofs.YtpaaiebohjjieaaGreatDoor.Sx
