/- A part of the proof. -/
import Derived.Test.YtoibaecagklkaaaGreatDoorMf
import Derived.RangeFuncRecord
import Derived.Scope
open Bool renaming and_eq_true->O,false->J,true->G
open Go.Obj renaming deferred->M
open List renaming getElem?_set->Z,mem_cons->T
open Nat renaming beq->L,blt->I,blt_eq->S,le_add_right->ag,le_refl->V,le_trans->W,lt_of_lt_of_le->N,lt_trans->a_
open Option renaming none->H,some->C
namespace Go.Proofs.YtoibaecagklkaaaGreatDoor
open Go Sx
variable {a:Act}{c:Code}{e:Exit}{R:Loop}{m m':Mem}{base k1 kh n nx nx':Nat}{E':Nat->Nat}{P:Program}{K:SV->Mem->Nat->VC}{w:World}{Γ:b5}
namespace Sx
open Go
noncomputable section
structure aN where
 α:Type
 pre:St->α->Prop
 nF:St->α->Nat
 fresh:Nat
 slots:St->α->List (Nat×SV)
 mem:St->α->List (Nat×SB)
 drop:St->List Nat:=λ_=>[]
 gh:St->List Gh:=λ_=>[]
def written:Code->List Nat
 | .region _ ops _=>ops.toList.filterMap (·.dst)
 | .seq a b=>written a++written b
 | .cond _ a b=>written a++written b
 | .block _ b=>written b
 | .loop b=>written b
 | .scope b=>written b
 | .rangeFunc _ _ a b=>written a++written b
 | _=>[]
def forget (l:List Nat)(tmps:List (Option SV)):List (Option SV):=match l with
 | []=>tmps
 | i::r=>forget r (tmps.set i H)
def ua (l:List (Nat×SV))(tmps:List (Option SV)):List (Option SV):=match l with
 | []=>tmps
 | (i,v)::r=>ua r (tmps.set i (C v))
theorem aa.cells {cs cs':List SV}{tot tot':Nat}{ty:TypeId}(h: ∀ E,cs'.map (SV.val E)=cs.map (SV.val E))(ht:tot'=tot):aa (.cells cs tot ty) (.cells cs' tot' ty):=by
 subst ht;refine aa.of rfl rfl λ_=>⟨rfl,λE o ⟨c,fr,h1,h2,h3,h4⟩=>⟨c,fr,h1,h2,λi v hv=> ?_,h4⟩,id⟩
 have he:=h E;have:(cs'.map (SV.val E))[i]?=C (v.val E):=by grind
 grind
theorem aa.SA {d:h_->Bool}{c:iO}{clock:Nat}(hd: ∀ s,d s=J):aa (.map [] clock) (.fmap d c H):=by obtain rfl:d=λ_=>false:=funext hd;exact aa.of rfl rfl λ_=>⟨rfl,λ_ _ h=>⟨#[],clock,h,JJ.nil c clock⟩,id⟩
theorem aa.fmap {d d':h_->Bool}{c c':iO}{p:Option (h_×Int)}(hd: ∀ s,d s=d' s)(hc: ∀ s,c.val s=c'.val s):aa (.fmap d c p) (.fmap d' c' H):=by obtain rfl:=funext hd;exact aa.of rfl rfl λ_=>⟨rfl,λ_ _ ⟨es,cl,h,h1,h2,h3,h4,_⟩=>⟨es,cl,h,h1,h2,(by grind),h4,λ_ _ h=>by cases h⟩,id⟩
abbrev Ren:=List (Nat×Nat)
def Ren.get (k:Nat):Ren->Option Nat
 | []=>H
 | e::r=>if e.1=k then C e.2 else Ren.get k r
def iV (base:Nat)(aW:Ren)(kh k1:Nat)(t:Ren->VC):VC :=
 match I kh base with
 | true=>if kh=k1 then t aW else .fail "loop: another block"
 | false=>(match aW.get kh with
   | some k=>if k=k1 then t aW else .fail "loop: two blocks for one"
   | none=>t ((kh,k1)::aW))
def zeq (z z':Bool)(n:Nat):VC:=match z,z' with
 | true,G=>.tt
 | false,J=>.tt
 | _,_=>.atom (0<n)
theorem Xu {z z':Bool}(h:(zeq z z' n).holds):(z&&L n 0)=(z'&&L n 0):=by
 have h0:0<n->L n 0=false:=λh=>by cases n with
  | zero=>omega
  | succ n=>rfl
 cases z<;>cases z'<;>simp only[zeq] at h
 ·rfl
 ·have:=h0 h;simp[this]
 ·have:=h0 h;simp[this]
 ·rfl
def sg (base:Nat):List SV->List SV->Ren->(Ren->VC)->VC
 | [],[],aW,t=>t aW
 | .ptr kh _ o::hs,.ptr k1 _ o'::us,aW,t=>iV base aW kh k1 (λaW=>.and (sU o' o) (sg base hs us aW t))
 | _,_,_,_=>.fail "loop: what a function has captured"
def uD (base:Nat)(aW:Ren)(h u:SV)(t:Ren->VC):VC :=
 match h,u with
 | .int a _ n,.int b _ m=>if a=b then .and (sU m n) (t aW)else .fail "loop: kinds"
 | .bool _ a,.bool _ b=>.and (sU b a) (t aW)
 | .str _ a,.str _ b=>.and (sU b a) (t aW)
 | .eJ,.eJ=>t aW
 | .bW,.bW=>t aW
 | .mo,.mo=>t aW
 | .cj,.cj=>t aW
 | .lE,.lE=>t aW
 | .ptr kh _ o,.ptr k1 _ o'=>iV base aW kh k1 (λaW=>.and (sU o' o) (t aW))
 | .uI kh w i k,.uI k1 w' i' k'=>if w=w'/\k=k' then iV base aW kh k1 (λaW=>.and (sU i' i) (t aW))else .fail "loop: rows"
 | .slc kh o n _ c,.slc k1 o' n' _ c'=>iV base aW kh k1 (λaW=>.and (.and (sU o' o) (.and (sU n' n) (sU c' c))) (t aW))
 | .bY kh w z i n c,.bY k1 w' z' i' n' c'=>if w=w' then iV base aW kh k1 (λaW=>.and (.and (sU i' i) (.and (sU n' n) (sU c' c))) (.and (zeq z z' n) (t aW)))else .fail "loop: rows"
 | .bY kh w z i n c,.slc k1 o' n' _ c'=>iV base aW kh k1 (λaW=>.and (.and (sU o' (i*w)) (.and (sU n' n) (sU c' c))) (.and (zeq z J n) (t aW)))
 | .bY _ _ G _ n _,.bW=>.and (sU n 0) (t aW)
 | .slc kh o n _ c,.bY k1 w z i n' c'=>iV base aW kh k1 (λaW=>.and (.and (sU (i*w) o) (.and (sU n' n) (sU c' c))) (.and (zeq z J n') (t aW)))
 | .cT kh w z o i n c,.cT k1 w' z' o' i' n' c'=>if w=w' then iV base aW kh k1 (λaW=>.and (.and (sU z' z) (.and (sU o' o) (.and (sU i' i) (.and (sU n' n) (sU c' c))))) (t aW))else .fail "loop: rows"
 | .cT kh w z o i n c,.slc k1 o' n' _ c'=>iV base aW kh k1 (λaW=>.and (.and (sU o' (o+i*w)) (.and (sU n' n) (sU c' c))) (.and (sU (J&&L n 0) (z&&L n 0)) (t aW)))
 | .cT kh w z o i n c,.bY k1 w' z' i' n' c'=>if w=w' then iV base aW kh k1 (λaW=>.and (.and (sU (i'*w) (o+i*w)) (.and (sU n' n) (sU c' c))) (.and (sU (z'&&L n 0) (z&&L n 0)) (t aW)))else .fail "loop: rows"
 | .iface a (.ptr kh _ o),.iface b (.ptr k1 _ o')=>if a=b then iV base aW kh k1 (λaW=>.and (sU o' o) (t aW))else .fail "loop: another type"
 | .func (.func f) a b,.func (.func g) a' b'=>if f=g then sg base a a' aW (λaW=>sg base b b' aW t)else .fail "loop: another function"
 | .map kh,.map k1=>iV base aW kh k1 t
 | .l7 kh a o,.l7 k1 a' o'=>iV base aW kh k1 (λaW=>.and (sU a' a) (.and (sU o' o) (t aW)))
 | .iP kh w z a i n c,.iP k1 w' z' a' i' n' c'=>if w=w'/\z=z' then iV base aW kh k1 (λaW=>.and (sU a' a) (.and (sU i' i) (.and (sU n' n) (.and (sU c' c) (t aW)))))else .fail "loop: rows"
 | .raw v,.raw v'=>.and (sU v' v) (t aW)
 | h,u=>(match h.wf 0&&u.wf 0 with
   | true=>.and (.eqv (∀ E,u.val E=h.val E) (∀ E,u.val E=u.val E) (λ_=>rfl)) (t aW)
   | false=>.fail "loop: another value")
def o7 (base:Nat):List SV->List SV->Ren->(Ren->VC)->VC
 | [],[],aW,t=>t aW
 | h::hs,u::us,aW,t=>uD base aW h u (λaW=>o7 base hs us aW t)
 | _,_,_,_=>.fail "loop: lengths"
def DQ (base:Nat)(aW:Ren)(h u:SV)(t:Ren->VC):VC :=
 match h,u with
 | .agg a,.agg b=>o7 base a b aW t
 | .dr a,.dr b=>o7 base a b aW t
 | .iface a v,.iface b v'=>if a=b then(match v,v' with
    | .agg c,.agg d=>o7 base c d aW t
    | v,v'=>uD base aW v v' t)else .fail "loop: another type"
 | h,u=>uD base aW h u t
def EN (base:Nat):List (Nat×SV)->List (Option SV)->Ren->(Ren->VC)->VC
 | [],_,aW,t=>t aW
 | (i,h)::r,tmps,aW,t=>match slot tmps i with
   | some u=>DQ base aW h u (λaW=>EN base r tmps aW t)
   | none=>.fail "loop: a slot that is not known"
def iK (base:Nat)(aW:Ren)(kh:Nat):Option Nat:=match I kh base with
 | true=>C kh
 | false=>aW.get kh
def OU (base:Nat)(m:Mem)(kh k1:Nat)(aW:Ren):Ren:=match I kh base,aW.get kh,m.get k1 with
 | false,H,C B=>(match B.ry with
   | true=>(kh,k1)::aW
   | false=>aW)
 | _,_,_=>aW
def qG (base:Nat)(m:Mem):List bh->List bh->Ren->Ren
 | .ref kh _::r',.ref k1 _::r,aW=>qG base m r' r (OU base m kh k1 aW)
 | .iP kh _ _ _ _ _::r',.iP k1 _ _ _ _ _::r,aW=>qG base m r' r (OU base m kh k1 aW)
 | _::r',_::r,aW=>qG base m r' r aW
 | _,_,aW=>aW
def OT (base:Nat)(m:Mem)(B' B:SB)(aW:Ren):Ren:=match B',B with
 | .rows _ _ c' _ _ _,.rows _ _ c _ _ _=>qG base m c' c aW
 | .sy _ c' _ _ _,.sy _ c _ _ _=>qG base m c' c aW
 | .ni _ _ c' _,.ni _ _ c _=>qG base m (c'.map (fW.at 0)) (c.map (fW.at 0)) aW
 | .fmap _ (.ref kh _) _,.fmap _ (.ref k1 _) _=>OU base m kh k1 aW
 | _,_=>aW
def leA (B B':SB):VC:=.eqv (aa B B') (aa B B) (aa.refl B)
def kT (base:Nat)(m:Mem):List (Nat×SB)->List Nat->Ren->(Ren->VC)->VC
 | [],_,aW,t=>t aW
 | (kh,B')::r,used,aW,t=>match iK base aW kh with
   | some k1=>if used.contains k1 then .fail "loop: one block for two" else(match m.get k1 with
     | some B=>(match B'.wf base with
       | true=>.and (leA B B') (kT base m r (k1::used) (OT base m B' B aW) t)
       | false=>(match B',B with
         | .cells cs' tot' ty',.cells cs tot ty=>if ty'=ty then .and (sU tot' tot) (o7 base cs' cs aW (λaW=>kT base m r (k1::used) aW t))else .fail "loop: a block's type"
         | _,_=>.fail "loop: a block that names blocks"))
     | none=>.fail "loop: no such block")
   | none=>(match B'.wf base with
      | true=>(match B'.ry with
        | false=>.and (.atom (B'.no=G)) (kT base m r used aW t)
        | true=>.and (.atom (∀ a,¬ B'.nc 0 a)) (kT base m r used aW t))
      | false=>.fail "loop: a block that names blocks")
def Ren.E (base:Nat)(aW:Ren)(E:Nat->Nat)(k:Nat):Nat:=match iK base aW k with
 | some k1=>E k1
 | none=>E k
def Ren.le (a b:Ren):Prop:=∀ k v,a.get k=C v->b.get k=C v
theorem Ren.le_refl (a:Ren):a.le a:=λ_ _ h=>h
theorem Ren.le_trans {a b c:Ren}(h:a.le b)(h':b.le c):a.le c:=λk v x=>h' k v (h k v x)
theorem Ren.Lr {aW:Ren}{E:Nat->Nat}{k:Nat}(h:k<base):Ren.E base aW E k=E k:=by grind [S,I,Ren.E,iK]
theorem eH {aW:Ren}{t:Ren->VC}(h:(iV base aW kh k1 t).holds) :
  ∃ ren',aW.le ren'/\(t ren').holds/\∀ ren'' (E:Nat->Nat),ren'.le ren''->Ren.E base ren'' E kh=E k1:=by
 unfold iV at h;split at h
 ·rename_i hb;split at h
  ·grind [Ren.le_refl,Ren.Lr,S]
  ·exact h.elim
 ·rename_i hb;split at h
  ·rename_i k hk;split at h
   ·rename_i e;subst e;exact⟨aW,Ren.le_refl _,h,λren'' E hle=>by simp[Ren.E,iK,hb,hle _ _ hk]⟩
   ·exact h.elim
  ·rename_i hk;refine⟨(kh,k1)::aW,λk v hv=> ?_,h,λren'' E hle=> ?_⟩
   ·by_cases e:kh=k
    ·grind
    ·simp only[Ren.get,e,if_false];exact hv
   ·have:=hle kh k1 (by simp[Ren.get])
    grind [Ren.E,iK]
theorem DP {base:Nat}: ∀ {hs us:List SV} {aW:Ren} {t:Ren->VC},(sg base hs us aW t).holds->
  ∃ ren',aW.le ren'/\(t ren').holds/\∀ ren'' (E:Nat->Nat),ren'.le ren''->SV.vals (Ren.E base ren'' E) hs=SV.vals E us
 | hs,us,aW,t,hh=>by
   unfold sg at hh;split at hh
   ·exact⟨aW,Ren.le_refl _,hh,λ_ _ _=>rfl⟩
   ·obtain⟨r1,h1,h2,h3⟩:=eH hh;obtain⟨r2,g1,g2,g3⟩:=DP h2.2;refine⟨r2,Ren.le_trans h1 g1,g2,λr'' E hle=> ?_⟩;have e:_=_:=h2.1;simp only[SV.vals,SV.val,h3 r'' E (Ren.le_trans g1 hle),g3 r'' E hle,e]
   ·exact hh.elim
theorem xx {aW:Ren}{h u:SV}{t:Ren->VC}(hh:(uD base aW h u t).holds) :
  ∃ ren',aW.le ren'/\(t ren').holds/\∀ ren'' (E:Nat->Nat),ren'.le ren''->h.val (Ren.E base ren'' E)=u.val E:=by
 unfold uD at hh;split at hh
 ·split at hh
  ·rename_i e;subst e;exact⟨aW,Ren.le_refl _,hh.2,λ_ _ _=>by have:_=_:=hh.1;grind [SV.val]⟩
  ·exact hh.elim
 ·exact⟨aW,Ren.le_refl _,hh.2,λ_ _ _=>by have:_=_:=hh.1;grind [SV.val]⟩
 ·exact⟨aW,Ren.le_refl _,hh.2,λ_ _ _=>by have:_=_:=hh.1;grind [SV.val]⟩
 ·exact⟨aW,Ren.le_refl _,hh,λ_ _ _=>rfl⟩
 ·exact⟨aW,Ren.le_refl _,hh,λ_ _ _=>rfl⟩
 ·exact⟨aW,Ren.le_refl _,hh,λ_ _ _=>rfl⟩
 ·exact⟨aW,Ren.le_refl _,hh,λ_ _ _=>rfl⟩
 ·exact⟨aW,Ren.le_refl _,hh,λ_ _ _=>rfl⟩
 ·obtain⟨r',h1,h2,h3⟩:=eH hh;exact⟨r',h1,h2.2,λr'' E hle=>by have:_=_:=h2.1;grind [SV.val]⟩
 ·split at hh
  ·rename_i e;obtain⟨rfl,rfl⟩:=e;obtain⟨r',h1,h2,h3⟩:=eH hh;exact⟨r',h1,h2.2,λr'' E hle=>by have:_=_:=h2.1;grind [SV.val]⟩
  ·exact hh.elim
 ·obtain⟨r',h1,h2,h3⟩:=eH hh;exact⟨r',h1,h2.2,λr'' E hle=>by obtain⟨a,b,c⟩:=h2.1;have a:_=_:=a;have b:_=_:=b;have c:_=_:=c;grind [SV.val]⟩
 ·split at hh
  ·rename_i e;subst e;obtain⟨r',h1,h2,h3⟩:=eH hh;exact⟨r',h1,h2.2.2,λr'' E hle=>by obtain⟨a,b,c⟩:=h2.1;have a:_=_:=a;have b:_=_:=b;have c:_=_:=c;have hz:=Xu h2.2.1;grind [SV.val]⟩
  ·exact hh.elim
 ·obtain⟨r',h1,h2,h3⟩:=eH hh;exact⟨r',h1,h2.2.2,λr'' E hle=>by obtain⟨a,b,c⟩:=h2.1;have a:_=_:=a;have b:_=_:=b;have c:_=_:=c;have hz:=Xu h2.2.1;grind [SV.val]⟩
 ·exact⟨aW,Ren.le_refl _,hh.2,λ_ _ _=>by have:_=_:=hh.1;simp[SV.val,this]⟩
 ·obtain⟨r',h1,h2,h3⟩:=eH hh;exact⟨r',h1,h2.2.2,λr'' E hle=>by obtain⟨a,b,c⟩:=h2.1;have a:_=_:=a;have b:_=_:=b;have c:_=_:=c;have hz:=Xu h2.2.1;grind [SV.val]⟩
 ·split at hh
  ·rename_i e;subst e;obtain⟨r',h1,h2,h3⟩:=eH hh;exact⟨r',h1,h2.2,λr'' E hle=>by obtain⟨a,b,c,d,e⟩:=h2.1;have a:_=_:=a;have b:_=_:=b;have c:_=_:=c;have d:_=_:=d;have e:_=_:=e;grind [SV.val]⟩
  ·exact hh.elim
 ·obtain⟨r',h1,h2,h3⟩:=eH hh;exact⟨r',h1,h2.2.2,λr'' E hle=>by obtain⟨a,b,c⟩:=h2.1;have a:_=_:=a;have b:_=_:=b;have c:_=_:=c;have hz:_=_:=h2.2.1;grind [SV.val]⟩
 ·split at hh
  ·rename_i e;subst e;obtain⟨r',h1,h2,h3⟩:=eH hh;exact⟨r',h1,h2.2.2,λr'' E hle=>by obtain⟨a,b,c⟩:=h2.1;have a:_=_:=a;have b:_=_:=b;have c:_=_:=c;have hz:_=_:=h2.2.1;grind [SV.val]⟩
  ·exact hh.elim
 ·split at hh
  ·rename_i e;subst e;obtain⟨r',h1,h2,h3⟩:=eH hh;exact⟨r',h1,h2.2,λr'' E hle=>by have:_=_:=h2.1;grind [SV.val]⟩
  ·exact hh.elim
 ·split at hh
  ·grind [DP,Ren.le_trans,SV.val]
  ·exact hh.elim
 ·grind [eH,SV.val]
 ·obtain⟨r',h1,⟨a,b,h2⟩,_⟩:=eH hh;exact⟨r',h1,h2,λr'' E hle=>by have a:_=_:=a;have b:_=_:=b;grind [SV.val]⟩
 ·split at hh
  ·rename_i e;obtain⟨rfl,rfl⟩:=e;obtain⟨r',h1,⟨a,b,c,d,h2⟩,_⟩:=eH hh;exact⟨r',h1,h2,λr'' E hle=>by have a:_=_:=a;have b:_=_:=b;have c:_=_:=c;have d:_=_:=d;grind [SV.val]⟩
  ·exact hh.elim
 ·exact⟨aW,Ren.le_refl _,hh.2,λ_ _ _=>by have:_=_:=hh.1;grind [SV.val]⟩
 ·split at hh
  ·rename_i hw;simp only[O] at hw;refine⟨aW,Ren.le_refl _,hh.2,λren'' E _=> ?_⟩;have h1: ∀ E,SV.val E _=SV.val E _:=hh.1;rw[h1 E];exact SV.val_congr (nx:=0) (by omega) _ hw.1
  ·exact hh.elim
theorem nw {base:Nat}: ∀ {hs us:List SV} {aW:Ren} {t:Ren->VC},(o7 base hs us aW t).holds->
  ∃ ren',aW.le ren'/\(t ren').holds/\∀ ren'' (E:Nat->Nat),ren'.le ren''->SV.vals (Ren.E base ren'' E) hs=SV.vals E us
 | [],[],aW,t,h=>⟨aW,Ren.le_refl _,h,λ_ _ _=>rfl⟩
 | h::hs,u::us,aW,t,hh=>by simp only[o7] at hh;obtain⟨r1,h1,h2,h3⟩:=xx hh;obtain⟨r2,g1,g2,g3⟩:=nw h2;exact⟨r2,Ren.le_trans h1 g1,g2,λr'' E hle=>by simp only[SV.vals];rw[h3 r'' E (Ren.le_trans g1 hle),g3 r'' E hle]⟩
 | [],_::_,_,_,h=>h.elim
 | _::_,[],_,_,h=>h.elim
theorem Bb {aW:Ren}{h u:SV}{t:Ren->VC}(hh:(DQ base aW h u t).holds) :
  ∃ ren',aW.le ren'/\(t ren').holds/\∀ ren'' (E:Nat->Nat),ren'.le ren''->h.val (Ren.E base ren'' E)=u.val E:=by
 unfold DQ at hh;split at hh
 ·grind [nw,SV.val]
 ·grind [nw,SV.val]
 ·split at hh
  ·grind [nw,xx,SV.val]
  ·exact hh.elim
 ·exact xx hh
theorem B4 {base:Nat}: ∀ {l:List (Nat×SV)} {tmps:List (Option SV)} {aW:Ren} {t:Ren->VC},(EN base l tmps aW t).holds->
  ∃ ren',aW.le ren'/\(t ren').holds/\∀ ren'' (E:Nat->Nat),ren'.le ren''->∀ i h,(i,h)∈ l->∃ u,slot tmps i=C u/\h.val (Ren.E base ren'' E)=u.val E
 | [],_,aW,t,h=>⟨aW,Ren.le_refl _,h,λ_ _ _ i h hm=>by cases hm⟩
 | (i,x)::r,tmps,aW,t,hh=>by
   simp only[EN] at hh;split at hh
   ·rename_i u hu;obtain⟨r1,h1,h2,h3⟩:=Bb hh;obtain⟨r2,g1,g2,g3⟩:=B4 h2;refine⟨r2,Ren.le_trans h1 g1,g2,λr'' E hle j h hm=> ?_⟩;rw[T] at hm;rcases hm with hm | hm
    ·injection hm with e1 e2;subst e1;subst e2;exact⟨u,hu,h3 r'' E (Ren.le_trans g1 hle)⟩
    ·exact g3 r'' E hle j h hm
   ·exact hh.elim
theorem DL {aW ren':Ren}(h:aW.le ren')(hk:iK base aW kh=C k1):iK base ren' kh=C k1:=by
 unfold iK at hk ⊢;split at hk
 ·exact hk
 ·exact h _ _ hk
theorem Km {aW:Ren}:aW.le (OU base m kh k1 aW):=by
 unfold OU;split
 ·rename_i hn _;split
  ·intro k v hv;by_cases e:kh=k
   ·grind
   ·simp only[Ren.get,e,if_false];exact hv
  ·exact Ren.le_refl _
 ·exact Ren.le_refl _
theorem vv {base:Nat}{m:Mem}: ∀ {a b:List bh} {aW:Ren},aW.le (qG base m a b aW)
 | a,b,aW=>by
   unfold qG;split
   ·exact Ren.le_trans Km vv
   ·exact Ren.le_trans Km vv
   ·exact vv
   ·exact Ren.le_refl _
theorem YZ {B' B:SB}{aW:Ren}:aW.le (OT base m B' B aW):=by
 unfold OT
 grind [vv,Km,Ren.le_refl]
def GZ (base:Nat)(m:Mem)(used:List Nat)(aW:Ren)(kh:Nat)(B':SB):Prop :=∀ b a,B'.nc b a->∃ k1 B,iK base aW kh=C k1/\k1∉ used/\m.get k1=C B/\B.nc b a/\(∀ E o,cq E (B.el a) o->cq (Ren.E base aW E) (B'.el a) o)/\(B'.ro=J->B.ro=J)
theorem lW {base:Nat}{m:Mem}: ∀ {l:List (Nat×SB)} {used:List Nat} {aW:Ren} {t:Ren->VC},(kT base m l used aW t).holds->
  ∃ ren',aW.le ren'/\(t ren').holds/\∀ ren'',ren'.le ren''->(∀ kh B',Mem.get kh l=C B'->GZ base m used ren'' kh B')/\
    (∀ kh kh' B B' k1,Mem.get kh l=C B->(∃ b a,B.nc b a)->Mem.get kh' l=C B'->(∃ b a,B'.nc b a)->iK base ren'' kh=C k1->iK base ren'' kh'=C k1->kh=kh')
 | [],_,aW,t,h=>⟨aW,Ren.le_refl _,h,λ_ _=>⟨(λ_ _ h=>by cases h),(λ_ _ _ _ _ h=>by cases h)⟩⟩
 | (k0,B0)::r,used,aW,t,hh=>by
   simp only[kT] at hh;split at hh
   ·rename_i k1 hk1;split at hh
    ·exact hh.elim
    ·rename_i hnu;have hnu:k1∉ used:=by grind
     split at hh
     ·rename_i B hB
      have key: ∀ {ren1:Ren},aW.le ren1->(∀ ren'',ren1.le ren''->GZ base m used ren'' k0 B0)->(kT base m r (k1::used) ren1 t).holds->
        ∃ ren',aW.le ren'/\(t ren').holds/\∀ ren'',ren'.le ren''->(∀ kh B',Mem.get kh ((k0,B0)::r)=C B'->GZ base m used ren'' kh B')/\
          (∀ kh kh' B B' k1,Mem.get kh ((k0,B0)::r)=C B->(∃ b a,B.nc b a)->Mem.get kh' ((k0,B0)::r)=C B'->(∃ b a,B'.nc b a)->iK base ren'' kh=C k1->iK base ren'' kh'=C k1->kh=kh'):=by
       intro ren1 hle1 h0 hr;obtain⟨ren2,hle2,ht,g⟩:=lW hr;refine⟨ren2,Ren.le_trans hle1 hle2,ht,λren'' hle=> ?_⟩;obtain⟨g2,g3⟩:=g ren'' hle;have hk1'':iK base ren'' k0=C k1:=(by grind [DL,Ren.le_trans])
       refine⟨λkh B' hg=> ?_,λkh kh' X X' q hg hn hg' hn' hq hq'=> ?_⟩
       ·rcases Mem.nq hg with ⟨rfl,rfl⟩ | ⟨_,hg⟩
        ·grind [Ren.le_trans]
        grind [Sx.GZ]
       ·rcases Mem.nq hg with ⟨e1,_⟩ | ⟨_,hgr⟩<;>rcases Mem.nq hg' with ⟨e2,_⟩ | ⟨_,hgr'⟩
        ·omega
        ·subst e1;rw[hk1''] at hq;injection hq with hq;subst hq;obtain⟨b,a,hn'⟩:=hn';obtain⟨q2,Y,h1,h2,_⟩:=g2 kh' X' hgr' b a hn'
         grind
        ·subst e2;rw[hk1''] at hq';injection hq' with hq';subst hq';obtain⟨b,a,hn⟩:=hn;obtain⟨q2,Y,h1,h2,_⟩:=g2 kh X hgr b a hn
         grind
        grind
      split at hh
      ·rename_i hwf;have hle:aa B B0:=hh.1;refine key YZ (λren'' hl b0 a0 hn=> ?_) hh.2;obtain⟨a,b,c⟩:=hle.2 b0 a0 hn;exact⟨k1,B,DL (Ren.le_trans YZ hl) hk1,hnu,hB,a,λE o ho=>(b E o ho).congr (by grind [Ren.Lr]) (SB.agl hwf a0),c⟩
      ·split at hh
       ·rename_i cs' tot' ty' cs tot ty _;split at hh
        ·rename_i hty;obtain⟨htot,hh⟩:=hh;have htot:tot'=tot:=htot;obtain⟨ren1,hle1,hr,hv⟩:=nw hh;refine key hle1 (λren'' hl b0 a0 hn=>⟨k1,_,(by grind [DL,Ren.le_trans]),hnu,hB,hn,λE o ho=> ?_,id⟩) hr;obtain⟨c,fr,h1,h2,h3,h4⟩:=ho;refine⟨c,fr,by grind,h2,λi v hvi=> ?_,by omega⟩;have hvv:=hv ren'' E hl;rw[SV.cF,SV.cF] at hvv;have:(cs'.map (SV.val (Ren.E base ren'' E)))[i]?=C (v.val (Ren.E base ren'' E)):=by grind
         grind
        ·exact hh.elim
       ·exact hh.elim
     ·exact hh.elim
   ·split at hh
    ·have hh:(∀ b a,¬ B0.nc b a)/\(kT base m r used aW t).holds:=by
      cases hF:B0.ry with
      | true=>rw[hF] at hh;exact⟨λb a ha=>hh.1 a (SB.avk hF ha),hh.2⟩
      | false =>
        rw[hF] at hh;refine⟨λb a ha=> ?_,hh.2⟩;have h1:B0.no=true:=hh.1
        grind [SB.tL]
     obtain⟨ren2,hle2,ht,g⟩:=lW hh.2;have hno:=hh.1;refine⟨ren2,hle2,ht,λren'' hle=> ?_⟩;obtain⟨g2,g3⟩:=g ren'' hle;refine⟨λkh B' hg=> ?_,λkh kh' X X' q hg hn hg' hn' hq hq'=> ?_⟩
     ·rcases Mem.nq hg with ⟨rfl,rfl⟩ | ⟨_,hg⟩
      ·grind [Sx.GZ]
      grind
     grind [Mem.nq]
    ·exact hh.elim
def axC:SV->Option Nat
 | .ptr k _ _=>C k
 | .uI k _ _ _=>C k
 | .Aq k _ _ _=>C k
 | .slc k _ _ _ _=>C k
 | .bY k _ _ _ _ _=>C k
 | .map k=>C k
 | .yield k=>C k
 | .l7 k _ _=>C k
 | .iP k _ _ _ _ _ _=>C k
 | _=>H
def dropKeys (base:Nat)(tmps:List (Option SV)):List (Nat×SV)->List Nat
 | []=>[]
 | (i,h)::r=>match axC h with
   | some kh=>(match I kh base with
     | true=>dropKeys base tmps r
     | false=>(match slot tmps i with
       | some u=>(match axC u with
         | some k1=>k1::dropKeys base tmps r
         | none=>dropKeys base tmps r)
       | none=>dropKeys base tmps r))
   | none=>dropKeys base tmps r
def tK (ks:List Nat):Mem->Mem
 | []=>[]
 | e::r=>match ks.contains e.1 with
   | true=>tK ks r
   | false=>e::tK ks r
def aN.apv (A:aN)(st:St)(x:A.α):Mem :=A.mem st x++tK ((A.mem st x).map (·.1)++(dropKeys st.nx st.tmps (A.slots st x)++A.drop st)) st.m
def hd (body:Code)(A:aN)(st:St)(x:A.α):St :=⟨ua (A.slots st x) (forget (written body) st.tmps),A.apv st x,st.nx+A.fresh⟩
def Ck (body:Code)(A:aN)(st:St)(x:A.α):Bool :=(A.slots st x).all (λp=>(written body).contains p.1&&p.2.wf (st.nx+A.fresh))&&(A.apv st x).all (λp=>I p.1 (st.nx+A.fresh))
def F5 (body:Code)(A:aN)(st:St)(y:A.α)(st1:St):VC :=
 match Ck body A st y with
 | true=>ghs (A.gh st1) st1.tmps st1.m (λtmps m=>EN st.nx (A.slots st y) tmps [] (λaW=>kT st.nx m (A.apv st y) [] aW (λ_=>.tt)))
 | false=>.fail "loop: the annotation"
theorem yw: ∀ {l:List Nat} {tmps:List (Option SV)},(forget l tmps).length=tmps.length
 | [],_=>rfl
 | i::r,tmps=>by simp[forget,yw (l:=r)]
theorem uL: ∀ {l:List (Nat×SV)} {tmps:List (Option SV)},(ua l tmps).length=tmps.length
 | [],_=>rfl
 | (i,v)::r,tmps=>by simp[ua,uL (l:=r)]
theorem Ge: ∀ {l:List Nat} {tmps:List (Option SV)} {i:Nat} {v:SV},(forget l tmps)[i]?=C (C v)->tmps[i]?=C (C v)/\i∉ l
 | [],_,_,_,h=>⟨h,by simp⟩
 | j::r,tmps,i,v,h=>by
   simp only[forget] at h;have:=Ge h;rw[Z] at this;split at this
   ·rename_i e;subst e;split at this
    ·simp at this
    ·simp at this
   ·rename_i e;refine⟨this.1,?_⟩;rw[T];rintro(h1 | h1)
    ·exact e h1.symm
    ·exact this.2 h1
theorem SC: ∀ {l:List Nat} {tmps:List (Option SV)} {i:Nat},i∉ l->(forget l tmps)[i]?=tmps[i]?
 | [],_,_,_=>rfl
 | j::r,tmps,i,h=>by rw[T] at h;simp only[forget];rw[SC (by grind),Z,p_ (by omega)]
theorem AU: ∀ {l:List (Nat×SV)} {tmps:List (Option SV)} {i:Nat} {v:SV},(ua l tmps)[i]?=C (C v)->(i,v)∈ l∨(tmps[i]?=C (C v)/\∀ u,(i,u)∉ l)
 | [],_,_,_,h=>.inr ⟨h,λ_ h=>by cases h⟩
 | (j,x)::r,tmps,i,v,h=>by
   simp only[ua] at h;rcases AU h with h | ⟨h',hn⟩
   ·grind
   grind
theorem LO: ∀ {l:List (Nat×SV)} {tmps:List (Option SV)} {i:Nat},(∀ u,(i,u)∉ l)->(ua l tmps)[i]?=tmps[i]?
 | [],_,_,_=>rfl
 | (j,x)::r,tmps,i,h=>by simp only[ua];rw[LO (by grind),Z,p_ (by grind)]
theorem EY {nx:Nat}: ∀ {l:List (Option SV)},(∀(i:Nat) (v:SV),l[i]?=C (C v)->v.wf nx=G)->iA nx l=G
 | [],_=>rfl
 | none::r,h=>EY (l:=r) λi v hv=>h (i+1) v (by simpa using hv)
 | some x::r,h=>by simp only[iA,O];exact⟨h 0 x rfl,EY λi v hv=>h (i+1) v (by simpa using hv)⟩
theorem Ar {body:Code}{A:aN}{st st1:St}{y:A.α}(h:(F5 body A st y st1).holds){E:Nat->Nat}
  (hnx:Γ.E9<=st.nx) (hwt:iA st.nx st.tmps=G) (hkeep: ∀ i,i∉ written body->st1.tmps[i]?=st.tmps[i]?) (hlen:st1.tmps.length=st.tmps.length) (hs:Sat Γ E st1 a w) :
  ∃ E',(∀ k,k<st.nx->E' k=E k)/\Sat Γ E' (hd body A st y) a w:=by
 unfold F5 at h;split at h
 ·rename_i hok;simp only[Ck,O,List.all_eq_true,S,List.contains_iff_mem] at hok;obtain⟨tmps',m',htold,hsm,h⟩:=zk h hs.mm;obtain⟨ren1,_,h1,h2⟩:=B4 h;obtain⟨aW,hle,_,h34⟩:=lW h1;obtain⟨h3,h4⟩:=h34 aW (Ren.le_refl _);have hold: ∀ k,k<st.nx->Ren.E st.nx aW E k=E k:=λk hk=>Ren.Lr hk;refine⟨Ren.E st.nx aW E,hold,⟨⟨by simp[hd,uL,yw,hs.tm.size,hlen],λi v hv=> ?_⟩,EY λi v hv=> ?_,hs.df,?_⟩⟩
  ·rcases AU hv with hm | ⟨hv,_⟩
   ·obtain⟨u,hu,hval⟩:=h2 aW E hle i v hm;obtain⟨v0,q1,q2,_⟩:=htold.get i u (yf hu);rw[hval,q2];exact hs.tm.val i v0 q1
   ·obtain⟨hv,hn⟩:=Ge hv;have:=hs.tm.val i v (by grind);rw[SV.val_congr hold v (tE hwt hv)];exact this
  ·rcases AU hv with hm | ⟨hv,_⟩
   ·grind [Sx.hd]
   ·obtain⟨hv,hn⟩:=Ge hv;exact SV.pz (ag _ _) v (tE hwt hv)
  ·have hE: ∀ kh k1,iK st.nx aW kh=C k1->Ren.E st.nx aW E kh=E k1:=(by grind [Ren.E])
   refine⟨λkh B' a hg hn=> ?_,λkh kh' B B' a hg hn hg' hn' hr=> ?_,λkh B' hg=> ?_,λkh B' a hg hn hro=> ?_,hsm.ext,⟨W hnx (ag _ _),λk hk=>(hold k (N hk hnx)).trans (hsm.cx.2 k hk)⟩,hsm.kp⟩
   ·obtain⟨k1,B,g1,_,g3,g5,g6,_⟩:=h3 kh B' hg _ a hn;rw[hE kh k1 g1] at g5;obtain⟨o,ho,hb⟩:=hsm.p7 k1 B a g3 g5
    grind
   ·obtain⟨k1,X,g1,_,g3,g5,_,g7⟩:=h3 kh B hg _ a hn;obtain⟨k1',X',g1',_,g3',g5',_,g7'⟩:=h3 kh' B' hg' _ a hn';rw[hE kh k1 g1] at g5;rw[hE kh' k1' g1'] at g5';have:=hsm.qq k1 k1' X X' a g3 g5 g3' g5' (hr.imp g7 g7');subst this;exact h4 kh kh' B B' k1 hg ⟨_,_,hn⟩ hg' ⟨_,_,hn'⟩ g1 g1'
   ·have: ∀(l:List (Nat×SB)),(∀ p∈ l,p.1<st.nx+A.fresh)->Mem.get kh l=C B'->kh<st.nx+A.fresh:=by
     intro l;induction l with
     | nil=>intro _ h;cases h
     | cons e r ih =>
       intro ha hg;by_cases e1:e.1=kh
       ·grind
       ·simp only[Mem.get,e1,if_false] at hg
        grind
    grind [Sx.hd]
   ·obtain⟨k1,B,g1,_,g3,g5,_,g7⟩:=h3 kh B' hg _ a hn;rw[hE kh k1 g1] at g5;exact hsm.rq k1 B a g3 g5 (g7 hro)
 ·exact h.elim
def older (nx:Nat):Mem->Mem
 | []=>[]
 | e::r=>match I e.1 nx with
   | true=>e::older nx r
   | false=>older nx r
def ada (nx:Nat):Mem->Bool
 | []=>G
 | e::r=>match e.2 with
   | .fmap _ (.ref k _) _=>I k nx&&ada nx r
   | _=>ada nx r
def I7 (nx:Nat)(v:SV)(m':Mem)(nx':Nat)(K:SV->Mem->Nat->VC):VC :=
 match v.wf nx&&(Mem.wf nx (older nx m')&&ada nx (older nx m'))with
 | true=>K v (older nx m') nx
 | false=>K v m' nx'
theorem vP {nx:Nat}: ∀ {m:Mem} {k:Nat} {B:SB},(older nx m).get k=C B->m.get k=C B/\k<nx
 | [],_,_,h=>by cases h
 | e::r,k,B,h=>by
   simp only[older] at h;cases hb:I e.1 nx with
   | true =>
     rw[hb] at h;simp only at h;by_cases he:e.1=k
     ·rw[Mem.get,o_ he] at h ⊢;exact⟨h,by rw[← he];simpa [S] using hb⟩
     ·rw[Mem.get,p_ he] at h ⊢;exact vP h
   | false =>
     rw[hb] at h;have:=vP h;refine⟨?_,this.2⟩;rw[Mem.get,p_ (λe1=> ?_)]
     ·exact this.1
     ·have h2:=this.2;have h3: ¬ (e.1<nx):=by
       intro hlt;have h4:I e.1 nx=true:=by rw[S];exact hlt
       rw[h4] at hb;cases hb
      omega
theorem GL {v:SV}{E:Nat->Nat}(h:(I7 nx v m' nx' K).holds)(hs:bp Γ E' m' nx' w)
  (hg:Γ.E9<=nx) (hE: ∀ k,k<nx->E' k=E k) (hn:nx<=nx'):cn (lift K) Γ E nx (v.val E') w:=by
 unfold I7 at h;split at h
 ·rename_i hw;simp only[O] at hw;exact⟨E',C v,older nx m',nx,hE,V _,λu hu=>by injection hu with hu;subst hu;rfl,hs.sub (λk B hk=>(vP hk).1) (λk B hk=>(vP hk).2) (.inr hg),h⟩
 ·exact⟨E',C v,m',nx',hE,hn,λu hu=>by injection hu with hu;subst hu;rfl,hs,h⟩
theorem EK {v:SV}{K':SV->Mem->Nat->VC}(hK: ∀ v m nx,(K v m nx).holds->(K' v m nx).holds)(h:(I7 nx v m' nx' K).holds):(I7 nx v m' nx' K').holds:=by
 unfold I7 at h ⊢;split at h
 ·exact hK _ _ _ h
 ·exact hK _ _ _ h
mutual
def SV.refs:SV->List Nat->List Nat
 | .ptr key _ _,l=>key::l
 | .uI key _ _ _,l=>key::l
 | .Aq key _ _ _,l=>key::l
 | .slc key _ _ _ _,l=>key::l
 | .bY key _ _ _ _ _,l=>key::l
 | .cT key _ _ _ _ _ _,l=>key::l
 | .qi key _ _ _ _,l=>key::l
 | .map key,l=>key::l
 | .yield key,l=>key::l
 | .l7 key _ _,l=>key::l
 | .iP key _ _ _ _ _ _,l=>key::l
 | .yp key _ _ _ _,l=>key::l
 | .agg cs,l=>SV.Uu cs l
 | .dr vs,l=>SV.Uu vs l
 | .iface _ v,l=>v.refs l
 | .func _ a b,l=>SV.Uu a (SV.Uu b l)
 | _,l=>l
def SV.Uu:List SV->List Nat->List Nat
 | [],l=>l
 | x::r,l=>x.refs (SV.Uu r l)
end
def an3:List (Nat×SV×SV)->List Nat->List Nat
 | [],l=>l
 | e::r,l=>e.2.1.refs (e.2.2.refs (an3 r l))
def Ay:List bh->List Nat->List Nat
 | [],l=>l
 | .ref key _::r,l=>key::Ay r l
 | .iP key _ _ _ _ _::r,l=>key::Ay r l
 | _::r,l=>Ay r l
def SB.refs:SB->List Nat->List Nat
 | .cells cs _ _,l=>SV.Uu cs l
 | .map es _,l=>an3 es l
 | .mit (C k) _ _ _,l=>k::l
 | .rows _ _ ay _ _ _,l=>Ay ay l
 | .view _ _ _ ay,l=>Ay ay l
 | .sy _ cs _ _ _,l=>Ay cs l
 | .ni _ _ ay _,l=>Ay (ay.map (fW.at 0)) l
 | .fmap _ (.ref k _) _,l=>k::l
 | _,l=>l
def NF (nx:Nat):Mem->List Nat->List Nat
 | [],l=>l
 | e::r,l=>match I e.1 nx,e.2 with
   | true,B=>B.refs (NF nx r l)
   | false,.loop .. =>e.1::NF nx r l
   | false,_=>NF nx r l
def azf (k:Nat):List Nat->Bool
 | []=>J
 | x::r=>match L x k with
   | true=>G
   | false=>azf k r
def WU:Nat->List Nat->List Nat->Mem->List Nat
 | 0,_,seen,_=>seen
 | _+1,[],seen,_=>seen
 | f+1,k::r,seen,m=>match azf k seen with
   | true=>WU f r seen m
   | false=>(match m.get k with
     | some B=>WU f (B.refs r) (k::seen) m
     | none=>WU f r seen m)
def OJ (p:Nat->Bool):Mem->Mem
 | []=>[]
 | e::r=>match p e.1 with
   | true=>e::OJ p r
   | false=>OJ p r
def axD (nx:Nat)(v:SV)(m:Mem):Mem :=
 let live:=WU 100000 (v.refs (NF nx m [])) [] m
 OJ (λk=>match I k nx with
  | true=>G
  | false=>azf k live) m
theorem Em {p:Nat->Bool}: ∀ {m:Mem} {k:Nat} {B:SB},(OJ p m).get k=C B->m.get k=C B
 | [],_,_,h=>by cases h
 | e::r,k,B,h=>by
   simp only[OJ] at h;cases hp:p e.1 with
   | true =>
     rw[hp] at h;simp only at h;by_cases he:e.1=k
     ·rw[Mem.get,o_ he] at h ⊢;exact h
     ·rw[Mem.get,p_ he] at h ⊢;exact Em h
   | false =>
     rw[hp] at h;have hk:p k=true:=by
      clear hp;have: ∀ {m:Mem},(OJ p m).get k=C B->p k=true:=by
       intro m;induction m with
       | nil=>intro h;cases h
       | cons e r ih =>
         intro h;simp only[OJ] at h;cases hp:p e.1 with
         | true =>
           rw[hp] at h;simp only at h;by_cases he:e.1=k
           ·rw[← he];exact hp
           ·rw[Mem.get,p_ he] at h;exact ih h
         | false=>rw[hp] at h;exact ih h
      exact this h
     have he: ¬ e.1=k:=λhe=>by rw[he,hk] at hp;cases hp
     rw[Mem.get,p_ he];exact Em h
def ar9 (g:Bool)(nx:Nat)(v:SV)(m':Mem)(nx':Nat)(K:SV->Mem->Nat->VC):VC:=match g with
 | false=>I7 nx v m' nx' K
 | true=>I7 nx v (axD nx v m') nx' K
theorem bp.aBG {v:SV}{E:Nat->Nat}(hs:bp Γ E m' nx' w):bp Γ E (axD nx v m') nx' w :=hs.sub (λ_ _ h=>Em h) (λ_ _ h=>hs.lt _ _ (Em h)) (.inl (V _))
theorem ae3 {g:Bool}{v:SV}{E:Nat->Nat}(h:(ar9 g nx v m' nx' K).holds)(hs:bp Γ E' m' nx' w)
  (hg:Γ.E9<=nx) (hE: ∀ k,k<nx->E' k=E k) (hn:nx<=nx'):cn (lift K) Γ E nx (v.val E') w:=by
 cases g with
 | false=>exact GL h hs hg hE hn
 | true=>exact GL h hs.aBG hg hE hn
theorem Uy {g:Bool}{v:SV}{K':SV->Mem->Nat->VC}(hK: ∀ v m nx,(K v m nx).holds->(K' v m nx).holds)(h:(ar9 g nx v m' nx' K).holds):(ar9 g nx v m' nx' K').holds:=by
 cases g with
 | false=>exact EK hK h
 | true=>exact EK hK h
inductive Ex where
 | normal
 | exit (id:Nat)
 | ret
def Ex.to:Ex->Exit
 | .normal=>.normal
 | .exit id=>.exit id
 | .ret=>.ret
def Ex.jump:Ex->Option Code
 | .normal=>H
 | .exit id=>C (.exit id)
 | .ret=>C .ret
abbrev XK:=Ex->St->VC
abbrev XP:=SV->St->VC
def Ws:XP:=λ_ _=>.fail "a panic"
def Ny:PK:=λ_ _ _=>.fail "a panic"
def yV (X:XP)(Γ:b5)(E:Nat->Nat)(nx:Nat)(e:Exit)(a:Act)(w:World):Prop :=∃ v E' st',e=.panic [{v:=SV.val E' v,recovered:=J}]/\v.wf st'.nx=G/\(∀ k,k<nx->E' k=E k)/\nx<=st'.nx/\Sat Γ E' st' a w/\(X v st').holds
def tF (K:XK)(X:XP)(Γ:b5)(E:Nat->Nat)(nx:Nat)(e:Exit)(a:Act)(w:World):Prop :=(∃ ex:Ex,e=ex.to/\qn (K ex) Γ E nx a w)∨yV X Γ E nx e a w
theorem yV.weaken {X:XP}{E:Nat->Nat}(h:yV X Γ E' nx' e a w)(hE: ∀ k,k<nx->E' k=E k)(hn:nx<=nx') :
  yV X Γ E nx e a w:=by
 obtain⟨v,E'',st'',k0,kw,k1,k2,k3,k4⟩:=h;exact⟨v,E'',st'',k0,kw,λk hk=>(k1 k (N hk hn)).trans (hE k hk),W hn k2,k3,k4⟩
theorem tF.weaken {K:XK}{X:XP}{E:Nat->Nat}(h:tF K X Γ E' nx' e a w)(hE: ∀ k,k<nx->E' k=E k)(hn:nx<=nx') :
  tF K X Γ E nx e a w:=by
 rcases h with ⟨ex,he,E'',st'',k1,k2,k3,k4⟩ | h
 ·exact .inl ⟨ex,he,E'',st'',λk hk=>(k1 k (N hk hn)).trans (hE k hk),W hn k2,k3,k4⟩
 ·exact .inr (h.weaken hE hn)
theorem yV.none {E:Nat->Nat}(h:yV Ws Γ E nx e a w):False:=by obtain⟨_,_,_,_,_,_,_,_,h⟩:=h;exact h.elim
theorem Mem.pz {k:Nat}(h:n<=k): ∀ {m:Mem},Mem.wf n m=G->Mem.wf k m=G
 | [],_=>rfl
 | e::r,hm=>by simp only[Mem.wf,O] at hm ⊢;exact⟨SB.pz h hm.1,Mem.pz h hm.2⟩
def DS:List Nat->List SV->List (Option SV)->List (Option SV)
 | p::ps,v::vs,t=>DS ps vs (t.set p (C v))
 | _,_,t=>t
theorem abt {E:Nat->Nat}{ds:List Deferred}: ∀ {ps:List Nat} {vs:List SV} {tmps:List (Option SV)} {ts:Array Value},gj E tmps ⟨ts,ds⟩ ->
  gj E (DS ps vs tmps) ⟨(ps.zip (SV.vals E vs)).foldl (λt (p,v)=>t.setIfInBounds p v) ts,ds⟩
 | [],vs,tmps,ts,h=>by simpa [DS] using h
 | p::ps,[],tmps,ts,h=>by simpa [DS,SV.vals] using h
 | p::ps,v::vs,tmps,ts,h=>by simp only[DS,SV.vals,List.zip_cons_cons,List.foldl_cons];refine abt ?_;have:=h.put (dst:=C p) (sv:=C v) (r:=v.val E) (λu hu=>by injection hu with hu;subst hu;rfl);exact this
theorem abu {nx:Nat}: ∀ {ps:List Nat} {vs:List SV} {tmps:List (Option SV)},iA nx tmps=G->SV.lY nx vs=G->iA nx (DS ps vs tmps)=G
 | [],vs,tmps,h,_=>by simpa [DS] using h
 | p::ps,[],tmps,h,_=>by simpa [DS] using h
 | p::ps,v::vs,tmps,h,hv=>by simp only[SV.lY,O] at hv;simp only[DS];exact abu (Bo h (λu hu=>by injection hu with hu;subst hu;exact hv.1)) hv.2
def Br (kl:Nat)(R:Loop)(ps:List Nat)(tmps0:List (Option SV))(fa fb:XK->St->VC):PT:=λargs m nx K =>
 match m.get kl,L ps.length args.length with
 | some (.loop .ready H R'),G=>.and (sU R' R) (fa (λe st1=>match e with
    | .normal=>(match st1.m.get kl with
      | some (.loop .ready pe R1)=>fb (λe st2=>match st2.m.get kl with
         | some (.loop _ _ R2)=>(match e with
           | .normal=>I7 nx (.bool G G) (st2.m.put kl (.loop .ready H R2)) st2.nx K
           | .exit id=>I7 nx (.bool G J) (st2.m.put kl (.loop .done (C (.exit id)) R2)) st2.nx K
           | .ret=>I7 nx (.bool G J) (st2.m.put kl (.loop .done (C .ret) R2)) st2.nx K)
         | _=>.fail "yield: the record") ⟨st1.tmps,st1.m.put kl (.loop .busy pe R1),st1.nx⟩
      | _=>.fail "yield: the record")
    | _=>.fail "yield: a jump out of an assignment") ⟨DS ps args tmps0,m,nx⟩)
 | _,_=>.fail "yield: the record"
section
variable {P : Program} {Γ : b5}
theorem bp.WG {E:Nat->Nat}(h:bp Γ E m nx w){k:Nat}{st st':LoopState}{pe pe':Option Code}(hk:m.get k=C (.loop st pe R)) :
  bp Γ E (m.put k (.loop st' pe' R)) nx (w.putObj (E k) (.loop {R with state:=st',pending:=pe'})) :=
 h.write hk rfl rfl rfl rfl
theorem afI {kl l:Nat}{tmps0:List (Option SV)}{fa fb:XK->St->VC}{E1:Nat->Nat}(hkl:kl<Γ.E9)(hl:Γ.E0 kl=l)(h1: ∀ k,k<kl->Γ.E0 k=E1 k)
  (ht:gj E1 tmps0 ⟨R.tmps,[]⟩) (hw:iA kl tmps0=G)
  (ia: ∀ Δ,Γ.le Δ->∀ K st E a w,(fa K st).holds->Sat Δ E st a w->R.assign.wpIn (Fr (C l)) 0 P (tF K Ws Δ E st.nx) a w)
  (ib: ∀ Δ,Γ.le Δ->∀ K st E a w,(fb K st).holds->Sat Δ E st a w->R.body.wpIn (Fr (C l)) 0 P (tF K Ws Δ E st.nx) a w) (KP:PK) :
  Ao P Γ KP (.yield kl) (Br kl R R.params.toList tmps0 fa fb):=by
 intro Δ' hle' args m nx K h hwf hargs E w hs';refine Out.mono (R:=cn (lift K) Δ'.own E nx) (RP:=sN KP Δ'.own E nx) ?_ (λ_ _ h=>h.MP) (λ_ _ h=>h.MP);have hle:=b5.le_trans hle' Δ'.apU;have hs:=hs'.aBB;have htl:Δ'.own.tail=[]:=rfl;generalize Δ'.own=Δ at hle hs htl ⊢;unfold Br at h;have hkΔ:kl<Δ.E9:=N hkl hle.nx;have hEl: ∀ E':Nat->Nat,(∀ k,k<Δ.E9->E' k=Δ.E0 k)->E' kl=l:=λE' hE'=>(hE' kl hkΔ).trans ((hle.e kl hkl).trans hl);split at h
 ·rename_i R' hk hlen;obtain⟨hR,h⟩:=h;have hR:R'=R:=hR;subst hR;have hlen:R'.params.toList.length=args.length:=Nat.eq_of_beq_eq_true hlen;have hE:E kl=l:=hEl E hs.cx.2;obtain⟨o,ho,hb⟩:=hs.yZ kl _ hk rfl;have hb:o=.loop {R' with state:=.ready,pending:=H}:=hb;subst hb;rw[hE] at ho;have hrun:(yW.sem E (.yield kl) (SV.vals E args).toArray).run P w=.ok (.round l R'.fn ((R'.params.zip (SV.vals E args).toArray).foldl (λtmps (t,a)=>tmps.setIfInBounds t a) R'.tmps) R'.assign R'.body) w:=by simp only[yW.sem,hE];exact run_yield (r:={R' with state:=.ready,pending:=H}) ho (by simpa [SV.cF] using hlen.symm)
  rw[hrun];simp only[Out];have hE1: ∀ k,k<kl->E k=E1 k:=λk hk=>(hs.cx.2 k (a_ hk hkΔ)).trans ((hle.e k (a_ hk hkl)).trans (h1 k hk));have hnx:kl<=nx:=Nat.le_of_lt (N hkΔ hs.cx.1);have hsat:Sat Δ E ⟨DS R'.params.toList args tmps0,m,nx⟩ ⟨(R'.params.zip (SV.vals E args).toArray).foldl (λtmps (t,a)=>tmps.setIfInBounds t a) R'.tmps,[]⟩ w:=by refine⟨?_,abu (qY hnx hw) hargs,Marks.nil _ _ htl,hs⟩;have:=abt (ps:=R'.params.toList) (vs:=args) (ht.congr hw hE1);rw[← Array.foldl_toList,Array.toList_zip];exact this
  refine roundIn_of_wpIn (F:=Fence.wide) trivial (wpIn_mono (ia Δ hle _ _ E _ w h hsat) ?_);rintro e a1 w1 (⟨ex,rfl,E2,st1,g1,g2,g3,g4⟩ | hp)
  rotate_left
  ·exact hp.none.elim
  cases ex with
  | exit id=>exact g4.elim
  | ret=>exact g4.elim
  | normal =>
    simp only[Ex.to,Exit.then]
    simp only at g4;split at g4
    ·rename_i pe R1 hk1;have hE2:E2 kl=l:=hEl E2 g3.mm.cx.2;obtain⟨o1,ho1,hb1⟩:=g3.mm.yZ kl _ hk1 rfl;have hb1:o1=.loop {R1 with state:=.ready,pending:=pe}:=hb1;subst hb1;rw[hE2] at ho1;refine⟨_,run_beginRound ho1 rfl,?_⟩;have hm2:=g3.mm.WG (st':=.busy) (pe':=pe) hk1;rw[hE2] at hm2;have hsat2:Sat Δ E2 ⟨st1.tmps,st1.m.put kl (.loop .busy pe R1),st1.nx⟩ a1 (w1.putObj l (.loop {R1 with state:=.busy,pending:=pe})):=by
      refine⟨g3.tm,g3.wt,?_,hm2⟩;obtain⟨Ds,d1,d2,d3,d4⟩:=g3.df;refine⟨Ds,d1,d2,λD hD=>⟨?_,(d3 D hD).2⟩,d4⟩;have hne:D≠l:=λe=>by have:=(d3 D hD).1;rw[e,ho1] at this;cases this
      rw[World.putObj_heap_other hne];exact(d3 D hD).1
     refine wpIn_mono (ib Δ hle _ _ E2 _ _ g4 hsat2) ?_;rintro e a2 w2 (⟨ex,rfl,E3,st2,q1,q2,q3,q4⟩ | hp)
     rotate_left
     ·exact hp.none.elim
     simp only at q4;split at q4
     ·rename_i s2 pe2 R2 hk2;have hE3:E3 kl=l:=hEl E3 q3.mm.cx.2;obtain⟨o2,ho2,hb2⟩:=q3.mm.yZ kl _ hk2 rfl;have hb2:o2=.loop {R2 with state:=s2,pending:=pe2}:=hb2;subst hb2;rw[hE3] at ho2;have hEE: ∀ k,k<nx->E3 k=E k:=λk hk=>(q1 k (N hk g2)).trans (g1 k hk);have hnn:nx<=st2.nx:=W g2 q2
      have fin: ∀(j:Option Code),(I7 nx (.bool G j.isNone) (st2.m.put kl (.loop (if j.isNone then .ready else .done) j R2)) st2.nx K).holds->
        ∃ v w',(Instr.endRound l j).run P w2=.ok v w'/\∃ u,Ending.returned v=.returned u/\cn (lift K) Δ E nx u w':=by
       intro j hh;refine⟨_,_,run_endRound j ho2,_,rfl,?_⟩;have hm3:=q3.mm.WG (st':=if j.isNone then .ready else .done) (pe':=j) hk2
       rw[hE3] at hm3;exact GL (v:=.bool G j.isNone) hh hm3 hs.cx.1 hEE hnn
      cases ex with
      | normal=>exact fin H q4
      | exit id=>exact fin (C (.exit id)) q4
      | ret=>exact fin (C .ret) q4
     ·exact q4.elim
    ·exact g4.elim
 ·exact h.elim
theorem JF {kl:Nat}{ps:List Nat}{tmps0:List (Option SV)}{fa fb:XK->St->VC}(ia: ∀(K K':XK) st,(∀ e st',(K e st').holds->(K' e st').holds)->(fa K st).holds->(fa K' st).holds)
  (ib: ∀(K K':XK) st,(∀ e st',(K e st').holds->(K' e st').holds)->(fb K st).holds->(fb K' st).holds):bC (Br kl R ps tmps0 fa fb):=by
 intro args m nx K K' hK h;unfold Br at h ⊢;split at h
 ·refine⟨h.1,ia _ _ _ (λe st1 h1=> ?_) h.2⟩;cases e with
  | exit id=>exact h1
  | ret=>exact h1
  | normal =>
    simp only at h1 ⊢;split at h1
    ·refine ib _ _ _ (λe st2 h2=> ?_) h1;split at h2
     ·cases e<;>exact EK hK h2
     ·exact h2
    ·exact h1
 ·exact h
theorem bp.enter {E:Nat->Nat}(h:bp Γ E m nx w)(hw:Mem.wf nx m=G)(hR:R.state=.ready)(hp:R.pending=H){Ds:List Nat}(hD: ∀ D∈ Ds,w.heap[D]?=C (M (C []))) :
  ∃ Δ:b5,Γ.le Δ/\(∀ D,D∈ w.heap.size::(Ds++Γ.keep)->D∈ Δ.keep)/\Δ.E9=nx+1/\Δ.E0=(λk=>if k=nx then w.heap.size+1 else E k)/\
    bp Δ Δ.E0 ((nx,.loop .ready H R)::m) (nx+1) ((w.alloc (M (C []))).alloc (.loop R)):=by
 have hE: ∀ k,k<nx->(λk=>if k=nx then w.heap.size+1 else E k) k=E k:=λk hk=>by simp[Nat.ne_of_lt hk]
 refine⟨{Γ with E9:=nx+1,E0:=λk=>if k=nx then w.heap.size+1 else E k,keep:=w.heap.size::(Ds++Γ.keep)},⟨rfl,rfl,Nat.le_succ_of_le h.cx.1,λk hk=> ?_,λD hD=>List.mem_cons_of_mem _ (List.mem_append_right _ hD)⟩,
  λD hD=>hD,rfl,rfl,?_⟩
 ·exact(hE k (N hk h.cx.1)).trans (h.cx.2 k hk)
 ·have hm1:bp {Γ with keep:=w.heap.size::(Ds++Γ.keep)} E m nx (w.alloc (M (C []))):=by
   have hold: ∀ i,i<w.heap.size->(w.alloc (M (C []))).heap[i]?=w.heap[i]?:=λi hi=>by show(w.heap.push _)[i]?=_;rw[Array.getElem?_push,p_ (by omega)]
   refine⟨λk B a hk hn=> ?_,h.qq,h.lt,h.rq,⟨h.ext.os,h.ext.tape,h.ext.output,?_,λk hk hm=> ?_⟩,h.cx,λD hD2=> ?_⟩
   ·obtain⟨o,ho,hb⟩:=h.p7 k B a hk hn;exact⟨o,by rw[hold _ (Array.getElem?_eq_some_iff.1 ho).1];exact ho,hb⟩
   ·have:=h.ext.size;show _<=(w.heap.push _).size;simp;omega
   ·rw[hold k (N hk h.ext.size)];exact h.ext.block k hk hm
   ·have hold2: ∀ D,w.heap[D]?=C (M (C []))->(w.alloc (M (C []))).heap[D]?=C (M (C [])):=λD hd=>by rw[hold D (Array.getElem?_eq_some_iff.1 hd).1];exact hd
    rcases T.1 hD2 with e | hD2
    ·subst e;show(w.heap.push _)[w.heap.size]?=_;simp
    ·rcases List.mem_append.1 hD2 with h1 | h1
     ·exact hold2 D (hD D h1)
     ·exact hold2 D (h.kp D h1)
  have hsz:(w.alloc (M (C []))).heap.size=w.heap.size+1:=by show(w.heap.push _).size=_;simp
  have hm2:=hm1.alloc hw (B:=.loop .ready H R) (o:=.loop R) (by show Obj.loop R=.loop {R with state:=.ready,pending:=H};rw[← hR,← hp])
  rw[hsz] at hm2;exact⟨hm2.p7,hm2.qq,hm2.lt,hm2.rq,hm2.ext,⟨V _,λk hk=>rfl⟩,hm2.kp⟩
theorem bp.leave {E:Nat->Nat}(h:bp Γ E m nx w){k:Nat}{st st':LoopState}{pe pe':Option Code}(hk:m.get k=C (.loop st pe R)) :
  bp Γ E (m.drop k) nx (w.putObj (E k) (.loop {R with state:=st',pending:=pe'})):=by
 refine(h.WG (st':=st') (pe':=pe') hk).sub (λj B hj=> ?_) (λj B hj=>h.lt j B (Mem.lD hj).2) (.inl (V _));obtain⟨hne,hj⟩:=Mem.lD hj;rw[Mem.adi hne];exact hj
end
theorem qV {b:Frame}{k:List Item}{cs:List Frame}:step P (lone (b.atR a (.code (.scope c)::k)) cs w)=.next (lone (b.atR a (.code c::.inScope c::k)) cs w) :=step_lone_go (by simp[Go.stepG,Go.stepG.exec,Frame.atR])
theorem RQ {b:Frame}{k:List Item}{cs:List Frame}:step P (lone (b.atR a (.inScope c::k)) cs w)=.next (lone (b.atR a k) cs w) :=step_lone_go (by simp[Go.stepG,Go.stepG.exec,Frame.atR])
theorem Fc {F:Fence}{Q:Exit->Act->World->Prop}(h:c.wpIn F n P (Exit.noGoto Q) a w):(Code.scope c).wpIn F n P Q a w:=by
 intro b k cs hro hb hr;have h0:(lone (b.atR a (.code (.scope c)::k)) cs w).fenced P F:=fenced_calm hb hr rfl;obtain⟨e,a₁,w₁,hq,harr⟩:=h b (.inScope c::k) cs hro hb hr;cases e with
 | normal=>exact⟨.normal,a₁,w₁,hq,.head h0 qV (StepsIn.trans harr (.one (fenced_calm hb hr rfl) RQ))⟩
 | exit id =>
   have hx:exitTo id (.inScope c::k)=exitTo id k:=by simp[exitTo]
   exact⟨.exit id,a₁,w₁,hq,λk' hk=>.head h0 qV (harr.1 k' (by rw[hx];exact hk)),
    λhr' hk=>let ⟨k₁,h1,h2⟩:=harr.2 hr' (by rw[hx];exact hk);⟨k₁,h1,.head h0 qV h2⟩⟩
 | goto l=>exact hq.elim
 | ret=>exact⟨_,a₁,w₁,hq,.of_steps (.one h0 qV) harr⟩
 | panic ch=>exact⟨_,a₁,w₁,hq,.of_steps (.one h0 qV) harr⟩
 | outgrown=>exact⟨_,a₁,w₁,hq,.of_steps (.one h0 qV) harr⟩
end
end Sx
end Go.Proofs.YtoibaecagklkaaaGreatDoor
