/-
  The framework's sixteenth part: code, loops, functions.
-/
import Derived.Test.YtoalfimkkibpdaaGreatDoorMh
import Derived.RangeFuncRecord
import Derived.Scope
namespace Go.Proofs.YtoalfimkkibpdaaGreatDoor.Sx
open Go
noncomputable section
structure LoopAnn where
 α:Type
 pre:St→α→Prop
 mea:St→α→Nat
 fresh:Nat
 slots:St→α→List (Nat×SV)
 mem:St→α→List (Nat×SB)
 drop:St→List Nat:=fun _=>[]
def written:Code→List Nat
 | .region _ ops _=>ops.toList.filterMap (·.dst)
 | .seq a b=>written a++written b
 | .cond _ a b=>written a++written b
 | .block _ b=>written b
 | .loop b=>written b
 | .scope b=>written b
 | .rangeFunc _ _ a b=>written a++written b
 | _=>[]
def forget (l:List Nat)(tmps:List (Option SV)):List (Option SV):=match l with
 | []=>tmps
 | i::r=>forget r (tmps.set i none)
def override (l:List (Nat×SV))(tmps:List (Option SV)):List (Option SV):=match l with
 | []=>tmps
 | (i,v)::r=>override r (tmps.set i (some v))
def SBle (B B':SB):Prop:=B'.no=false→B.no=false∧(∀ E o,BlkOk E B o→BlkOk E B' o)∧(B'.ro=false→B.ro=false)
theorem SBle.refl (B:SB):SBle B B:=fun h=>⟨h,fun _ _ h=>h,id⟩
theorem SBle.cells {cs cs':List SV} {tot tot':Nat} {ty:TypeId} (h: ∀ E,cs'.map (SV.val E)=cs.map (SV.val E))(ht:tot'=tot):SBle (.cells cs tot ty) (.cells cs' tot' ty):=by
 subst ht
 refine fun _=>⟨rfl,fun E o ⟨c,fr,h1,h2,h3,h4⟩=>⟨c,fr,h1,h2,fun i v hv=> ?_,h4⟩,id⟩
 have he:=h E
 have:(cs'.map (SV.val E))[i]?=some (v.val E):=by rw[List.getElem?_map,hv];rfl
 rw[he,List.getElem?_map] at this
 cases hc:cs[i]? with
 | none=>rw[hc] at this;cases this
 | some u =>
   rw[hc] at this;injection this with this
   rw[← this];exact h3 i u hc
theorem SBle.fmap0 {d:List UInt8→Bool} {c:FCol} {clock:Nat} (hd: ∀ s,d s=false):SBle (.map [] clock) (.fmap d c none):=by
 obtain rfl:d=fun _=>false:=funext hd
 exact fun _=>⟨rfl,fun _ _ h=>⟨#[],clock,h,FmOk.nil c clock⟩,id⟩
theorem SBle.fmap {d d':List UInt8→Bool} {c c':FCol} {p:Option (List UInt8×Int)} (hd: ∀ s,d s=d' s)(hc: ∀ s,c.val s=c'.val s):SBle (.fmap d c p) (.fmap d' c' none):=by
 obtain rfl:=funext hd
 exact fun _=>⟨rfl,fun _ _ ⟨es,cl,h,h1,h2,h3,h4,_⟩=>⟨es,cl,h,h1,h2,fun s hs=>by rw[← hc];exact h3 s hs,h4,fun _ _ h=>by cases h⟩,id⟩
abbrev Ren:=List (Nat×Nat)
def Ren.get (k:Nat):Ren→Option Nat
 | []=>none
 | e::r=>if e.1=k then some e.2 else Ren.get k r
def matchKey (base:Nat)(ren:Ren)(kh k1:Nat)(t:Ren→VC):VC :=
 match Nat.blt kh base with
 | true=>if kh=k1 then t ren else .fail "loop: another block"
 | false=>(match ren.get kh with
   | some k=>if k=k1 then t ren else .fail "loop: two blocks for one"
   | none=>t ((kh,k1)::ren))
def zeq (z z':Bool)(n:Nat):VC:=match z,z' with
 | true,true=>.tt
 | false,false=>.tt
 | _,_=>.atom (0<n)
theorem zeq_iff {z z':Bool} {n:Nat} (h:(zeq z z' n).holds):(z&&Nat.beq n 0)=(z'&&Nat.beq n 0):=by
 have h0:0<n→Nat.beq n 0=false:=fun h=>by cases n with
  | zero=>omega
  | succ n=>rfl
 cases z<;>cases z'<;>simp only[zeq] at h
 ·rfl
 ·have:=h0 h;simp[this]
 ·have:=h0 h;simp[this]
 ·rfl
def samePtrs (base:Nat):List SV→List SV→Ren→(Ren→VC)→VC
 | [],[],ren,t=>t ren
 | .ptr kh _ o::hs,.ptr k1 _ o'::us,ren,t=>matchKey base ren kh k1 (fun ren=>.and (.atom (o'=o)) (samePtrs base hs us ren t))
 | _,_,_,_=>.fail "loop: what a function has captured"
def sameCell (base:Nat)(ren:Ren)(h u:SV)(t:Ren→VC):VC :=
 match h,u with
 | .int a _ n,.int b _ m=>if a=b then .and (.atom (m=n)) (t ren)else .fail "loop: kinds"
 | .bool _ a,.bool _ b=>.and (.atom (b=a)) (t ren)
 | .str _ a,.str _ b=>.and (.atom (b=a)) (t ren)
 | .nilptr,.nilptr=>t ren
 | .nilslc,.nilslc=>t ren
 | .nilmap,.nilmap=>t ren
 | .niliface,.niliface=>t ren
 | .nilfunc,.nilfunc=>t ren
 | .ptr kh _ o,.ptr k1 _ o'=>matchKey base ren kh k1 (fun ren=>.and (.atom (o'=o)) (t ren))
 | .eptr kh w i k,.eptr k1 w' i' k'=>if w=w'∧k=k' then matchKey base ren kh k1 (fun ren=>.and (.atom (i'=i)) (t ren))else .fail "loop: rows"
 | .slc kh o n _ c,.slc k1 o' n' _ c'=>matchKey base ren kh k1 (fun ren=>.and (.atom (o'=o∧n'=n∧c'=c)) (t ren))
 | .rslc kh w z i n c,.rslc k1 w' z' i' n' c'=>if w=w' then matchKey base ren kh k1 (fun ren=>.and (.atom (i'=i∧n'=n∧c'=c)) (.and (zeq z z' n) (t ren)))else .fail "loop: rows"
 | .rslc kh w z i n c,.slc k1 o' n' _ c'=>matchKey base ren kh k1 (fun ren=>.and (.atom (o'=i*w∧n'=n∧c'=c)) (.and (zeq z false n) (t ren)))
 | .rslc _ _ true _ n _,.nilslc=>.and (.atom (n=0)) (t ren)
 | .slc kh o n _ c,.rslc k1 w z i n' c'=>matchKey base ren kh k1 (fun ren=>.and (.atom (i*w=o∧n'=n∧c'=c)) (.and (zeq z false n') (t ren)))
 | .vslc kh w z o i n c,.vslc k1 w' z' o' i' n' c'=>if w=w' then matchKey base ren kh k1 (fun ren=>.and (.atom (z'=z∧o'=o∧i'=i∧n'=n∧c'=c)) (t ren))else .fail "loop: rows"
 | .iface a (.ptr kh _ o),.iface b (.ptr k1 _ o')=>if a=b then matchKey base ren kh k1 (fun ren=>.and (.atom (o'=o)) (t ren))else .fail "loop: another type"
 | .func (.func f) a b,.func (.func g) a' b'=>if f=g then samePtrs base a a' ren (fun ren=>samePtrs base b b' ren t)else .fail "loop: another function"
 | .map kh,.map k1=>matchKey base ren kh k1 t
 | .raw v,.raw v'=>.and (.atom (v'=v)) (t ren)
 | h,u=>(match h.wf 0&&u.wf 0 with
   | true=>.and (.atom (∀ E,u.val E=h.val E)) (t ren)
   | false=>.fail "loop: another value")
def sameCells (base:Nat):List SV→List SV→Ren→(Ren→VC)→VC
 | [],[],ren,t=>t ren
 | h::hs,u::us,ren,t=>sameCell base ren h u (fun ren=>sameCells base hs us ren t)
 | _,_,_,_=>.fail "loop: lengths"
def sameSV (base:Nat)(ren:Ren)(h u:SV)(t:Ren→VC):VC :=
 match h,u with
 | .agg a,.agg b=>sameCells base a b ren t
 | .tup a,.tup b=>sameCells base a b ren t
 | .iface a v,.iface b v'=>if a=b then(match v,v' with
    | .agg c,.agg d=>sameCells base c d ren t
    | v,v'=>sameCell base ren v v' t)else .fail "loop: another type"
 | h,u=>sameCell base ren h u t
def sameSlots (base:Nat):List (Nat×SV)→List (Option SV)→Ren→(Ren→VC)→VC
 | [],_,ren,t=>t ren
 | (i,h)::r,tmps,ren,t=>match slot tmps i with
   | some u=>sameSV base ren h u (fun ren=>sameSlots base r tmps ren t)
   | none=>.fail "loop: a slot that is not known"
def renKey (base:Nat)(ren:Ren)(kh:Nat):Option Nat:=match Nat.blt kh base with
 | true=>some kh
 | false=>ren.get kh
def sameMem (base:Nat)(m:Mem):List (Nat×SB)→List Nat→Ren→(Ren→VC)→VC
 | [],_,ren,t=>t ren
 | (kh,B')::r,used,ren,t=>match renKey base ren kh with
   | some k1=>if used.contains k1 then .fail "loop: one block for two" else(match m.get k1 with
     | some B=>(match B'.wf base with
       | true=>.and (.atom (SBle B B')) (sameMem base m r (k1::used) ren t)
       | false=>(match B',B with
         | .cells cs' tot' ty',.cells cs tot ty=>if ty'=ty then .and (.atom (tot'=tot)) (sameCells base cs' cs ren (fun ren=>sameMem base m r (k1::used) ren t))else .fail "loop: a block's type"
         | _,_=>.fail "loop: a block that names blocks"))
     | none=>.fail "loop: no such block")
   | none=>(match B'.wf base with
      | true=>.and (.atom (B'.no=true)) (sameMem base m r used ren t)
      | false=>.fail "loop: a block that names blocks")
def Ren.E (base:Nat)(ren:Ren)(E:Nat→Nat)(k:Nat):Nat:=match renKey base ren k with
 | some k1=>E k1
 | none=>E k
def Ren.le (a b:Ren):Prop:=∀ k v,a.get k=some v→b.get k=some v
theorem Ren.le_refl (a:Ren):a.le a:=fun _ _ h=>h
theorem Ren.le_trans {a b c:Ren} (h:a.le b)(h':b.le c):a.le c:=fun k v x=>h' k v (h k v x)
theorem Ren.E_old {base:Nat} {ren:Ren} {E:Nat→Nat} {k:Nat} (h:k<base):Ren.E base ren E k=E k:=by
 have:Nat.blt k base=true:=by simpa [Nat.blt_eq] using h
 simp[Ren.E,renKey,this]
theorem matchKey_sound {base:Nat} {ren:Ren} {kh k1:Nat} {t:Ren→VC} (h:(matchKey base ren kh k1 t).holds) :
  ∃ ren',ren.le ren'∧(t ren').holds∧∀ ren'' (E:Nat→Nat),ren'.le ren''→Ren.E base ren'' E kh=E k1:=by
 unfold matchKey at h
 split at h
 ·rename_i hb
  split at h
  ·rename_i e;subst e
   exact⟨ren,Ren.le_refl _,h,fun ren'' E _=>Ren.E_old (by simpa [Nat.blt_eq] using hb)⟩
  ·exact h.elim
 ·rename_i hb
  split at h
  ·rename_i k hk
   split at h
   ·rename_i e;subst e
    exact⟨ren,Ren.le_refl _,h,fun ren'' E hle=>by simp[Ren.E,renKey,hb,hle _ _ hk]⟩
   ·exact h.elim
  ·rename_i hk
   refine⟨(kh,k1)::ren,fun k v hv=> ?_,h,fun ren'' E hle=> ?_⟩
   ·by_cases e:kh=k
    ·subst e;rw[hk] at hv;cases hv
    ·simp only[Ren.get,e,if_false];exact hv
   ·have:=hle kh k1 (by simp[Ren.get])
    simp[Ren.E,renKey,hb,this]
theorem samePtrs_sound {base:Nat}: ∀ {hs us:List SV} {ren:Ren} {t:Ren→VC},(samePtrs base hs us ren t).holds →
  ∃ ren',ren.le ren'∧(t ren').holds∧∀ ren'' (E:Nat→Nat),ren'.le ren''→SV.vals (Ren.E base ren'' E) hs=SV.vals E us
 | hs,us,ren,t,hh=>by
   unfold samePtrs at hh
   split at hh
   ·exact⟨ren,Ren.le_refl _,hh,fun _ _ _=>rfl⟩
   ·obtain⟨r1,h1,h2,h3⟩:=matchKey_sound hh
    obtain⟨r2,g1,g2,g3⟩:=samePtrs_sound h2.2
    refine⟨r2,Ren.le_trans h1 g1,g2,fun r'' E hle=> ?_⟩
    have e:_=_:=h2.1
    simp only[SV.vals,SV.val,h3 r'' E (Ren.le_trans g1 hle),g3 r'' E hle,e]
   ·exact hh.elim
theorem sameCell_sound {base:Nat} {ren:Ren} {h u:SV} {t:Ren→VC} (hh:(sameCell base ren h u t).holds) :
  ∃ ren',ren.le ren'∧(t ren').holds∧∀ ren'' (E:Nat→Nat),ren'.le ren''→h.val (Ren.E base ren'' E)=u.val E:=by
 unfold sameCell at hh
 split at hh
 ·split at hh
  ·rename_i e;subst e
   exact⟨ren,Ren.le_refl _,hh.2,fun _ _ _=>by have:_=_:=hh.1;simp[SV.val,this]⟩
  ·exact hh.elim
 ·exact⟨ren,Ren.le_refl _,hh.2,fun _ _ _=>by have:_=_:=hh.1;simp[SV.val,this]⟩
 ·exact⟨ren,Ren.le_refl _,hh.2,fun _ _ _=>by have:_=_:=hh.1;simp[SV.val,this]⟩
 ·exact⟨ren,Ren.le_refl _,hh,fun _ _ _=>rfl⟩
 ·exact⟨ren,Ren.le_refl _,hh,fun _ _ _=>rfl⟩
 ·exact⟨ren,Ren.le_refl _,hh,fun _ _ _=>rfl⟩
 ·exact⟨ren,Ren.le_refl _,hh,fun _ _ _=>rfl⟩
 ·exact⟨ren,Ren.le_refl _,hh,fun _ _ _=>rfl⟩
 ·obtain⟨r',h1,h2,h3⟩:=matchKey_sound hh
  exact⟨r',h1,h2.2,fun r'' E hle=>by have:_=_:=h2.1;simp[SV.val,h3 r'' E hle,this]⟩
 ·split at hh
  ·rename_i e;obtain⟨rfl,rfl⟩:=e
   obtain⟨r',h1,h2,h3⟩:=matchKey_sound hh
   exact⟨r',h1,h2.2,fun r'' E hle=>by have:_=_:=h2.1;simp[SV.val,h3 r'' E hle,this]⟩
  ·exact hh.elim
 ·obtain⟨r',h1,h2,h3⟩:=matchKey_sound hh
  exact⟨r',h1,h2.2,fun r'' E hle=>by obtain⟨a,b,c⟩:=h2.1;simp[SV.val,h3 r'' E hle,a,b,c]⟩
 ·split at hh
  ·rename_i e;subst e
   obtain⟨r',h1,h2,h3⟩:=matchKey_sound hh
   exact⟨r',h1,h2.2.2,fun r'' E hle=>by obtain⟨a,b,c⟩:=h2.1;have hz:=zeq_iff h2.2.1;simp[SV.val,h3 r'' E hle,a,b,c,hz]⟩
  ·exact hh.elim
 ·obtain⟨r',h1,h2,h3⟩:=matchKey_sound hh
  exact⟨r',h1,h2.2.2,fun r'' E hle=>by obtain⟨a,b,c⟩:=h2.1;have hz:=zeq_iff h2.2.1;simp[SV.val,h3 r'' E hle,a,b,c,hz]⟩
 ·exact⟨ren,Ren.le_refl _,hh.2,fun _ _ _=>by have:_=_:=hh.1;simp[SV.val,this]⟩
 ·obtain⟨r',h1,h2,h3⟩:=matchKey_sound hh
  exact⟨r',h1,h2.2.2,fun r'' E hle=>by obtain⟨a,b,c⟩:=h2.1;have hz:=zeq_iff h2.2.1;simp[SV.val,h3 r'' E hle,a,← b,c,hz]⟩
 ·split at hh
  ·rename_i e;subst e
   obtain⟨r',h1,h2,h3⟩:=matchKey_sound hh
   exact⟨r',h1,h2.2,fun r'' E hle=>by obtain⟨a,b,c,d,e⟩:=h2.1;simp[SV.val,h3 r'' E hle,a,b,c,d,e]⟩
  ·exact hh.elim
 ·split at hh
  ·rename_i e;subst e
   obtain⟨r',h1,h2,h3⟩:=matchKey_sound hh
   exact⟨r',h1,h2.2,fun r'' E hle=>by have:_=_:=h2.1;simp[SV.val,h3 r'' E hle,this]⟩
  ·exact hh.elim
 ·split at hh
  ·rename_i e;subst e
   obtain⟨r1,h1,h2,h3⟩:=samePtrs_sound hh
   obtain⟨r2,g1,g2,g3⟩:=samePtrs_sound h2
   exact⟨r2,Ren.le_trans h1 g1,g2,fun r'' E hle=>by simp only[SV.val,h3 r'' E (Ren.le_trans g1 hle),g3 r'' E hle]⟩
  ·exact hh.elim
 ·obtain⟨r',h1,h2,h3⟩:=matchKey_sound hh
  exact⟨r',h1,h2,fun r'' E hle=>by simp[SV.val,h3 r'' E hle]⟩
 ·exact⟨ren,Ren.le_refl _,hh.2,fun _ _ _=>by have:_=_:=hh.1;simp[SV.val,this]⟩
 ·split at hh
  ·rename_i hw
   simp only[Bool.and_eq_true] at hw
   refine⟨ren,Ren.le_refl _,hh.2,fun ren'' E _=> ?_⟩
   have h1: ∀ E,SV.val E _=SV.val E _:=hh.1
   rw[h1 E]
   exact SV.val_congr (nx:=0) (fun k hk=>absurd hk (Nat.not_lt_zero _)) _ hw.1
  ·exact hh.elim
theorem sameCells_sound {base:Nat}: ∀ {hs us:List SV} {ren:Ren} {t:Ren→VC},(sameCells base hs us ren t).holds →
  ∃ ren',ren.le ren'∧(t ren').holds∧∀ ren'' (E:Nat→Nat),ren'.le ren''→SV.vals (Ren.E base ren'' E) hs=SV.vals E us
 | [],[],ren,t,h=>⟨ren,Ren.le_refl _,h,fun _ _ _=>rfl⟩
 | h::hs,u::us,ren,t,hh=>by
   simp only[sameCells] at hh
   obtain⟨r1,h1,h2,h3⟩:=sameCell_sound hh
   obtain⟨r2,g1,g2,g3⟩:=sameCells_sound h2
   exact⟨r2,Ren.le_trans h1 g1,g2,fun r'' E hle=>by simp only[SV.vals];rw[h3 r'' E (Ren.le_trans g1 hle),g3 r'' E hle]⟩
 | [],_::_,_,_,h=>h.elim
 | _::_,[],_,_,h=>h.elim
theorem sameSV_sound {base:Nat} {ren:Ren} {h u:SV} {t:Ren→VC} (hh:(sameSV base ren h u t).holds) :
  ∃ ren',ren.le ren'∧(t ren').holds∧∀ ren'' (E:Nat→Nat),ren'.le ren''→h.val (Ren.E base ren'' E)=u.val E:=by
 unfold sameSV at hh
 split at hh
 ·obtain⟨r',h1,h2,h3⟩:=sameCells_sound hh
  exact⟨r',h1,h2,fun r'' E hle=>by simp only[SV.val,h3 r'' E hle]⟩
 ·obtain⟨r',h1,h2,h3⟩:=sameCells_sound hh
  exact⟨r',h1,h2,fun r'' E hle=>by simp only[SV.val,h3 r'' E hle]⟩
 ·split at hh
  ·rename_i e;subst e
   split at hh
   ·obtain⟨r',h1,h2,h3⟩:=sameCells_sound hh
    exact⟨r',h1,h2,fun r'' E hle=>by simp only[SV.val,h3 r'' E hle]⟩
   ·obtain⟨r',h1,h2,h3⟩:=sameCell_sound hh
    exact⟨r',h1,h2,fun r'' E hle=>by simp only[SV.val,h3 r'' E hle]⟩
  ·exact hh.elim
 ·exact sameCell_sound hh
theorem sameSlots_sound {base:Nat}: ∀ {l:List (Nat×SV)} {tmps:List (Option SV)} {ren:Ren} {t:Ren→VC},(sameSlots base l tmps ren t).holds →
  ∃ ren',ren.le ren'∧(t ren').holds∧∀ ren'' (E:Nat→Nat),ren'.le ren''→∀ i h,(i,h)∈ l→∃ u,slot tmps i=some u∧h.val (Ren.E base ren'' E)=u.val E
 | [],_,ren,t,h=>⟨ren,Ren.le_refl _,h,fun _ _ _ i h hm=>by cases hm⟩
 | (i,x)::r,tmps,ren,t,hh=>by
   simp only[sameSlots] at hh
   split at hh
   ·rename_i u hu
    obtain⟨r1,h1,h2,h3⟩:=sameSV_sound hh
    obtain⟨r2,g1,g2,g3⟩:=sameSlots_sound h2
    refine⟨r2,Ren.le_trans h1 g1,g2,fun r'' E hle j h hm=> ?_⟩
    rw[List.mem_cons] at hm
    rcases hm with hm | hm
    ·injection hm with e1 e2;subst e1;subst e2
     exact⟨u,hu,h3 r'' E (Ren.le_trans g1 hle)⟩
    ·exact g3 r'' E hle j h hm
   ·exact hh.elim
theorem renKey_mono {base:Nat} {ren ren':Ren} (h:ren.le ren') {kh k1:Nat} (hk:renKey base ren kh=some k1):renKey base ren' kh=some k1:=by
 unfold renKey at hk ⊢
 split at hk
 ·exact hk
 ·exact h _ _ hk
def BlkTo (base:Nat)(m:Mem)(used:List Nat)(ren:Ren)(kh:Nat)(B':SB):Prop :=
 B'.no=false→∃ k1 B,renKey base ren kh=some k1∧k1∉ used∧m.get k1=some B∧B.no=false∧(∀ E o,BlkOk E B o→BlkOk (Ren.E base ren E) B' o)∧(B'.ro=false→B.ro=false)
theorem sameMem_sound {base:Nat} {m:Mem}: ∀ {l:List (Nat×SB)} {used:List Nat} {ren:Ren} {t:Ren→VC},(sameMem base m l used ren t).holds →
  ∃ ren',ren.le ren'∧(t ren').holds∧∀ ren'',ren'.le ren''→(∀ kh B',Mem.get kh l=some B'→BlkTo base m used ren'' kh B') ∧
    (∀ kh kh' B B' k1,Mem.get kh l=some B→B.no=false→Mem.get kh' l=some B'→B'.no=false→renKey base ren'' kh=some k1→renKey base ren'' kh'=some k1→kh=kh')
 | [],_,ren,t,h=>⟨ren,Ren.le_refl _,h,fun _ _=>⟨(fun _ _ h=>by cases h),(fun _ _ _ _ _ h=>by cases h)⟩⟩
 | (k0,B0)::r,used,ren,t,hh=>by
   simp only[sameMem] at hh
   split at hh
   ·rename_i k1 hk1
    split at hh
    ·exact hh.elim
    ·rename_i hnu
     have hnu:k1∉ used:=by simpa using hnu
     split at hh
     ·rename_i B hB
      have key: ∀ {ren1:Ren},ren.le ren1→(∀ ren'',ren1.le ren''→BlkTo base m used ren'' k0 B0)→(sameMem base m r (k1::used) ren1 t).holds →
        ∃ ren',ren.le ren'∧(t ren').holds∧∀ ren'',ren'.le ren''→(∀ kh B',Mem.get kh ((k0,B0)::r)=some B'→BlkTo base m used ren'' kh B') ∧
          (∀ kh kh' B B' k1,Mem.get kh ((k0,B0)::r)=some B→B.no=false→Mem.get kh' ((k0,B0)::r)=some B'→B'.no=false→renKey base ren'' kh=some k1→renKey base ren'' kh'=some k1→kh=kh'):=by
       intro ren1 hle1 h0 hr
       obtain⟨ren2,hle2,ht,g⟩:=sameMem_sound hr
       refine⟨ren2,Ren.le_trans hle1 hle2,ht,fun ren'' hle=> ?_⟩
       obtain⟨g2,g3⟩:=g ren'' hle
       have hk1'':renKey base ren'' k0=some k1:=renKey_mono (Ren.le_trans hle1 (Ren.le_trans hle2 hle)) hk1
       refine⟨fun kh B' hg=> ?_,fun kh kh' X X' q hg hn hg' hn' hq hq'=> ?_⟩
       ·rcases Mem.get_cons hg with ⟨rfl,rfl⟩ | ⟨_,hg⟩
        ·exact h0 ren'' (Ren.le_trans hle2 hle)
        ·intro hn
         obtain⟨q,Y,h1,h2,h3⟩:=g2 kh B' hg hn
         exact⟨q,Y,h1,fun hm=>h2 (List.mem_cons_of_mem _ hm),h3⟩
       ·rcases Mem.get_cons hg with ⟨e1,_⟩ | ⟨_,hgr⟩<;>rcases Mem.get_cons hg' with ⟨e2,_⟩ | ⟨_,hgr'⟩
        ·exact e1.trans e2.symm
        ·subst e1
         rw[hk1''] at hq;injection hq with hq;subst hq
         obtain⟨q2,Y,h1,h2,_⟩:=g2 kh' X' hgr' hn'
         rw[hq'] at h1;injection h1 with h1;subst h1
         exact absurd (List.mem_cons_self ..) h2
        ·subst e2
         rw[hk1''] at hq';injection hq' with hq';subst hq'
         obtain⟨q2,Y,h1,h2,_⟩:=g2 kh X hgr hn
         rw[hq] at h1;injection h1 with h1;subst h1
         exact absurd (List.mem_cons_self ..) h2
        ·exact g3 kh kh' X X' q hgr hn hgr' hn' hq hq'
      split at hh
      ·rename_i hwf
       have hle:SBle B B0:=hh.1
       refine key (Ren.le_refl _) (fun ren'' hl hn=> ?_) hh.2
       obtain⟨a,b,c⟩:=hle hn
       exact⟨k1,B,renKey_mono hl hk1,hnu,hB,a,fun E o ho=>(b E o ho).congr (fun k hk=>Ren.E_old hk) hwf,c⟩
      ·split at hh
       ·rename_i cs' tot' ty' cs tot ty _
        split at hh
        ·rename_i hty
         obtain⟨htot,hh⟩:=hh
         have htot:tot'=tot:=htot
         obtain⟨ren1,hle1,hr,hv⟩:=sameCells_sound hh
         refine key hle1 (fun ren'' hl hn=>⟨k1,_,renKey_mono (Ren.le_trans hle1 hl) hk1,hnu,hB,rfl,fun E o ho=> ?_,id⟩) hr
         obtain⟨c,fr,h1,h2,h3,h4⟩:=ho
         refine⟨c,fr,by rw[hty];exact h1,h2,fun i v hvi=> ?_,by rw[htot];exact h4⟩
         have hvv:=hv ren'' E hl
         rw[SV.vals_eq,SV.vals_eq] at hvv
         have:(cs'.map (SV.val (Ren.E base ren'' E)))[i]?=some (v.val (Ren.E base ren'' E)):=by rw[List.getElem?_map,hvi];rfl
         rw[hvv,List.getElem?_map] at this
         cases hc:cs[i]? with
         | none=>rw[hc] at this;cases this
         | some u =>
           rw[hc] at this;injection this with this
           rw[← this];exact h3 i u hc
        ·exact hh.elim
       ·exact hh.elim
     ·exact hh.elim
   ·split at hh
    ·obtain⟨ren2,hle2,ht,g⟩:=sameMem_sound hh.2
     have hno:B0.no=true:=hh.1
     refine⟨ren2,hle2,ht,fun ren'' hle=> ?_⟩
     obtain⟨g2,g3⟩:=g ren'' hle
     refine⟨fun kh B' hg=> ?_,fun kh kh' X X' q hg hn hg' hn' hq hq'=> ?_⟩
     ·rcases Mem.get_cons hg with ⟨rfl,rfl⟩ | ⟨_,hg⟩
      ·exact fun hn=>by rw[hn] at hno;cases hno
      ·exact g2 kh B' hg
     ·rcases Mem.get_cons hg with ⟨_,rfl⟩ | ⟨_,hgr⟩
      ·rw[hn] at hno;cases hno
      ·rcases Mem.get_cons hg' with ⟨_,rfl⟩ | ⟨_,hgr'⟩
       ·rw[hn'] at hno;cases hno
       ·exact g3 kh kh' X X' q hgr hn hgr' hn' hq hq'
    ·exact hh.elim
def svKey:SV→Option Nat
 | .ptr k _ _=>some k
 | .eptr k _ _ _=>some k
 | .aptr k _ _ _=>some k
 | .slc k _ _ _ _=>some k
 | .rslc k _ _ _ _ _=>some k
 | .map k=>some k
 | .yield k=>some k
 | _=>none
def dropKeys (base:Nat)(tmps:List (Option SV)):List (Nat×SV)→List Nat
 | []=>[]
 | (i,h)::r=>match svKey h with
   | some kh=>(match Nat.blt kh base with
     | true=>dropKeys base tmps r
     | false=>(match slot tmps i with
       | some u=>(match svKey u with
         | some k1=>k1::dropKeys base tmps r
         | none=>dropKeys base tmps r)
       | none=>dropKeys base tmps r))
   | none=>dropKeys base tmps r
def keepMem (ks:List Nat):Mem→Mem
 | []=>[]
 | e::r=>match ks.contains e.1 with
   | true=>keepMem ks r
   | false=>e::keepMem ks r
def LoopAnn.memAt (A:LoopAnn)(st:St)(x:A.α):Mem :=
 A.mem st x++keepMem ((A.mem st x).map (·.1)++(dropKeys st.nx st.tmps (A.slots st x)++A.drop st)) st.m
def hd (body:Code)(A:LoopAnn)(st:St)(x:A.α):St :=
 ⟨override (A.slots st x) (forget (written body) st.tmps),A.memAt st x,st.nx+A.fresh⟩
def annOk (body:Code)(A:LoopAnn)(st:St)(x:A.α):Bool :=
 (A.slots st x).all (fun p=>(written body).contains p.1&&p.2.wf (st.nx+A.fresh))&&(A.memAt st x).all (fun p=>Nat.blt p.1 (st.nx+A.fresh))
def atHead (body:Code)(A:LoopAnn)(st:St)(y:A.α)(st1:St):VC :=
 match annOk body A st y with
 | true=>sameSlots st.nx (A.slots st y) st1.tmps [] (fun ren=>sameMem st.nx st1.m (A.memAt st y) [] ren (fun _=>.tt))
 | false=>.fail "loop: the annotation"
theorem forget_length: ∀ {l:List Nat} {tmps:List (Option SV)},(forget l tmps).length=tmps.length
 | [],_=>rfl
 | i::r,tmps=>by simp[forget,forget_length (l:=r)]
theorem override_length: ∀ {l:List (Nat×SV)} {tmps:List (Option SV)},(override l tmps).length=tmps.length
 | [],_=>rfl
 | (i,v)::r,tmps=>by simp[override,override_length (l:=r)]
theorem forget_get: ∀ {l:List Nat} {tmps:List (Option SV)} {i:Nat} {v:SV},(forget l tmps)[i]?=some (some v)→tmps[i]?=some (some v)∧i∉ l
 | [],_,_,_,h=>⟨h,by simp⟩
 | j::r,tmps,i,v,h=>by
   simp only[forget] at h
   have:=forget_get h
   rw[List.getElem?_set] at this
   split at this
   ·rename_i e;subst e
    split at this
    ·simp at this
    ·simp at this
   ·rename_i e
    refine⟨this.1,?_⟩
    rw[List.mem_cons];rintro(h1 | h1)
    ·exact e h1.symm
    ·exact this.2 h1
theorem forget_ne: ∀ {l:List Nat} {tmps:List (Option SV)} {i:Nat},i∉ l→(forget l tmps)[i]?=tmps[i]?
 | [],_,_,_=>rfl
 | j::r,tmps,i,h=>by
   rw[List.mem_cons] at h
   simp only[forget]
   rw[forget_ne (fun x=>h (.inr x)),List.getElem?_set,if_neg (fun e=>h (.inl e.symm))]
theorem override_get: ∀ {l:List (Nat×SV)} {tmps:List (Option SV)} {i:Nat} {v:SV},(override l tmps)[i]?=some (some v)→(i,v)∈ l∨(tmps[i]?=some (some v)∧∀ u,(i,u)∉ l)
 | [],_,_,_,h=>.inr ⟨h,fun _ h=>by cases h⟩
 | (j,x)::r,tmps,i,v,h=>by
   simp only[override] at h
   rcases override_get h with h | ⟨h',hn⟩
   ·exact .inl (List.mem_cons_of_mem _ h)
   ·rw[List.getElem?_set] at h'
    by_cases e:j=i
    ·subst e
     rw[if_pos rfl] at h'
     split at h'
     ·injection h' with h';injection h' with h';subst h';exact .inl (List.mem_cons_self ..)
     ·cases h'
    ·rw[if_neg e] at h'
     refine .inr ⟨h',fun u hu=> ?_⟩
     rw[List.mem_cons] at hu
     rcases hu with hu | hu
     ·injection hu with e1 _;exact e e1.symm
     ·exact hn u hu
theorem override_ne: ∀ {l:List (Nat×SV)} {tmps:List (Option SV)} {i:Nat},(∀ u,(i,u)∉ l)→(override l tmps)[i]?=tmps[i]?
 | [],_,_,_=>rfl
 | (j,x)::r,tmps,i,h=>by
   simp only[override]
   rw[override_ne (fun u hu=>h u (List.mem_cons_of_mem _ hu)),List.getElem?_set,if_neg (fun e=>h x (by subst e;exact List.mem_cons_self ..))]
theorem wfTmps_of {nx:Nat}: ∀ {l:List (Option SV)},(∀(i:Nat)(v:SV),l[i]?=some (some v)→v.wf nx=true)→wfTmps nx l=true
 | [],_=>rfl
 | none::r,h=>wfTmps_of (l:=r) fun i v hv=>h (i+1) v (by simpa using hv)
 | some x::r,h=>by
   simp only[wfTmps,Bool.and_eq_true]
   exact⟨h 0 x rfl,wfTmps_of fun i v hv=>h (i+1) v (by simpa using hv)⟩
theorem atHead_sound {body:Code} {A:LoopAnn} {st st1:St} {y:A.α} (h:(atHead body A st y st1).holds) {Γ:Base} {E:Nat→Nat} {a:Act} {w:World}
  (hnx:Γ.nx0≤st.nx) (hwt:wfTmps st.nx st.tmps=true) (hkeep: ∀ i,i∉ written body→st1.tmps[i]?=st.tmps[i]?) (hlen:st1.tmps.length=st.tmps.length) (hs:Sat Γ E st1 a w) :
  ∃ E',(∀ k,k<st.nx→E' k=E k)∧Sat Γ E' (hd body A st y) a w:=by
 unfold atHead at h
 split at h
 ·rename_i hok
  simp only[annOk,Bool.and_eq_true,List.all_eq_true,Nat.blt_eq,List.contains_iff_mem] at hok
  obtain⟨ren1,_,h1,h2⟩:=sameSlots_sound h
  obtain⟨ren,hle,_,h34⟩:=sameMem_sound h1
  obtain⟨h3,h4⟩:=h34 ren (Ren.le_refl _)
  have hold: ∀ k,k<st.nx→Ren.E st.nx ren E k=E k:=fun k hk=>Ren.E_old hk
  refine⟨Ren.E st.nx ren E,hold,⟨⟨by simp[hd,override_length,forget_length,hs.tm.size,hlen],fun i v hv=> ?_⟩,wfTmps_of fun i v hv=> ?_,hs.df,?_⟩⟩
  ·rcases override_get hv with hm | ⟨hv,_⟩
   ·obtain⟨u,hu,hval⟩:=h2 ren E hle i v hm
    rw[hval];exact hs.tm.val i u (slot_eq hu)
   ·obtain⟨hv,hn⟩:=forget_get hv
    have:=hs.tm.val i v (by rw[hkeep i hn];exact hv)
    rw[SV.val_congr hold v (wfTmps_get hwt hv)];exact this
  ·rcases override_get hv with hm | ⟨hv,_⟩
   ·exact(hok.1 (i,v) hm).2
   ·obtain⟨hv,hn⟩:=forget_get hv
    exact SV.wf_mono (Nat.le_add_right _ _) v (wfTmps_get hwt hv)
  ·have hE: ∀ kh k1,renKey st.nx ren kh=some k1→Ren.E st.nx ren E kh=E k1:=fun kh k1 hr=>by simp[Ren.E,hr]
   refine⟨fun kh B' hg hn=> ?_,fun kh kh' B B' hg hn hg' hn' hr he=> ?_,fun kh B' hg=> ?_,fun kh B' hg hn hro=> ?_,hs.mm.ext,⟨Nat.le_trans hnx (Nat.le_add_right _ _),fun k hk=>(hold k (Nat.lt_of_lt_of_le hk hnx)).trans (hs.mm.cx.2 k hk)⟩,hs.mm.kp⟩
   ·obtain⟨k1,B,g1,_,g3,g5,g6,_⟩:=h3 kh B' hg hn
    obtain⟨o,ho,hb⟩:=hs.mm.blk k1 B g3 g5
    exact⟨o,by rw[hE kh k1 g1];exact ho,g6 E o hb⟩
   ·obtain⟨k1,X,g1,_,g3,g5,_,g7⟩:=h3 kh B hg hn
    obtain⟨k1',X',g1',_,g3',g5',_,g7'⟩:=h3 kh' B' hg' hn'
    rw[hE kh k1 g1,hE kh' k1' g1'] at he
    have:=hs.mm.inj k1 k1' X X' g3 g5 g3' g5' (hr.imp g7 g7') he
    subst this
    exact h4 kh kh' B B' k1 hg hn hg' hn' g1 g1'
   ·have: ∀(l:List (Nat×SB)),(∀ p∈ l,p.1<st.nx+A.fresh)→Mem.get kh l=some B'→kh<st.nx+A.fresh:=by
     intro l
     induction l with
     | nil=>intro _ h;cases h
     | cons e r ih =>
       intro ha hg
       by_cases e1:e.1=kh
       ·rw[← e1];exact ha e (by simp)
       ·simp only[Mem.get,e1,if_false] at hg
        exact ih (fun p hp=>ha p (by simp[hp])) hg
    exact this _ hok.2 hg
   ·obtain⟨k1,B,g1,_,g3,g5,_,g7⟩:=h3 kh B' hg hn
    rw[hE kh k1 g1]
    exact hs.mm.own k1 B g3 g5 (g7 hro)
 ·exact h.elim
end
end Go.Proofs.YtoalfimkkibpdaaGreatDoor.Sx
namespace Go.Proofs.YtoalfimkkibpdaaGreatDoor.Sx
open Go
noncomputable section
def older (nx:Nat):Mem→Mem
 | []=>[]
 | e::r=>match Nat.blt e.1 nx with
   | true=>e::older nx r
   | false=>older nx r
def retK (nx:Nat)(v:SV)(m':Mem)(nx':Nat)(K:SV→Mem→Nat→VC):VC :=
 match v.wf nx&&Mem.wf nx (older nx m')with
 | true=>K v (older nx m') nx
 | false=>K v m' nx'
theorem older_get {nx:Nat}: ∀ {m:Mem} {k:Nat} {B:SB},(older nx m).get k=some B→m.get k=some B∧k<nx
 | [],_,_,h=>by cases h
 | e::r,k,B,h=>by
   simp only[older] at h
   cases hb:Nat.blt e.1 nx with
   | true =>
     rw[hb] at h
     simp only at h
     by_cases he:e.1=k
     ·rw[Mem.get,if_pos he] at h ⊢
      exact⟨h,by rw[← he];simpa [Nat.blt_eq] using hb⟩
     ·rw[Mem.get,if_neg he] at h ⊢
      exact older_get h
   | false =>
     rw[hb] at h
     have:=older_get h
     refine⟨?_,this.2⟩
     rw[Mem.get,if_neg (fun e1=> ?_)]
     ·exact this.1
     ·have h2:=this.2
      have h3: ¬ (e.1<nx):=by
       intro hlt
       have h4:Nat.blt e.1 nx=true:=by rw[Nat.blt_eq];exact hlt
       rw[h4] at hb;cases hb
      omega
theorem retK_after {nx:Nat} {v:SV} {m':Mem} {nx':Nat} {K:SV→Mem→Nat→VC} {Γ:Base} {E E':Nat→Nat} {w:World} (h:(retK nx v m' nx' K).holds)(hs:SatM Γ E' m' nx' w)
  (hg:Γ.nx0≤nx) (hE: ∀ k,k<nx→E' k=E k) (hn:nx≤nx'):After (lift K) Γ E nx (v.val E') w:=by
 unfold retK at h
 split at h
 ·rename_i hw
  simp only[Bool.and_eq_true] at hw
  exact⟨E',some v,older nx m',nx,hE,Nat.le_refl _,fun u hu=>by injection hu with hu;subst hu;rfl,hs.sub (fun k B hk=>(older_get hk).1) (fun k B hk=>(older_get hk).2) (.inr hg),h⟩
 ·exact⟨E',some v,m',nx',hE,hn,fun u hu=>by injection hu with hu;subst hu;rfl,hs,h⟩
theorem retK_mono {nx:Nat} {v:SV} {m':Mem} {nx':Nat} {K K':SV→Mem→Nat→VC} (hK: ∀ v m nx,(K v m nx).holds→(K' v m nx).holds)(h:(retK nx v m' nx' K).holds):(retK nx v m' nx' K').holds:=by
 unfold retK at h ⊢
 split at h
 ·exact hK _ _ _ h
 ·exact hK _ _ _ h
mutual
def SV.refs:SV→List Nat→List Nat
 | .ptr key _ _,l=>key::l
 | .eptr key _ _ _,l=>key::l
 | .aptr key _ _ _,l=>key::l
 | .slc key _ _ _ _,l=>key::l
 | .rslc key _ _ _ _ _,l=>key::l
 | .vslc key _ _ _ _ _ _,l=>key::l
 | .veptr key _ _ _ _,l=>key::l
 | .map key,l=>key::l
 | .yield key,l=>key::l
 | .agg cs,l=>SV.refsL cs l
 | .tup vs,l=>SV.refsL vs l
 | .iface _ v,l=>v.refs l
 | .func _ a b,l=>SV.refsL a (SV.refsL b l)
 | _,l=>l
def SV.refsL:List SV→List Nat→List Nat
 | [],l=>l
 | x::r,l=>x.refs (SV.refsL r l)
end
def esRefs:List (Nat×SV×SV)→List Nat→List Nat
 | [],l=>l
 | e::r,l=>e.2.1.refs (e.2.2.refs (esRefs r l))
def SB.refs:SB→List Nat→List Nat
 | .cells cs _ _,l=>SV.refsL cs l
 | .map es _,l=>esRefs es l
 | .mit (some k) _ _ _,l=>k::l
 | _,l=>l
def rootsOf (nx:Nat):Mem→List Nat→List Nat
 | [],l=>l
 | e::r,l=>match Nat.blt e.1 nx,e.2 with
   | true,B=>B.refs (rootsOf nx r l)
   | false,.loop .. =>e.1::rootsOf nx r l
   | false,_=>rootsOf nx r l
def hasN (k:Nat):List Nat→Bool
 | []=>false
 | x::r=>match Nat.beq x k with
   | true=>true
   | false=>hasN k r
def reachN:Nat→List Nat→List Nat→Mem→List Nat
 | 0,_,seen,_=>seen
 | _+1,[],seen,_=>seen
 | f+1,k::r,seen,m=>match hasN k seen with
   | true=>reachN f r seen m
   | false=>(match m.get k with
     | some B=>reachN f (B.refs r) (k::seen) m
     | none=>reachN f r seen m)
def keepM (p:Nat→Bool):Mem→Mem
 | []=>[]
 | e::r=>match p e.1 with
   | true=>e::keepM p r
   | false=>keepM p r
def sweep (nx:Nat)(v:SV)(m:Mem):Mem :=
 let live:=reachN 100000 (v.refs (rootsOf nx m [])) [] m
 keepM (fun k=>match Nat.blt k nx with
  | true=>true
  | false=>hasN k live) m
theorem keepM_get {p:Nat→Bool}: ∀ {m:Mem} {k:Nat} {B:SB},(keepM p m).get k=some B→m.get k=some B
 | [],_,_,h=>by cases h
 | e::r,k,B,h=>by
   simp only[keepM] at h
   cases hp:p e.1 with
   | true =>
     rw[hp] at h
     simp only at h
     by_cases he:e.1=k
     ·rw[Mem.get,if_pos he] at h ⊢;exact h
     ·rw[Mem.get,if_neg he] at h ⊢;exact keepM_get h
   | false =>
     rw[hp] at h
     have hk:p k=true:=by
      clear hp
      have: ∀ {m:Mem},(keepM p m).get k=some B→p k=true:=by
       intro m
       induction m with
       | nil=>intro h;cases h
       | cons e r ih =>
         intro h
         simp only[keepM] at h
         cases hp:p e.1 with
         | true =>
           rw[hp] at h
           simp only at h
           by_cases he:e.1=k
           ·rw[← he];exact hp
           ·rw[Mem.get,if_neg he] at h;exact ih h
         | false=>rw[hp] at h;exact ih h
      exact this h
     have he: ¬ e.1=k:=fun he=>by rw[he,hk] at hp;cases hp
     rw[Mem.get,if_neg he];exact keepM_get h
def retG (g:Bool)(nx:Nat)(v:SV)(m':Mem)(nx':Nat)(K:SV→Mem→Nat→VC):VC:=match g with
 | false=>retK nx v m' nx' K
 | true=>retK nx v (sweep nx v m') nx' K
theorem SatM.swept {nx:Nat} {v:SV} {m':Mem} {nx':Nat} {Γ:Base} {E:Nat→Nat} {w:World} (hs:SatM Γ E m' nx' w):SatM Γ E (sweep nx v m') nx' w :=
 hs.sub (fun _ _ h=>keepM_get h) (fun _ _ h=>hs.lt _ _ (keepM_get h)) (.inl (Nat.le_refl _))
theorem retG_after {g:Bool} {nx:Nat} {v:SV} {m':Mem} {nx':Nat} {K:SV→Mem→Nat→VC} {Γ:Base} {E E':Nat→Nat} {w:World} (h:(retG g nx v m' nx' K).holds)(hs:SatM Γ E' m' nx' w)
  (hg:Γ.nx0≤nx) (hE: ∀ k,k<nx→E' k=E k) (hn:nx≤nx'):After (lift K) Γ E nx (v.val E') w:=by
 cases g with
 | false=>exact retK_after h hs hg hE hn
 | true=>exact retK_after h hs.swept hg hE hn
theorem retG_mono {g:Bool} {nx:Nat} {v:SV} {m':Mem} {nx':Nat} {K K':SV→Mem→Nat→VC} (hK: ∀ v m nx,(K v m nx).holds→(K' v m nx).holds)(h:(retG g nx v m' nx' K).holds):(retG g nx v m' nx' K').holds:=by
 cases g with
 | false=>exact retK_mono hK h
 | true=>exact retK_mono hK h
inductive Ex where
 | normal
 | exit (id:Nat)
 | ret
def Ex.to:Ex→Exit
 | .normal=>.normal
 | .exit id=>.exit id
 | .ret=>.ret
def Ex.jump:Ex→Option Code
 | .normal=>none
 | .exit id=>some (.exit id)
 | .ret=>some .ret
abbrev XK:=Ex→St→VC
abbrev XP:=SV→St→VC
def noX:XP:=fun _ _=>.fail "a panic"
def noP:PK:=fun _ _ _=>.fail "a panic"
def BehindXP (X:XP)(Γ:Base)(E:Nat→Nat)(nx:Nat)(e:Exit)(a:Act)(w:World):Prop :=
 ∃ v E' st',e=.panic [{v:=SV.val E' v,recovered:=false}]∧v.wf st'.nx=true∧(∀ k,k<nx→E' k=E k)∧nx≤st'.nx∧Sat Γ E' st' a w∧(X v st').holds
def BehindX (K:XK)(X:XP)(Γ:Base)(E:Nat→Nat)(nx:Nat)(e:Exit)(a:Act)(w:World):Prop :=
 (∃ ex:Ex,e=ex.to∧Behind (K ex) Γ E nx a w)∨BehindXP X Γ E nx e a w
theorem BehindXP.weaken {X:XP} {Γ:Base} {E E':Nat→Nat} {nx nx':Nat} {e:Exit} {a:Act} {w:World} (h:BehindXP X Γ E' nx' e a w)(hE: ∀ k,k<nx→E' k=E k)(hn:nx≤nx') :
  BehindXP X Γ E nx e a w:=by
 obtain⟨v,E'',st'',k0,kw,k1,k2,k3,k4⟩:=h
 exact⟨v,E'',st'',k0,kw,fun k hk=>(k1 k (Nat.lt_of_lt_of_le hk hn)).trans (hE k hk),Nat.le_trans hn k2,k3,k4⟩
theorem BehindX.weaken {K:XK} {X:XP} {Γ:Base} {E E':Nat→Nat} {nx nx':Nat} {e:Exit} {a:Act} {w:World} (h:BehindX K X Γ E' nx' e a w)(hE: ∀ k,k<nx→E' k=E k)(hn:nx≤nx') :
  BehindX K X Γ E nx e a w:=by
 rcases h with ⟨ex,he,E'',st'',k1,k2,k3,k4⟩ | h
 ·exact .inl ⟨ex,he,E'',st'',fun k hk=>(k1 k (Nat.lt_of_lt_of_le hk hn)).trans (hE k hk),Nat.le_trans hn k2,k3,k4⟩
 ·exact .inr (h.weaken hE hn)
theorem BehindXP.none {Γ:Base} {E:Nat→Nat} {nx:Nat} {e:Exit} {a:Act} {w:World} (h:BehindXP noX Γ E nx e a w):False:=by
 obtain⟨_,_,_,_,_,_,_,_,h⟩:=h
 exact h.elim
theorem Mem.wf_mono {n k:Nat} (h:n≤k): ∀ {m:Mem},Mem.wf n m=true→Mem.wf k m=true
 | [],_=>rfl
 | e::r,hm=>by
   simp only[Mem.wf,Bool.and_eq_true] at hm ⊢
   exact⟨SB.wf_mono h hm.1,Mem.wf_mono h hm.2⟩
def setPs:List Nat→List SV→List (Option SV)→List (Option SV)
 | p::ps,v::vs,t=>setPs ps vs (t.set p (some v))
 | _,_,t=>t
theorem setPs_ok {E:Nat→Nat} {ds:List Deferred}: ∀ {ps:List Nat} {vs:List SV} {tmps:List (Option SV)} {ts:Array Value},TmpsOk E tmps ⟨ts,ds⟩ →
  TmpsOk E (setPs ps vs tmps) ⟨(ps.zip (SV.vals E vs)).foldl (fun t (p,v)=>t.setIfInBounds p v) ts,ds⟩
 | [],vs,tmps,ts,h=>by simpa [setPs] using h
 | p::ps,[],tmps,ts,h=>by simpa [setPs,SV.vals] using h
 | p::ps,v::vs,tmps,ts,h=>by
   simp only[setPs,SV.vals,List.zip_cons_cons,List.foldl_cons]
   refine setPs_ok ?_
   have:=h.put (dst:=some p) (sv:=some v) (r:=v.val E) (fun u hu=>by injection hu with hu;subst hu;rfl)
   exact this
theorem setPs_wf {nx:Nat}: ∀ {ps:List Nat} {vs:List SV} {tmps:List (Option SV)},wfTmps nx tmps=true→SV.wfs nx vs=true→wfTmps nx (setPs ps vs tmps)=true
 | [],vs,tmps,h,_=>by simpa [setPs] using h
 | p::ps,[],tmps,h,_=>by simpa [setPs] using h
 | p::ps,v::vs,tmps,h,hv=>by
   simp only[SV.wfs,Bool.and_eq_true] at hv
   simp only[setPs]
   exact setPs_wf (wfTmps_set h (fun u hu=>by injection hu with hu;subst hu;exact hv.1)) hv.2
def yieldPT (kl:Nat)(R:Loop)(ps:List Nat)(tmps0:List (Option SV))(fa fb:XK→St→VC):PT:=fun args m nx K =>
 match m.get kl,Nat.beq ps.length args.length with
 | some (.loop .ready none R'),true=>.and (.atom (R'=R)) (fa (fun e st1=>match e with
    | .normal=>(match st1.m.get kl with
      | some (.loop .ready pe R1)=>fb (fun e st2=>match st2.m.get kl with
         | some (.loop _ _ R2)=>(match e with
           | .normal=>retK nx (.bool true true) (st2.m.put kl (.loop .ready none R2)) st2.nx K
           | .exit id=>retK nx (.bool true false) (st2.m.put kl (.loop .done (some (.exit id)) R2)) st2.nx K
           | .ret=>retK nx (.bool true false) (st2.m.put kl (.loop .done (some .ret) R2)) st2.nx K)
         | _=>.fail "yield: the record") ⟨st1.tmps,st1.m.put kl (.loop .busy pe R1),st1.nx⟩
      | _=>.fail "yield: the record")
    | _=>.fail "yield: a jump out of an assignment") ⟨setPs ps args tmps0,m,nx⟩)
 | _,_=>.fail "yield: the record"
section
variable {P : Program} {Γ : Base}
theorem SatM.putLoop {E:Nat→Nat} {m:Mem} {nx:Nat} {w:World} (h:SatM Γ E m nx w) {k:Nat} {st st':LoopState} {pe pe':Option Code} {R:Loop} (hk:m.get k=some (.loop st pe R)) :
  SatM Γ E (m.put k (.loop st' pe' R)) nx (w.putObj (E k) (.loop {R with state:=st',pending:=pe'})) :=
 h.write hk rfl rfl rfl rfl
theorem yieldPT_ok {kl l:Nat} {R:Loop} {tmps0:List (Option SV)} {fa fb:XK→St→VC} {E1:Nat→Nat} (hkl:kl<Γ.nx0)(hl:Γ.E0 kl=l)(h1: ∀ k,k<kl→Γ.E0 k=E1 k)
  (ht:TmpsOk E1 tmps0 ⟨R.tmps,[]⟩) (hw:wfTmps kl tmps0=true)
  (ia: ∀ Δ,Γ.le Δ→∀ K st E a w,(fa K st).holds→Sat Δ E st a w→R.assign.wpIn (Fr (some l)) 0 P (BehindX K noX Δ E st.nx) a w)
  (ib: ∀ Δ,Γ.le Δ→∀ K st E a w,(fb K st).holds→Sat Δ E st a w→R.body.wpIn (Fr (some l)) 0 P (BehindX K noX Δ E st.nx) a w) (KP:PK) :
  COk P Γ KP (.yield kl) (yieldPT kl R R.params.toList tmps0 fa fb):=by
 intro Δ' hle' args m nx K h hwf hargs E w hs'
 refine Out.mono (R:=After (lift K) Δ'.own E nx) (RP:=AfterP KP Δ'.own E nx) ?_ (fun _ _ h=>h.unown) (fun _ _ h=>h.unown)
 have hle:=Base.le_trans hle' Δ'.own_le
 have hs:=hs'.own'
 have htl:Δ'.own.tail=[]:=rfl
 generalize Δ'.own=Δ at hle hs htl ⊢
 unfold yieldPT at h
 have hkΔ:kl<Δ.nx0:=Nat.lt_of_lt_of_le hkl hle.nx
 have hEl: ∀ E':Nat→Nat,(∀ k,k<Δ.nx0→E' k=Δ.E0 k)→E' kl=l:=fun E' hE'=>(hE' kl hkΔ).trans ((hle.e kl hkl).trans hl)
 split at h
 ·rename_i R' hk hlen
  obtain⟨hR,h⟩:=h
  have hR:R'=R:=hR
  subst hR
  have hlen:R'.params.toList.length=args.length:=Nat.eq_of_beq_eq_true hlen
  have hE:E kl=l:=hEl E hs.cx.2
  obtain⟨o,ho,hb⟩:=hs.blk kl _ hk rfl
  have hb:o=.loop {R' with state:=.ready,pending:=none}:=hb
  subst hb
  rw[hE] at ho
  have hrun:(Cal.sem E (.yield kl) (SV.vals E args).toArray).run P w=.ok (.round l R'.fn ((R'.params.zip (SV.vals E args).toArray).foldl (fun tmps (t,a)=>tmps.setIfInBounds t a) R'.tmps) R'.assign R'.body) w:=by
   simp only[Cal.sem,hE]
   exact run_yield (r:={R' with state:=.ready,pending:=none}) ho (by simpa [SV.vals_eq] using hlen.symm)
  rw[hrun]
  simp only[Out]
  have hE1: ∀ k,k<kl→E k=E1 k:=fun k hk=>(hs.cx.2 k (Nat.lt_trans hk hkΔ)).trans ((hle.e k (Nat.lt_trans hk hkl)).trans (h1 k hk))
  have hnx:kl≤nx:=Nat.le_of_lt (Nat.lt_of_lt_of_le hkΔ hs.cx.1)
  have hsat:Sat Δ E ⟨setPs R'.params.toList args tmps0,m,nx⟩ ⟨(R'.params.zip (SV.vals E args).toArray).foldl (fun tmps (t,a)=>tmps.setIfInBounds t a) R'.tmps,[]⟩ w:=by
   refine⟨?_,setPs_wf (wfTmps_mono hnx hw) hargs,Marks.nil _ _ htl,hs⟩
   have:=setPs_ok (ps:=R'.params.toList) (vs:=args) (ht.congr hw hE1)
   rw[← Array.foldl_toList,Array.toList_zip]
   exact this
  refine roundIn_of_wpIn (F:=Fence.wide) trivial (wpIn_mono (ia Δ hle _ _ E _ w h hsat) ?_)
  rintro e a1 w1 (⟨ex,rfl,E2,st1,g1,g2,g3,g4⟩ | hp)
  rotate_left
  ·exact hp.none.elim
  cases ex with
  | exit id=>exact g4.elim
  | ret=>exact g4.elim
  | normal =>
    simp only[Ex.to,Exit.then]
    simp only at g4
    split at g4
    ·rename_i pe R1 hk1
     have hE2:E2 kl=l:=hEl E2 g3.mm.cx.2
     obtain⟨o1,ho1,hb1⟩:=g3.mm.blk kl _ hk1 rfl
     have hb1:o1=.loop {R1 with state:=.ready,pending:=pe}:=hb1
     subst hb1
     rw[hE2] at ho1
     refine⟨_,run_beginRound ho1 rfl,?_⟩
     have hm2:=g3.mm.putLoop (st':=.busy) (pe':=pe) hk1
     rw[hE2] at hm2
     have hsat2:Sat Δ E2 ⟨st1.tmps,st1.m.put kl (.loop .busy pe R1),st1.nx⟩ a1 (w1.putObj l (.loop {R1 with state:=.busy,pending:=pe})):=by
      refine⟨g3.tm,g3.wt,?_,hm2⟩
      obtain⟨Ds,d1,d2,d3,d4⟩:=g3.df
      refine⟨Ds,d1,d2,fun D hD=>⟨?_,(d3 D hD).2⟩,d4⟩
      have hne:D≠l:=fun e=>by
       have:=(d3 D hD).1
       rw[e,ho1] at this;cases this
      rw[World.putObj_heap_other hne];exact(d3 D hD).1
     refine wpIn_mono (ib Δ hle _ _ E2 _ _ g4 hsat2) ?_
     rintro e a2 w2 (⟨ex,rfl,E3,st2,q1,q2,q3,q4⟩ | hp)
     rotate_left
     ·exact hp.none.elim
     simp only at q4
     split at q4
     ·rename_i s2 pe2 R2 hk2
      have hE3:E3 kl=l:=hEl E3 q3.mm.cx.2
      obtain⟨o2,ho2,hb2⟩:=q3.mm.blk kl _ hk2 rfl
      have hb2:o2=.loop {R2 with state:=s2,pending:=pe2}:=hb2
      subst hb2
      rw[hE3] at ho2
      have hEE: ∀ k,k<nx→E3 k=E k:=fun k hk=>(q1 k (Nat.lt_of_lt_of_le hk g2)).trans (g1 k hk)
      have hnn:nx≤st2.nx:=Nat.le_trans g2 q2
      have fin: ∀(j:Option Code),(retK nx (.bool true j.isNone) (st2.m.put kl (.loop (if j.isNone then .ready else .done) j R2)) st2.nx K).holds →
        ∃ v w',(Instr.endRound l j).run P w2=.ok v w'∧∃ u,Ending.returned v=.returned u∧After (lift K) Δ E nx u w':=by
       intro j hh
       refine⟨_,_,run_endRound j ho2,_,rfl,?_⟩
       have hm3:=q3.mm.putLoop (st':=if j.isNone then .ready else .done) (pe':=j) hk2
       rw[hE3] at hm3
       exact retK_after (v:=.bool true j.isNone) hh hm3 hs.cx.1 hEE hnn
      cases ex with
      | normal=>exact fin none q4
      | exit id=>exact fin (some (.exit id)) q4
      | ret=>exact fin (some .ret) q4
     ·exact q4.elim
    ·exact g4.elim
 ·exact h.elim
theorem yieldPT_mono {kl:Nat} {R:Loop} {ps:List Nat} {tmps0:List (Option SV)} {fa fb:XK→St→VC} (ia: ∀(K K':XK) st,(∀ e st',(K e st').holds→(K' e st').holds)→(fa K st).holds→(fa K' st).holds)
  (ib: ∀(K K':XK) st,(∀ e st',(K e st').holds→(K' e st').holds)→(fb K st).holds→(fb K' st).holds):MonoPT (yieldPT kl R ps tmps0 fa fb):=by
 intro args m nx K K' hK h
 unfold yieldPT at h ⊢
 split at h
 ·refine⟨h.1,ia _ _ _ (fun e st1 h1=> ?_) h.2⟩
  cases e with
  | exit id=>exact h1
  | ret=>exact h1
  | normal =>
    simp only at h1 ⊢
    split at h1
    ·refine ib _ _ _ (fun e st2 h2=> ?_) h1
     split at h2
     ·cases e<;>exact retK_mono hK h2
     ·exact h2
    ·exact h1
 ·exact h
theorem SatM.enter {E:Nat→Nat} {m:Mem} {nx:Nat} {w:World} (h:SatM Γ E m nx w)(hw:Mem.wf nx m=true) {R:Loop} (hR:R.state=.ready)(hp:R.pending=none) {Ds:List Nat} (hD: ∀ D∈ Ds,w.heap[D]?=some (Obj.deferred (some []))) :
  ∃ Δ:Base,Γ.le Δ∧(∀ D,D∈ w.heap.size::(Ds++Γ.keep)→D∈ Δ.keep)∧Δ.nx0=nx+1∧Δ.E0=(fun k=>if k=nx then w.heap.size+1 else E k) ∧
    SatM Δ Δ.E0 ((nx,.loop .ready none R)::m) (nx+1) ((w.alloc (Obj.deferred (some []))).alloc (.loop R)):=by
 have hE: ∀ k,k<nx→(fun k=>if k=nx then w.heap.size+1 else E k) k=E k:=fun k hk=>by simp[Nat.ne_of_lt hk]
 refine⟨{Γ with nx0:=nx+1,E0:=fun k=>if k=nx then w.heap.size+1 else E k,keep:=w.heap.size::(Ds++Γ.keep)},⟨rfl,rfl,Nat.le_succ_of_le h.cx.1,fun k hk=> ?_,fun D hD=>List.mem_cons_of_mem _ (List.mem_append_right _ hD)⟩,
  fun D hD=>hD,rfl,rfl,?_⟩
 ·exact(hE k (Nat.lt_of_lt_of_le hk h.cx.1)).trans (h.cx.2 k hk)
 ·have hm1:SatM {Γ with keep:=w.heap.size::(Ds++Γ.keep)} E m nx (w.alloc (Obj.deferred (some []))):=by
   have hold: ∀ i,i<w.heap.size→(w.alloc (Obj.deferred (some []))).heap[i]?=w.heap[i]?:=fun i hi=>by
    show(w.heap.push _)[i]?=_
    rw[Array.getElem?_push,if_neg (by omega)]
   refine⟨fun k B hk hn=> ?_,h.inj,h.lt,h.own,⟨h.ext.os,h.ext.tape,h.ext.output,?_,fun k hk hm=> ?_⟩,h.cx,fun D hD2=> ?_⟩
   ·obtain⟨o,ho,hb⟩:=h.blk k B hk hn
    exact⟨o,by rw[hold _ (Array.getElem?_eq_some_iff.1 ho).1];exact ho,hb⟩
   ·have:=h.ext.size
    show _≤(w.heap.push _).size
    simp;omega
   ·rw[hold k (Nat.lt_of_lt_of_le hk h.ext.size)];exact h.ext.block k hk hm
   ·have hold2: ∀ D,w.heap[D]?=some (Obj.deferred (some []))→(w.alloc (Obj.deferred (some []))).heap[D]?=some (Obj.deferred (some [])):=fun D hd=>by
     rw[hold D (Array.getElem?_eq_some_iff.1 hd).1];exact hd
    rcases List.mem_cons.1 hD2 with e | hD2
    ·subst e
     show(w.heap.push _)[w.heap.size]?=_
     simp
    ·rcases List.mem_append.1 hD2 with h1 | h1
     ·exact hold2 D (hD D h1)
     ·exact hold2 D (h.kp D h1)
  have hsz:(w.alloc (Obj.deferred (some []))).heap.size=w.heap.size+1:=by show(w.heap.push _).size=_;simp
  have hm2:=hm1.alloc hw (B:=.loop .ready none R) (o:=.loop R) (by
   show Obj.loop R=.loop {R with state:=.ready,pending:=none}
   rw[← hR,← hp])
  rw[hsz] at hm2
  exact⟨hm2.blk,hm2.inj,hm2.lt,hm2.own,hm2.ext,⟨Nat.le_refl _,fun k hk=>rfl⟩,hm2.kp⟩
theorem SatM.leave {E:Nat→Nat} {m:Mem} {nx:Nat} {w:World} (h:SatM Γ E m nx w) {k:Nat} {st st':LoopState} {pe pe':Option Code} {R:Loop} (hk:m.get k=some (.loop st pe R)) :
  SatM Γ E (m.drop k) nx (w.putObj (E k) (.loop {R with state:=st',pending:=pe'})):=by
 refine(h.putLoop (st':=st') (pe':=pe') hk).sub (fun j B hj=> ?_) (fun j B hj=>h.lt j B (Mem.get_drop hj).2) (.inl (Nat.le_refl _))
 obtain⟨hne,hj⟩:=Mem.get_drop hj
 rw[Mem.get_put_ne hne];exact hj
end
theorem stepR_scope {P:Program} {b:Frame} {a:Act} {k:List Item} {cs:List Frame} {w:World} {c:Code}:step P (lone (b.atR a (.code (.scope c)::k)) cs w)=.next (lone (b.atR a (.code c::.inScope c::k)) cs w) :=
 step_lone_go (by simp[Go.stepG,Go.stepG.exec,Frame.atR])
theorem stepR_inScope {P:Program} {b:Frame} {a:Act} {k:List Item} {cs:List Frame} {w:World} {c:Code}:step P (lone (b.atR a (.inScope c::k)) cs w)=.next (lone (b.atR a k) cs w) :=
 step_lone_go (by simp[Go.stepG,Go.stepG.exec,Frame.atR])
theorem wpIn_scope_straight {F:Fence} {n:Nat} {P:Program} {Q:Exit→Act→World→Prop} {a:Act} {w:World} {c:Code} (h:c.wpIn F n P (Exit.noGoto Q) a w):(Code.scope c).wpIn F n P Q a w:=by
 intro b k cs hro hb hr
 have h0:(lone (b.atR a (.code (.scope c)::k)) cs w).fenced P F:=fenced_calm hb hr rfl
 obtain⟨e,a₁,w₁,hq,harr⟩:=h b (.inScope c::k) cs hro hb hr
 cases e with
 | normal=>exact⟨.normal,a₁,w₁,hq,.head h0 stepR_scope (StepsIn.trans harr (.one (fenced_calm hb hr rfl) stepR_inScope))⟩
 | exit id =>
   have hx:exitTo id (.inScope c::k)=exitTo id k:=by simp[exitTo]
   exact⟨.exit id,a₁,w₁,hq,fun k' hk=>.head h0 stepR_scope (harr.1 k' (by rw[hx];exact hk)),
    fun hr' hk=>let ⟨k₁,h1,h2⟩:=harr.2 hr' (by rw[hx];exact hk);⟨k₁,h1,.head h0 stepR_scope h2⟩⟩
 | goto l=>exact hq.elim
 | ret=>exact⟨_,a₁,w₁,hq,.of_steps (.one h0 stepR_scope) harr⟩
 | panic ch=>exact⟨_,a₁,w₁,hq,.of_steps (.one h0 stepR_scope) harr⟩
 | outgrown=>exact⟨_,a₁,w₁,hq,.of_steps (.one h0 stepR_scope) harr⟩
end
end Go.Proofs.YtoalfimkkibpdaaGreatDoor.Sx
