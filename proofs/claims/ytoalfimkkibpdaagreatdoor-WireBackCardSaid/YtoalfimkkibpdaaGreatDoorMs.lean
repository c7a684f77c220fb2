/-
  The framework's part 30: contracts of functions that reach several blocks of their caller's.
-/
import Derived.Test.YtoalfimkkibpdaaGreatDoorMo
import Derived.Test.YtoalfimkkibpdaaGreatDoorMr
namespace Go.Proofs.YtoalfimkkibpdaaGreatDoor.Sx
open Go
noncomputable section
mutual
def SV.ren (ρ:Nat→Nat):SV→SV
 | .ptr k l o=>.ptr (ρ k) l o
 | .eptr k w i j=>.eptr (ρ k) w i j
 | .aptr k b n i=>.aptr (ρ k) b n i
 | .slc k o n l c=>.slc (ρ k) o n l c
 | .rslc k w z i n c=>.rslc (ρ k) w z i n c
 | .vslc k w z o i n c=>.vslc (ρ k) w z o i n c
 | .veptr k w o i j=>.veptr (ρ k) w o i j
 | .map k=>.map (ρ k)
 | .yield k=>.yield (ρ k)
 | .agg cs=>.agg (SV.rens ρ cs)
 | .tup vs=>.tup (SV.rens ρ vs)
 | .iface t v=>.iface t (v.ren ρ)
 | .func fn a b=>.func fn (SV.rens ρ a) (SV.rens ρ b)
 | .int k l n=>.int k l n
 | .bool l b=>.bool l b
 | .str l s=>.str l s
 | .nilptr=>.nilptr
 | .nilslc=>.nilslc
 | .niliface=>.niliface
 | .nilfunc=>.nilfunc
 | .nilmap=>.nilmap
 | .raw v=>.raw v
def SV.rens (ρ:Nat→Nat):List SV→List SV
 | []=>[]
 | x::r=>x.ren ρ::SV.rens ρ r
end
mutual
theorem SV.ren_val (ρ E:Nat→Nat):(v:SV)→(v.ren ρ).val E=v.val (fun k=>E (ρ k))
 | .agg cs=>by simp only[SV.ren,SV.val,SV.rens_val ρ E cs]
 | .tup cs=>by simp only[SV.ren,SV.val,SV.rens_val ρ E cs]
 | .iface t v=>by simp only[SV.ren,SV.val,SV.ren_val ρ E v]
 | .func fn a b=>by simp only[SV.ren,SV.val,SV.rens_val ρ E a,SV.rens_val ρ E b]
 | .ptr .. =>rfl
 | .eptr .. =>rfl
 | .aptr .. =>rfl
 | .slc .. =>rfl
 | .rslc .. =>rfl
 | .vslc .. =>rfl
 | .veptr .. =>rfl
 | .map .. =>rfl
 | .yield .. =>rfl
 | .int .. =>rfl
 | .bool .. =>rfl
 | .str .. =>rfl
 | .nilptr=>rfl
 | .nilslc=>rfl
 | .niliface=>rfl
 | .nilfunc=>rfl
 | .nilmap=>rfl
 | .raw .. =>rfl
theorem SV.rens_val (ρ E:Nat→Nat):(l:List SV)→SV.vals E (SV.rens ρ l)=SV.vals (fun k=>E (ρ k)) l
 | []=>rfl
 | x::r=>by simp only[SV.rens,SV.vals,SV.ren_val ρ E x,SV.rens_val ρ E r]
end
theorem SV.rens_get {ρ:Nat→Nat}: ∀ {l:List SV} {i:Nat} {u:SV},(SV.rens ρ l)[i]?=some u→∃ v,l[i]?=some v∧u=v.ren ρ
 | [],i,u,h=>by simp[SV.rens] at h
 | x::r,0,u,h=>by simp[SV.rens] at h;exact⟨x,rfl,h.symm⟩
 | x::r,i+1,u,h=>by
   simp only[SV.rens,List.getElem?_cons_succ] at h
   obtain⟨v,h1,h2⟩:=SV.rens_get h
   exact⟨v,by simpa using h1,h2⟩
def esRen (ρ:Nat→Nat):List (Nat×SV×SV)→List (Nat×SV×SV)
 | []=>[]
 | e::r=>(e.1,e.2.1.ren ρ,e.2.2.ren ρ)::esRen ρ r
theorem esRen_ents (ρ E:Nat→Nat): ∀ es:List (Nat×SV×SV),ents E (esRen ρ es)=ents (fun k=>E (ρ k)) es
 | []=>rfl
 | e::r=>by
   have:=esRen_ents ρ E r
   simp only[ents,esRen,List.map_cons] at this ⊢
   rw[SV.ren_val,SV.ren_val,this]
def SB.ren (ρ:Nat→Nat):SB→SB
 | .cells cs tot ty=>.cells (SV.rens ρ cs) tot ty
 | .map es c=>.map (esRen ρ es) c
 | .mit (some k) a b c=>.mit (some (ρ k)) a b c
 | B=>B
theorem SB.ren_no (ρ:Nat→Nat)(B:SB):(B.ren ρ).no=B.no:=by
 cases B<;>try rfl
 rename_i mp _ _ _;cases mp<;>rfl
theorem BlkOk.ren {ρ E:Nat→Nat} {B:SB} {o:Obj} (h:BlkOk (fun k=>E (ρ k)) B o):BlkOk E (B.ren ρ) o:=by
 cases B with
 | cells cs tot ty =>
   obtain⟨c,fr,h1,h2,h3,h4⟩:=h
   refine⟨c,fr,h1,h2,fun i u hu=> ?_,h4⟩
   obtain⟨v,g1,g2⟩:=SV.rens_get hu
   subst g2
   rw[SV.ren_val];exact h3 i v g1
 | map es c =>
   have h:o=.map (ents _ es).toArray c:=h
   show o=.map (ents E (esRen ρ es)).toArray c
   rw[esRen_ents,h]
 | mit mp a b c =>
   cases mp with
   | none=>exact h
   | some k=>exact h
 | rows=>exact h.congr (nx:=0) (fun k hk=>absurd hk (Nat.not_lt_zero _)) rfl
 | view=>exact h.congr (nx:=0) (fun k hk=>absurd hk (Nat.not_lt_zero _)) rfl
 | loop=>exact h
 | fmap=>exact h
def sameArgs (base:Nat):List SV→List SV→Ren→(Ren→VC)→VC
 | [],[],ren,t=>t ren
 | h::hs,u::us,ren,t=>sameSV base ren h u (fun ren=>sameArgs base hs us ren t)
 | _,_,_,_=>.fail "call: so many arguments"
theorem sameArgs_sound {base:Nat}: ∀ {hs us:List SV} {ren:Ren} {t:Ren→VC},(sameArgs base hs us ren t).holds →
  ∃ ren',ren.le ren'∧(t ren').holds∧∀ ren'' (E:Nat→Nat),ren'.le ren''→SV.vals (Ren.E base ren'' E) hs=SV.vals E us
 | [],[],ren,t,h=>⟨ren,Ren.le_refl _,h,fun _ _ _=>rfl⟩
 | h::hs,u::us,ren,t,hh=>by
   simp only[sameArgs] at hh
   obtain⟨r1,h1,h2,h3⟩:=sameSV_sound hh
   obtain⟨r2,g1,g2,g3⟩:=sameArgs_sound h2
   exact⟨r2,Ren.le_trans h1 g1,g2,fun r'' E hle=>by simp only[SV.vals];rw[h3 r'' E (Ren.le_trans g1 hle),g3 r'' E hle]⟩
 | [],_::_,_,_,h=>h.elim
 | _::_,[],_,_,h=>h.elim
theorem matchKey_mono {base:Nat} {ren:Ren} {kh k1:Nat} {t t':Ren→VC} (ht: ∀ r,(t r).holds→(t' r).holds)(h:(matchKey base ren kh k1 t).holds):(matchKey base ren kh k1 t').holds:=by
 unfold matchKey at h ⊢
 revert h
 cases Nat.blt kh base with
 | true =>
   by_cases e:kh=k1
   ·simp only[if_pos e];exact ht _
   ·simp only[if_neg e];exact id
 | false =>
   cases ren.get kh with
   | none=>exact ht _
   | some k =>
     by_cases e:k=k1
     ·simp only[if_pos e];exact ht _
     ·simp only[if_neg e];exact id
theorem matchKey_mono1 {base:Nat} {ren:Ren} {kh k1:Nat} {p:Prop} {t t':Ren→VC} (ht: ∀ r,(t r).holds→(t' r).holds)(h:(matchKey base ren kh k1 fun r=>.and (.atom p) (t r)).holds):(matchKey base ren kh k1 fun r=>.and (.atom p) (t' r)).holds :=
 matchKey_mono (t:=fun r=>.and (.atom p) (t r)) (fun r h=>And.intro h.1 (ht r h.2)) h
theorem matchKey_mono2 {base:Nat} {ren:Ren} {kh k1:Nat} {p:Prop} {q:VC} {t t':Ren→VC} (ht: ∀ r,(t r).holds→(t' r).holds)(h:(matchKey base ren kh k1 fun r=>.and (.atom p) (.and q (t r))).holds):(matchKey base ren kh k1 fun r=>.and (.atom p) (.and q (t' r))).holds :=
 matchKey_mono (t:=fun r=>.and (.atom p) (.and q (t r))) (fun r h=>And.intro h.1 (And.intro h.2.1 (ht r h.2.2))) h
theorem samePtrs_mono {base:Nat}: ∀ {a b:List SV} {ren:Ren} {t t':Ren→VC},(∀ r,(t r).holds→(t' r).holds)→(samePtrs base a b ren t).holds→(samePtrs base a b ren t').holds
 | a,b,ren,t,t',ht,h=>by
   revert h
   unfold samePtrs
   split
   ·exact ht _
   ·exact matchKey_mono (t:=fun r=>.and (.atom _) (samePtrs base _ _ r t)) (fun r h=>And.intro h.1 (samePtrs_mono ht h.2))
   ·exact id
theorem sameCell_mono {base:Nat} {ren:Ren} {a b:SV} {t t':Ren→VC} (ht: ∀ r,(t r).holds→(t' r).holds):(sameCell base ren a b t).holds→(sameCell base ren a b t').holds:=by
 unfold sameCell
 split<;>first
  | exact ht _
  | exact fun h=>And.intro h.1 (ht _ h.2)
  | exact matchKey_mono ht
  | exact matchKey_mono1 ht
  | exact matchKey_mono2 ht
  | (split<;>first
    | exact id
    | exact fun h=>And.intro h.1 (ht _ h.2)
    | exact matchKey_mono1 ht
    | exact matchKey_mono2 ht
    | exact samePtrs_mono (fun _ h=>samePtrs_mono ht h))
theorem sameCells_mono {base:Nat}: ∀ {a b:List SV} {ren:Ren} {t t':Ren→VC},(∀ r,(t r).holds→(t' r).holds)→(sameCells base a b ren t).holds→(sameCells base a b ren t').holds
 | [],[],_,_,_,ht,h=>ht _ h
 | _::_,_::_,_,_,_,ht,h=>sameCell_mono (fun _ h=>sameCells_mono ht h) h
 | [],_::_,_,_,_,_,h=>h.elim
 | _::_,[],_,_,_,_,h=>h.elim
theorem sameSV_mono {base:Nat} {ren:Ren} {a b:SV} {t t':Ren→VC} (ht: ∀ r,(t r).holds→(t' r).holds)(h:(sameSV base ren a b t).holds):(sameSV base ren a b t').holds:=by
 unfold sameSV at h ⊢
 split at h
 ·exact sameCells_mono ht h
 ·exact sameCells_mono ht h
 ·split at h
  ·rename_i e
   rw[if_pos e]
   split at h
   ·exact sameCells_mono ht h
   ·exact sameCell_mono ht h
  ·exact h.elim
 ·exact sameCell_mono ht h
theorem sameArgs_mono {base:Nat}: ∀ {a b:List SV} {ren:Ren} {t t':Ren→VC},(∀ r,(t r).holds→(t' r).holds)→(sameArgs base a b ren t).holds→(sameArgs base a b ren t').holds
 | [],[],_,_,_,ht,h=>ht _ h
 | _::_,_::_,_,_,_,ht,h=>sameSV_mono (fun _ h=>sameArgs_mono ht h) h
 | [],_::_,_,_,_,_,h=>h.elim
 | _::_,[],_,_,_,_,h=>h.elim
theorem sameMem_mono {base:Nat} {m:Mem}: ∀ {l:List (Nat×SB)} {used:List Nat} {ren:Ren} {t t':Ren→VC},(∀ r,(t r).holds→(t' r).holds)→(sameMem base m l used ren t).holds→(sameMem base m l used ren t').holds
 | [],_,_,_,_,ht,h=>ht _ h
 | (k0,B0)::r,used,ren,t,t',ht,h=>by
   simp only[sameMem] at h ⊢
   revert h
   cases renKey base ren k0 with
   | none =>
     cases B0.wf base with
     | true=>exact fun h=>And.intro h.1 (sameMem_mono ht h.2)
     | false=>exact id
   | some k1 =>
     by_cases hu:used.contains k1=true
     ·simp only[if_pos hu];exact id
     ·simp only[if_neg hu]
      cases m.get k1 with
      | none=>exact id
      | some B =>
        cases B0.wf base with
        | true=>exact fun h=>And.intro h.1 (sameMem_mono ht h.2)
        | false =>
          cases B0<;>try exact id
          cases B<;>try exact id
          rename_i cs' tot' ty' cs tot ty
          by_cases e:ty'=ty
          ·simp only[if_pos e];exact fun h=>And.intro h.1 (sameCells_mono (fun _ h=>sameMem_mono ht h) h.2)
          ·simp only[if_neg e];exact id
inductive MAns:Type 1 where
 | ret (v:SV) (back:Mem)
 | fork (b:Bool) (f:Bool→MAns)
 | all (α:Type) (f:α→MAns)
 | req (p:Prop) (a:MAns)
def MAns.give (g:SV→Mem→VC):MAns→VC
 | .ret v back=>g v back
 | .fork b f=>Sx.fork b fun c=>(f c).give g
 | .all α f=>.all α fun x=>(f x).give g
 | .req p a=>.imp p (a.give g)
def MAns.ask (g:SV→Mem→VC):MAns→VC
 | .ret v back=>g v back
 | .fork b f=>Sx.fork b fun c=>(f c).ask g
 | .all α f=>.ex α fun x=>(f x).ask g
 | .req p a=>.and (.atom p) (a.ask g)
theorem MAns.meet {g h:SV→Mem→VC}: ∀ {a:MAns},(a.ask g).holds→(a.give h).holds→∃ v back,(g v back).holds∧(h v back).holds
 | .ret v back,h1,h2=>⟨v,back,h1,h2⟩
 | .fork b f,h1,h2=>by
   simp only[MAns.ask,MAns.give,fork_iff] at h1 h2
   exact MAns.meet h1 h2
 | .all α f,⟨x,h1⟩,h2=>MAns.meet h1 (h2 x)
 | .req p a,⟨h0,h1⟩,h2=>MAns.meet h1 (h2 h0)
theorem MAns.give_mono {g h:SV→Mem→VC} (hg: ∀ v m,(g v m).holds→(h v m).holds): ∀ {a:MAns},(a.give g).holds→(a.give h).holds
 | .ret v back,h1=>hg _ _ h1
 | .fork b f,h1=>by
   simp only[MAns.give,fork_iff] at h1 ⊢
   exact MAns.give_mono hg h1
 | .all α f,h1=>fun x=>MAns.give_mono hg (h1 x)
 | .req p a,h1=>fun h0=>MAns.give_mono hg (h1 h0)
structure MemC where
 G:Type
 n:Nat
 N:Nat
 pre:G→Prop
 args:G→List SV
 mem:G→Mem
 ans:G→MAns
def renF (n:Nat)(ren:Ren)(nx k:Nat):Nat:=match Nat.blt k n,ren.get k with
 | true,some k1=>k1
 | _,_=>nx+k
def renM (ρ:Nat→Nat):Mem→Mem
 | []=>[]
 | e::r=>(ρ e.1,e.2.ren ρ)::renM ρ r
def rwKeys (ren:Ren):Mem→List Nat
 | []=>[]
 | e::r=>match e.2.ro,ren.get e.1 with
   | false,some k1=>k1::rwKeys ren r
   | _,_=>rwKeys ren r
def renLt (nx:Nat):Ren→Bool
 | []=>true
 | e::r=>Nat.blt e.2 nx&&renLt nx r
def backOk' (N:Nat):Mem→Bool
 | []=>true
 | e::r=>Nat.blt e.1 N&&(!e.2.ro)&&backOk' N r
def SV.renK (ρ:Nat→Nat)(v:SV):SV:=match v.wf 0 with
 | true=>v
 | false=>v.ren ρ
theorem SV.renK_val (ρ E:Nat→Nat)(v:SV):(v.renK ρ).val E=v.val (fun k=>E (ρ k)):=by
 unfold SV.renK
 split
 ·rename_i h;exact SV.val_congr (nx:=0) (fun k hk=>absurd hk (Nat.not_lt_zero _)) v h
 ·exact SV.ren_val ρ E v
def SV.renKs (ρ:Nat→Nat):List SV→List SV
 | []=>[]
 | v::r=>v.renK ρ::SV.renKs ρ r
theorem SV.renKs_val (ρ E:Nat→Nat): ∀ l:List SV,SV.vals E (SV.renKs ρ l)=SV.vals (fun k=>E (ρ k)) l
 | []=>rfl
 | v::r=>by simp only[SV.renKs,SV.vals,SV.renK_val,SV.renKs_val ρ E r]
def SV.renT (ρ:Nat→Nat):SV→SV
 | .tup vs=>.tup (SV.renKs ρ vs)
 | v=>v.renK ρ
theorem SV.renT_val (ρ E:Nat→Nat)(v:SV):(v.renT ρ).val E=v.val (fun k=>E (ρ k)):=by
 unfold SV.renT
 split
 ·simp only[SV.val,SV.renKs_val]
 ·exact SV.renK_val ρ E _
def clash:SV→SV→Bool
 | .bool true a,.bool true b=>a !=b
 | .int _ true a,.int _ true b=>!decide (a=b)
 | .niliface,.iface .. =>true
 | .iface ..,.niliface=>true
 | .nilptr,.ptr .. =>true
 | .ptr ..,.nilptr=>true
 | _,_=>false
def clashL:List SV→List SV→Bool
 | a::r,b::s=>match clash a b with
   | true=>true
   | false=>clashL r s
 | _,_=>false
def clashT:SV→SV→Bool
 | .tup a,.tup b=>clashL a b
 | a,b=>clash a b
def memPT (c:MemC):PT:=fun args m nx K=>.ex c.G fun x=>.and (.atom (c.pre x)) (sameArgs 0 (c.args x) args [] fun ren=>sameMem 0 m (c.mem x) [] ren fun ren=>match renLt nx ren with
 | true=>(c.ans x).give fun v back=>(match backOk' c.N back with
   | true=>K (v.renT (renF c.n ren nx)) (renM (renF c.n ren nx) back++keepMem (rwKeys ren (c.mem x)) m) (nx+c.N)
   | false=>.fail "call: blocks that are handed back")
 | false=>.fail "call: keys")
theorem memPT_mono (c:MemC):MonoPT (memPT c):=by
 intro args m nx K K' hK h
 obtain⟨x,h1,h2⟩:=h
 refine⟨x,h1,sameArgs_mono (fun ren h=>sameMem_mono (fun ren h=> ?_) h) h2⟩
 cases hr:renLt nx ren with
 | false=>simp only[hr] at h;exact h.elim
 | true =>
   simp only[hr] at h ⊢
   refine MAns.give_mono (fun v back=> ?_) h
   cases backOk' c.N back with
   | false=>exact id
   | true=>exact hK _ _ _
def MemC.fit (c:MemC)(x:c.G):SV→Mem→Nat→VC:=fun v m _=>(c.ans x).ask fun u back=>match clashT u v with
 | true=>.fail "call: another way"
 | false=>sameArgs c.n [u] [v] [] fun ren=>sameMem c.n m back [] ren fun _=>.tt
theorem renLt_get {nx:Nat}: ∀ {ren:Ren} {k k1:Nat},renLt nx ren=true→ren.get k=some k1→k1<nx
 | [],_,_,_,h=>by cases h
 | e::r,k,k1,hb,h=>by
   simp only[renLt,Bool.and_eq_true,Nat.blt_eq] at hb
   by_cases he:e.1=k
   ·rw[Ren.get,if_pos he] at h;injection h with h;subst h;exact hb.1
   ·rw[Ren.get,if_neg he] at h;exact renLt_get hb.2 h
theorem backOk_get {N:Nat}: ∀ {m:Mem} {k:Nat} {B:SB},backOk' N m=true→m.get k=some B→k<N∧B.ro=false
 | [],_,_,_,h=>by cases h
 | e::r,k,B,hb,h=>by
   simp only[backOk',Bool.and_eq_true,Nat.blt_eq,Bool.not_eq_true'] at hb
   by_cases he:e.1=k
   ·rw[Mem.get,if_pos he] at h;injection h with h;subst h;exact⟨he▸ hb.1.1,hb.1.2⟩
   ·rw[Mem.get,if_neg he] at h;exact backOk_get hb.2 h
theorem keepMem_get {ks:List Nat}: ∀ {m:Mem} {k:Nat} {B:SB},(keepMem ks m).get k=some B→k∉ ks∧m.get k=some B
 | [],_,_,h=>by cases h
 | e::r,k,B,h=>by
   simp only[keepMem] at h
   cases hc:ks.contains e.1 with
   | true =>
     rw[hc] at h
     obtain⟨h1,h2⟩:=keepMem_get h
     refine⟨h1,?_⟩
     rw[Mem.get,if_neg (fun x=>h1 (by rw[← x];simpa using hc))];exact h2
   | false =>
     rw[hc] at h
     by_cases he:e.1=k
     ·simp only[Mem.get,he,if_true] at h ⊢
      refine⟨fun hk=> ?_,h⟩
      have:ks.contains e.1=true:=by rw[he];simpa using hk
      rw[hc] at this;cases this
     ·simp only[Mem.get,he,if_false] at h ⊢
      exact keepMem_get h
theorem renM_get {ρ:Nat→Nat} {m1:Mem}: ∀ {m2:Mem} {j:Nat} {X:SB},(renM ρ m2++m1).get j=some X→(∃ k B,m2.get k=some B∧ρ k=j∧X=B.ren ρ)∨m1.get j=some X
 | [],_,_,h=>.inr h
 | e::r,j,X,h=>by
   simp only[renM,List.cons_append] at h
   rcases Mem.get_cons h with ⟨h1,h2⟩ | ⟨hne,h⟩
   ·exact .inl ⟨e.1,e.2,by rw[Mem.get,if_pos rfl],h1.symm,h2⟩
   ·rcases renM_get h with ⟨k,B,g1,g2,g3⟩ | h
    ·refine .inl ⟨k,B,?_,g2,g3⟩
     rw[Mem.get,if_neg (fun x=>hne (by rw[← g2,x]))];exact g1
    ·exact .inr h
theorem rwKeys_mem {ren:Ren}: ∀ {fm:Mem} {k k1:Nat} {B:SB},fm.get k=some B→B.ro=false→ren.get k=some k1→k1∈ rwKeys ren fm
 | [],_,_,_,h,_,_=>by cases h
 | e::r,k,k1,B,h,hr,hk=>by
   rcases Mem.get_cons (k0:=e.1) (B0:=e.2) h with ⟨h1,h2⟩ | ⟨hne,h⟩
   ·subst h1;subst h2
    simp only[rwKeys,hr,hk];exact List.mem_cons_self ..
   ·have:=rwKeys_mem h hr hk
    simp only[rwKeys]
    split
    ·exact List.mem_cons_of_mem _ this
    ·exact this
theorem renKey0 {ren:Ren} {k:Nat}:renKey 0 ren k=ren.get k:=by
 have:Nat.blt k 0=false:=by cases h:Nat.blt k 0 with
  | false=>rfl
  | true=>rw[Nat.blt_eq] at h;omega
 simp[renKey,this]
def mayW (E:Nat→Nat)(fm:Mem)(b:Nat):Prop:=∃ k B,fm.get k=some B∧B.no=false∧B.ro=false∧b=E k
theorem SatM.formal {Γ E m nx w} (h:SatM Γ E m nx w) {fm:Mem} {n:Nat} {ren:Ren} (hb: ∀ kh B',fm.get kh=some B'→BlkTo 0 m [] ren kh B')
  (hi: ∀ kh kh' B B' k1,fm.get kh=some B→B.no=false→fm.get kh'=some B'→B'.no=false→renKey 0 ren kh=some k1→renKey 0 ren kh'=some k1→kh=kh') (hlt: ∀ kh B',fm.get kh=some B'→kh<n) :
  ∃ gm,SatM (Base.at w (mayW (Ren.E 0 ren E) fm) h.glob gm) (Ren.E 0 ren E) fm n w:=by
 have hE: ∀ kh k1,renKey 0 ren kh=some k1→Ren.E 0 ren E kh=E k1:=fun kh k1 hr=>by simp[Ren.E,hr]
 refine⟨fun p hp ⟨k,B,g1,g2,g3,g4⟩=> ?_,fun kh B' hg hn=> ?_,fun kh kh' B B' hg hn hg' hn' hr he=> ?_,hlt,fun kh B' hg hn hro=>.inl ⟨kh,B',hg,hn,hro,rfl⟩,Ext.refl _ _,⟨Nat.zero_le _,fun k hk=>absurd hk (Nat.not_lt_zero _)⟩,fun D hD=>by cases hD⟩
 ·obtain⟨k1,X,q1,_,q3,q4,_,q6⟩:=hb k B g1 g2
  rw[hE k k1 q1] at g4
  exact h.notGlob q3 q4 (q6 g3) p hp g4
 ·obtain⟨k1,X,q1,_,q3,q4,q5,_⟩:=hb kh B' hg hn
  obtain⟨o,ho,hbo⟩:=h.blk k1 X q3 q4
  exact⟨o,by rw[hE kh k1 q1];exact ho,q5 E o hbo⟩
 ·obtain⟨k1,X,g1,_,g3,g5,_,g7⟩:=hb kh B hg hn
  obtain⟨k1',X',g1',_,g3',g5',_,g7'⟩:=hb kh' B' hg' hn'
  rw[hE kh k1 g1,hE kh' k1' g1'] at he
  have:=h.inj k1 k1' X X' g3 g5 g3' g5' (hr.imp g7 g7') he
  subst this
  exact hi kh kh' B B' k1 hg hn hg' hn' g1 g1'
theorem SatM.told {Γ:Base} (hΓ:Γ.nx0=0) {E m nx w} (h:SatM Γ E m nx w) {n N:Nat} {ren:Ren} {m2:Mem} (hb: ∀ kh B',m2.get kh=some B'→BlkTo n m [] ren kh B')
  (hi: ∀ kh kh' B B' k1,m2.get kh=some B→B.no=false→m2.get kh'=some B'→B'.no=false→renKey n ren kh=some k1→renKey n ren kh'=some k1→kh=kh') (hlt: ∀ kh B',m2.get kh=some B'→kh<N) :
  SatM Γ (Ren.E n ren E) m2 N w:=by
 have hE: ∀ kh k1,renKey n ren kh=some k1→Ren.E n ren E kh=E k1:=fun kh k1 hr=>by simp[Ren.E,hr]
 refine⟨fun kh B' hg hn=> ?_,fun kh kh' B B' hg hn hg' hn' hr he=> ?_,hlt,fun kh B' hg hn hro=> ?_,h.ext,⟨by rw[hΓ];exact Nat.zero_le _,fun k hk=>by rw[hΓ] at hk;omega⟩,h.kp⟩
 ·obtain⟨k1,X,q1,_,q3,q4,q5,_⟩:=hb kh B' hg hn
  obtain⟨o,ho,hbo⟩:=h.blk k1 X q3 q4
  exact⟨o,by rw[hE kh k1 q1];exact ho,q5 E o hbo⟩
 ·obtain⟨k1,X,g1,_,g3,g5,_,g7⟩:=hb kh B hg hn
  obtain⟨k1',X',g1',_,g3',g5',_,g7'⟩:=hb kh' B' hg' hn'
  rw[hE kh k1 g1,hE kh' k1' g1'] at he
  have:=h.inj k1 k1' X X' g3 g5 g3' g5' (hr.imp g7 g7') he
  subst this
  exact hi kh kh' B B' k1 hg hn hg' hn' g1 g1'
 ·obtain⟨k1,X,g1,_,g3,g5,_,g7⟩:=hb kh B' hg hn
  rw[hE kh k1 g1]
  exact h.own k1 X g3 g5 (g7 hro)
def joinE (nx:Nat)(E E2:Nat→Nat)(j:Nat):Nat:=if j<nx then E j else E2 (j - nx)
theorem SatM.back {Γ E m nx w} (h:SatM Γ E m nx w)(hw:Mem.wf nx m=true) {fm:Mem} {n N:Nat} {ren:Ren} (hb: ∀ kh B',fm.get kh=some B'→BlkTo 0 m [] ren kh B')(hrl:renLt nx ren=true)
  {E2:Nat→Nat} {m2:Mem} {w':World} {gl gm} (h2:SatM (Base.at w (mayW (Ren.E 0 ren E) fm) gl gm) E2 m2 N w') (hE2: ∀ k,k<n→E2 k=Ren.E 0 ren E k) (hro: ∀ k B,m2.get k=some B→B.ro=false) :
  (∀ k,joinE nx E E2 (renF n ren nx k)=E2 k) ∧
  SatM Γ (joinE nx E E2) (renM (renF n ren nx) m2++keepMem (rwKeys ren fm) m) (nx+N) w':=by
 have hρ: ∀ k,joinE nx E E2 (renF n ren nx k)=E2 k:=fun k=>by
  unfold renF joinE
  split
  ·rename_i k1 hk hg
   have:=renLt_get hrl hg
   simp only[this,if_true]
   rw[hE2 k (by simpa [Nat.blt_eq] using hk)]
   simp[Ren.E,renKey0,hg]
  ·simp only[show ¬ nx+k<nx by omega,if_false,Nat.add_sub_cancel_left]
 refine⟨hρ,?_⟩
 have hMa: ∀ b,mayW (Ren.E 0 ren E) fm b→∃ k1 X,k1∈ rwKeys ren fm∧m.get k1=some X∧X.no=false∧X.ro=false∧b=E k1:=fun b ⟨k,B,g1,g2,g3,g4⟩=>by
  obtain⟨k1,X,q1,_,q3,q4,_,q6⟩:=hb k B g1 g2
  refine⟨k1,X,rwKeys_mem g1 g3 (by rw[← renKey0];exact q1),q3,q4,q6 g3,?_⟩
  rw[g4];simp[Ren.E,q1]
 have hx:Sx.Ext (mayW (Ren.E 0 ren E) fm) w w':=h2.ext
 have hEo: ∀ j,j<nx→joinE nx E E2 j=E j:=fun j hj=>by simp[joinE,hj]
 have old: ∀ {j X},(keepMem (rwKeys ren fm) m).get j=some X→j<nx∧m.get j=some X∧(X.no=false→¬ mayW (Ren.E 0 ren E) fm (E j)):=fun {j X} hj=>by
  obtain⟨h1,h3⟩:=keepMem_get hj
  refine⟨h.lt _ _ h3,h3,fun hn hm=> ?_⟩
  obtain⟨k1,Y,q1,q2,q3,q4,q5⟩:=hMa _ hm
  have:=h.inj j k1 X Y h3 hn q2 q3 (.inr q4) q5
  subst this
  exact h1 q1
 have new: ∀ {k B},m2.get k=some B→B.no=false→(mayW (Ren.E 0 ren E) fm (E2 k)∨w.heap.size≤E2 k):=fun {k B} hk hn=>h2.own k B hk hn (hro k B hk)
 refine⟨fun j X hj hn=> ?_,fun j j' X X' hj hn hj' hn' hr e=> ?_,fun j X hj=> ?_,fun j X hj hn hr=> ?_,⟨hx.os.trans h.ext.os,hx.tape.trans h.ext.tape,hx.output.trans h.ext.output,Nat.le_trans h.ext.size hx.size,fun i hi hm=>(hx.block i (Nat.lt_of_lt_of_le hi h.ext.size) (fun hmi=> ?_)).trans (h.ext.block i hi hm)⟩,
  ⟨Nat.le_trans h.cx.1 (Nat.le_add_right _ _),fun k hk=>(hEo k (Nat.lt_of_lt_of_le hk h.cx.1)).trans (h.cx.2 k hk)⟩,fun D hD=> ?_⟩
 ·rcases renM_get hj with ⟨k,B,g1,g2,g3⟩ | hj
  ·subst g3
   rw[SB.ren_no] at hn
   obtain⟨o,ho,hbo⟩:=h2.blk k B g1 hn
   refine⟨o,by rw[← g2,hρ];exact ho,BlkOk.ren ?_⟩
   have:(fun k=>joinE nx E E2 (renF n ren nx k))=E2:=funext hρ
   rw[this];exact hbo
  ·obtain⟨q1,q2,q3⟩:=old hj
   obtain⟨o,ho,hbo⟩:=h.blk j X q2 hn
   rw[hEo j q1]
   refine⟨o,by rw[hx.block _ (Array.getElem?_eq_some_iff.1 ho).1 (q3 hn)];exact ho,hbo.congr hEo (Mem.wf_get hw q2)⟩
 ·rcases renM_get hj with ⟨k,B,g1,g2,g3⟩ | hj<;>rcases renM_get hj' with ⟨k',B',g1',g2',g3'⟩ | hj'
  ·subst g3;subst g3'
   rw[SB.ren_no] at hn hn'
   rw[← g2,← g2',hρ,hρ] at e
   rw[← g2,← g2',h2.inj k k' B B' g1 hn g1' hn' (.inl (hro k B g1)) e]
  ·subst g3
   rw[SB.ren_no] at hn
   obtain⟨q1,q2,q3⟩:=old hj'
   rw[← g2,hρ,hEo j' q1] at e
   rcases new g1 hn with hm | hm
   ·rw[e] at hm;exact absurd hm (q3 hn')
   ·obtain⟨o,ho,_⟩:=h.blk j' X' q2 hn'
    have:=(Array.getElem?_eq_some_iff.1 ho).1
    omega
  ·subst g3'
   rw[SB.ren_no] at hn'
   obtain⟨q1,q2,q3⟩:=old hj
   rw[← g2',hρ,hEo j q1] at e
   rcases new g1' hn' with hm | hm
   ·rw[← e] at hm;exact absurd hm (q3 hn)
   ·obtain⟨o,ho,_⟩:=h.blk j X q2 hn
    have:=(Array.getElem?_eq_some_iff.1 ho).1
    omega
  ·obtain⟨q1,q2,_⟩:=old hj
   obtain⟨q1',q2',_⟩:=old hj'
   rw[hEo j q1,hEo j' q1'] at e
   exact h.inj j j' X X' q2 hn q2' hn' hr e
 ·rcases renM_get hj with ⟨k,B,g1,g2,_⟩ | hj
  ·rw[← g2]
   unfold renF
   split
   ·rename_i hk;have:=renLt_get hrl hk;omega
   ·have:=h2.lt k B g1;omega
  ·have:=(old hj).1;omega
 ·rcases renM_get hj with ⟨k,B,g1,g2,g3⟩ | hj
  ·subst g3
   rw[SB.ren_no] at hn
   rw[← g2,hρ]
   rcases new g1 hn with hm | hm
   ·obtain⟨k1,Y,_,q2,q3,q4,q5⟩:=hMa _ hm
    rw[q5];exact h.own k1 Y q2 q3 q4
   ·exact .inr (Nat.le_trans h.ext.size hm)
  ·obtain⟨q1,q2,_⟩:=old hj
   rw[hEo j q1];exact h.own j X q2 hn hr
 ·obtain⟨k1,Y,_,q2,q3,q4,q5⟩:=hMa _ hmi
  rcases h.own k1 Y q2 q3 q4 with h' | h'
  ·rw[← q5] at h';exact hm h'
  ·rw[← q5] at h';omega
 ·have hd:=h.kp D hD
  rw[hx.block _ (Array.getElem?_eq_some_iff.1 hd).1 (fun hmD=> ?_)]
  ·exact hd
  ·obtain⟨k1,Y,_,q2,q3,q4,q5⟩:=hMa _ hmD
   exact h.not_mark q2 q3 D hD q5
def memLt (n:Nat):Mem→Bool
 | []=>true
 | e::r=>Nat.blt e.1 n&&memLt n r
theorem memLt_get {n:Nat}: ∀ {m:Mem} {k:Nat} {B:SB},memLt n m=true→m.get k=some B→k<n
 | [],_,_,_,h=>by cases h
 | e::r,k,B,hb,h=>by
   simp only[memLt,Bool.and_eq_true,Nat.blt_eq] at hb
   by_cases he:e.1=k
   ·exact he▸ hb.1
   ·rw[Mem.get,if_neg he] at h;exact memLt_get hb.2 h
def MemC.ok (c:MemC)(x:c.G):Bool:=memLt c.n (c.mem x)&&Mem.wf c.n (c.mem x)&&SV.wfs c.n (c.args x)
theorem mem_ok {P:Program} {f:FuncId} {fn:Func} (hf:P.funcs[f]?=some fn)(hn:(fn.name== "runtime.NumGoroutine")=false)(hb:fn.body.isSome=true) {n:Nat} (c:MemC)
  (h: ∀ x,c.pre x→∃ cfg,Good P cfg∧c.ok x=true∧Holds (runFn P (calling P cfg n) [] noP (cfg.anns f) cfg.rounds fn (c.args x) (c.mem x) c.n (c.fit x))):CallOk P f (memPT c):=by
 intro args m nx K hk hwf hargs Γ E w hs
 obtain⟨x,hpre,hk⟩:=hk
 obtain⟨cfg,hgood,hok,hrun⟩:=h x hpre
 simp only[MemC.ok,Bool.and_eq_true] at hok
 obtain⟨⟨hlt,hwm⟩,hwa⟩:=hok
 obtain⟨ren1,_,hk1,ha⟩:=sameArgs_sound hk
 obtain⟨ren,hle,hk2,hm⟩:=sameMem_sound hk1
 obtain⟨hb0,hi⟩:=hm ren (Ren.le_refl _)
 revert hk2
 cases hrl:renLt nx ren with
 | false=>exact fun h=>h.elim
 | true =>
   intro hk2
   obtain⟨gm,hform⟩:=hs.formal hb0 hi (fun kh B' hg=>memLt_get hlt hg)
   have hc:=calls_of_holds hgood hf hn hb hrun hwm hwa hform
   rw[ha ren E hle] at hc
   refine out_of_calls hf hn hb (hc.mono ?_)
   rintro e w' ⟨v,rfl,E1,u,m1,nx1,g1,g2,g3,g4,g5⟩
   refine⟨v,rfl,?_⟩
   cases u with
   | none=>exact g5.elim
   | some u =>
     obtain⟨u0,back,y2,hk3⟩:=MAns.meet g5 hk2
     revert y2
     cases clashT u0 u with
     | true=>exact fun h=>h.elim
     | false =>
     intro y2
     obtain⟨r1,_,z1,za⟩:=sameArgs_sound y2
     obtain⟨r2,hle2,_,zm⟩:=sameMem_sound z1
     obtain⟨zb,zi⟩:=zm r2 (Ren.le_refl _)
     revert hk3
     cases hbk:backOk' c.N back with
     | false=>exact fun h=>h.elim
     | true =>
       intro hk3
       have ht:=g4.told rfl zb zi (fun kh B' h=>(backOk_get hbk h).1)
       have hE2: ∀ k,k<c.n→Ren.E c.n r2 E1 k=Ren.E 0 ren E k:=fun k hk=>(Ren.E_old hk).trans (g1 k hk)
       obtain⟨hρ,hfin⟩:=hs.back hwf hb0 hrl ht hE2 (fun k B h=>(backOk_get hbk h).2)
       refine⟨_,some (u0.renT (renF c.n ren nx)),_,_,fun k hk=>by simp[joinE,hk],Nat.le_add_right _ _,fun z hz=> ?_,hfin,hk3⟩
       injection hz with hz;subst hz
       rw[SV.renT_val,show(fun k=>joinE nx E (Ren.E c.n r2 E1) (renF c.n ren nx k))=Ren.E c.n r2 E1 from funext hρ,g3 u rfl]
       have:=za r2 E1 hle2
       simp only[SV.vals,List.cons.injEq,and_true] at this
       exact this.symm
end
end Go.Proofs.YtoalfimkkibpdaaGreatDoor.Sx
namespace Go.Proofs.YtoalfimkkibpdaaGreatDoor
open Go Sx
set_option maxRecDepth 20000
structure Wy where
 root:List UInt8
 n:Nat
 f:Nat→List UInt8
 z:Bool
 o:Nat
 c:Nat
 u:Nat
def Wy.sb (w:Wy)(key u:Nat)(e:SV):SB:=.cells [.str false w.root,.vslc key 1 w.z w.o 0 w.n w.c,.int .i64 false u,e] 4 180
def Wy.view (w:Wy):SB:=.view w.z w.o w.n [.str w.f]
structure Wy.Ok (w:Wy):Prop where
 n:w.n≤200
 f: ∀ i,i<w.n→(w.f i).length≤1000
 u:w.u≤w.n
def takeOk (w:Wy)(h:List UInt8):Bool:=decide ((w.u:Int)<(w.n:Int))&&(decide (shaL (w.f w.u)=h)&&getB' (w.f w.u))
def wrongB (u:Nat):SB:=.cells [.int .i64 false u,.iface 27 (.int .i64 true 10)] 2 178
def wrongV (k:Nat):SV:=.iface 176 (.ptr k true 0)
def wfailA (w:Wy):MAns:=.ret (.tup [zeroN,.bool true false]) [(0,w.sb 1 w.u (wrongV 2)),(2,wrongB w.u)]
def takeA (w:Wy)(h:List UInt8):MAns:=.fork (takeOk w h) fun b=>match b with
 | true=>.ret (.tup [(getD (w.f w.u)).sv,.bool true true]) [(0,w.sb 1 (w.u+1) .niliface)]
 | false=>wfailA w
def wayC (q:List UInt8→Prop)(ans:Wy→List UInt8→MAns):MemC :=
 {G:=Wy×List UInt8,n:=2,N:=3,pre:=fun x=>x.1.Ok∧q x.2,args:=fun x=>[.ptr 0 true 0,.str false x.2],mem:=fun x=>[(0,x.1.sb 1 x.1.u .niliface),(1,x.1.view)],ans:=fun x=>ans x.1 x.2}
def takeC:MemC:=wayC (fun _=>True) takeA
noncomputable def runM (cfg:Cfg)(f:Nat)(fn:Func)(c:MemC)(x:c.G):VC:=runFn Tryz.prog (calling Tryz.prog cfg 20) [] noP (cfg.anns f) cfg.rounds fn (c.args x) (c.mem x) c.n (c.fit x)
def followA (w:Wy)(t:List UInt8):MAns:=.fork (inlB t) fun b=>match b with
 | true=>.ret (.tup [(getD t).sv,.bool true true]) [(0,w.sb 1 w.u .niliface)]
 | false=>.fork (hashB t) fun b=>match b with
   | true=>takeA w (cutIn t)
   | false=>wfailA w
def wfollowC:MemC:=wayC (fun t=>t.length<9223372036854775808) followA
def preB (p s:List UInt8):Bool:=decide (p.length≤s.length)&&decide (s.take p.length=p)
def stepRef (x:Nd)(p:List UInt8):List UInt8:=if x.k=3 then(if p≠[]∧byteAt p 0<16 then x.r (byteAt p 0).toNat else [])else if x.k=2 then(bif preB x.p p then x.r 0 else [])else []
def stepLeft (x:Nd)(p:List UInt8):List UInt8:=if stepRef x p=[] then p else if x.k=3 then p.drop 1 else p.drop x.p.length
def claimB (x:Nd)(p:List UInt8):Bool:=(decide (x.k=1)&&decide (x.p=p))||(decide (x.k=3)&&(decide (p=[])&& !decide (x.v=[])))
def claimV (x:Nd)(p:List UInt8):List UInt8:=bif claimB x p then x.v else []
def claimA (x:Nd)(p:List UInt8):Ans:=.ret (.agg [.bool false (claimB x p),.str false (claimV x p)])
def Nd.again (x:Nd):Nd:={k:=x.k,p:=x.p,v:=x.v,r:=fun(i:Nat)=>[x.r 0,x.r 1,x.r 2,x.r 3,x.r 4,x.r 5,x.r 6,x.r 7,x.r 8,x.r 9,x.r 10,x.r 11,x.r 12,x.r 13,x.r 14,x.r 15].getD i []}
def nodeCells (x:Nd):List SV:=.int .i64 false x.k::.str false x.p::.str false x.v::refCells x.r
def zeroCells:List SV:=[.int .i64 true 0,.str true [],.str true [],.str true [],.str true [],.str true [],.str true [],.str true [],.str true [],.str true [],.str true [],.str true [],.str true [],.str true [],.str true [],.str true [],.str true [],.str true [],.str true []]
def stepA (x:Nd)(p:List UInt8):Ans:=.ret (.tup [.str false (stepRef x p),.str false (stepLeft x p)])
end Go.Proofs.YtoalfimkkibpdaaGreatDoor
namespace Go.Proofs.YtoalfimkkibpdaaGreatDoor
open Go Sx
set_option maxRecDepth 20000
theorem vcPfTake (x:Wy×List UInt8):VC.holds (runM cfgF1 144 Tryz.f144 takeC x)=((fun Q0:SV=>((fun Q1:SB=>((decide ((↑x.fst.n:Int)≤(↑x.fst.u:Int))=true →(takeOk x.fst x.snd=true →False) ∧(takeOk x.fst x.snd=false →(∀(E:Nat→Nat),SV.val E Q0=SV.val E zeroN) ∧false=false ∧(4:Nat)=(4:Nat) ∧x.fst.root=x.fst.root ∧(x.fst.z=x.fst.z ∧x.fst.o=x.fst.o ∧(0:Nat)=(0:Nat) ∧x.fst.n=x.fst.n ∧x.fst.c=x.fst.c) ∧(↑x.fst.u:Int)=(↑x.fst.u:Int) ∧(0:Nat)=(0:Nat) ∧SBle Q1 Q1 ∧True)) ∧(decide ((↑x.fst.n:Int)≤(↑x.fst.u:Int))=false →((0:Int)≤(↑x.fst.u:Int) ∧(↑x.fst.u:Int)<(↑x.fst.n:Int)) ∧(x.fst.o=x.fst.o ∧(0:Nat)+(↑x.fst.u:Int).toNat<x.fst.n) ∧(True ∧ofQ [x.fst.f ((0:Nat)+(↑x.fst.u:Int).toNat)]) ∧((!decide (shaL (flat [x.fst.f ((0:Nat)+(↑x.fst.u:Int).toNat)])=x.snd))=true →(takeOk x.fst x.snd=true →False) ∧(takeOk x.fst x.snd=false →(∀(E:Nat→Nat),SV.val E Q0=SV.val E zeroN) ∧false=false ∧(4:Nat)=(4:Nat) ∧x.fst.root=x.fst.root ∧(x.fst.z=x.fst.z ∧x.fst.o=x.fst.o ∧(0:Nat)=(0:Nat) ∧x.fst.n=x.fst.n ∧x.fst.c=x.fst.c) ∧(↑x.fst.u:Int)=(↑x.fst.u:Int) ∧(0:Nat)=(0:Nat) ∧SBle Q1 Q1 ∧True)) ∧((!decide (shaL (flat [x.fst.f ((0:Nat)+(↑x.fst.u:Int).toNat)])=x.snd))=false →((0:Int)≤(↑x.fst.u:Int) ∧(↑x.fst.u:Int)<(↑x.fst.n:Int)) ∧(x.fst.o=x.fst.o ∧(0:Nat)+(↑x.fst.u:Int).toNat<x.fst.n) ∧(((x.fst.f ((0:Nat)+(↑x.fst.u:Int).toNat)).length≤(9223372036854775808:Nat) ∧(x.fst.f ((0:Nat)+(↑x.fst.u:Int).toNat)).length<(1099511627776:Nat)) ∧(getB' (x.fst.f ((0:Nat)+(↑x.fst.u:Int).toNat))=true →some x.fst.view=some x.fst.view ∧some (x.fst.sb 1 x.fst.u SV.niliface)=some (x.fst.sb 1 x.fst.u SV.niliface) ∧some (x.fst.sb 1 x.fst.u SV.niliface)=some (x.fst.sb 1 x.fst.u SV.niliface) ∧((-9223372036854775808:Int)≤(↑x.fst.u:Int)+(1:Int) ∧(↑x.fst.u:Int)+(1:Int)≤(9223372036854775807:Int)) ∧(takeOk x.fst x.snd=true →(∀(E:Nat→Nat),SV.val E (SV.agg [SV.int .i64 false (getD (x.fst.f ((0:Nat)+(↑x.fst.u:Int).toNat))).k,SV.str false (getD (x.fst.f ((0:Nat)+(↑x.fst.u:Int).toNat))).p,SV.str false (getD (x.fst.f ((0:Nat)+(↑x.fst.u:Int).toNat))).v,SV.str false ((getD (x.fst.f ((0:Nat)+(↑x.fst.u:Int).toNat))).r 0),SV.str false ((getD (x.fst.f ((0:Nat)+(↑x.fst.u:Int).toNat))).r 1),SV.str false ((getD (x.fst.f ((0:Nat)+(↑x.fst.u:Int).toNat))).r 2),SV.str false ((getD (x.fst.f ((0:Nat)+(↑x.fst.u:Int).toNat))).r 3),SV.str false ((getD (x.fst.f ((0:Nat)+(↑x.fst.u:Int).toNat))).r 4),SV.str false ((getD (x.fst.f ((0:Nat)+(↑x.fst.u:Int).toNat))).r 5),SV.str false ((getD (x.fst.f ((0:Nat)+(↑x.fst.u:Int).toNat))).r 6),SV.str false ((getD (x.fst.f ((0:Nat)+(↑x.fst.u:Int).toNat))).r 7),SV.str false ((getD (x.fst.f ((0:Nat)+(↑x.fst.u:Int).toNat))).r 8),SV.str false ((getD (x.fst.f ((0:Nat)+(↑x.fst.u:Int).toNat))).r 9),SV.str false ((getD (x.fst.f ((0:Nat)+(↑x.fst.u:Int).toNat))).r 10),SV.str false ((getD (x.fst.f ((0:Nat)+(↑x.fst.u:Int).toNat))).r 11),SV.str false ((getD (x.fst.f ((0:Nat)+(↑x.fst.u:Int).toNat))).r 12),SV.str false ((getD (x.fst.f ((0:Nat)+(↑x.fst.u:Int).toNat))).r 13),SV.str false ((getD (x.fst.f ((0:Nat)+(↑x.fst.u:Int).toNat))).r 14),SV.str false ((getD (x.fst.f ((0:Nat)+(↑x.fst.u:Int).toNat))).r 15)])=SV.val E (getD (x.fst.f x.fst.u)).sv) ∧true=true ∧SBle (SB.cells [SV.str false x.fst.root,SV.vslc 1 1 x.fst.z x.fst.o 0 x.fst.n x.fst.c,SV.int .i64 false ((↑x.fst.u:Int)+(1:Int)),SV.niliface] 4 180) (SB.cells [SV.str false x.fst.root,SV.vslc 1 1 x.fst.z x.fst.o 0 x.fst.n x.fst.c,SV.int .i64 false (↑(x.fst.u+(1:Nat)):Int),SV.niliface] 4 180) ∧True) ∧(takeOk x.fst x.snd=false →False)) ∧(getB' (x.fst.f ((0:Nat)+(↑x.fst.u:Int).toNat))=false →some x.fst.view=some x.fst.view ∧some (x.fst.sb 1 x.fst.u SV.niliface)=some (x.fst.sb 1 x.fst.u SV.niliface) ∧some (x.fst.sb 1 x.fst.u SV.niliface)=some (x.fst.sb 1 x.fst.u SV.niliface) ∧(takeOk x.fst x.snd=true →False) ∧(takeOk x.fst x.snd=false →(∀(E:Nat→Nat),SV.val E Q0=SV.val E zeroN) ∧false=false ∧(4:Nat)=(4:Nat) ∧x.fst.root=x.fst.root ∧(x.fst.z=x.fst.z ∧x.fst.o=x.fst.o ∧(0:Nat)=(0:Nat) ∧x.fst.n=x.fst.n ∧x.fst.c=x.fst.c) ∧(↑x.fst.u:Int)=(↑x.fst.u:Int) ∧(0:Nat)=(0:Nat) ∧SBle Q1 Q1 ∧True))) ∧some x.fst.view=some x.fst.view ∧some (x.fst.sb 1 x.fst.u SV.niliface)=some (x.fst.sb 1 x.fst.u SV.niliface) ∧some (x.fst.sb 1 x.fst.u SV.niliface)=some (x.fst.sb 1 x.fst.u SV.niliface) ∧((x.fst.f ((0:Nat)+(↑x.fst.u:Int).toNat)).length≤(9223372036854775808:Nat) ∧(x.fst.f ((0:Nat)+(↑x.fst.u:Int).toNat)).length<(1099511627776:Nat)) ∧(getB' (x.fst.f ((0:Nat)+(↑x.fst.u:Int).toNat))=true →((-9223372036854775808:Int)≤(↑x.fst.u:Int)+(1:Int) ∧(↑x.fst.u:Int)+(1:Int)≤(9223372036854775807:Int)) ∧(takeOk x.fst x.snd=true →(∀(E:Nat→Nat),SV.val E (SV.agg [SV.int .i64 false (getD (x.fst.f ((0:Nat)+(↑x.fst.u:Int).toNat))).k,SV.str false (getD (x.fst.f ((0:Nat)+(↑x.fst.u:Int).toNat))).p,SV.str false (getD (x.fst.f ((0:Nat)+(↑x.fst.u:Int).toNat))).v,SV.str false ((getD (x.fst.f ((0:Nat)+(↑x.fst.u:Int).toNat))).r 0),SV.str false ((getD (x.fst.f ((0:Nat)+(↑x.fst.u:Int).toNat))).r 1),SV.str false ((getD (x.fst.f ((0:Nat)+(↑x.fst.u:Int).toNat))).r 2),SV.str false ((getD (x.fst.f ((0:Nat)+(↑x.fst.u:Int).toNat))).r 3),SV.str false ((getD (x.fst.f ((0:Nat)+(↑x.fst.u:Int).toNat))).r 4),SV.str false ((getD (x.fst.f ((0:Nat)+(↑x.fst.u:Int).toNat))).r 5),SV.str false ((getD (x.fst.f ((0:Nat)+(↑x.fst.u:Int).toNat))).r 6),SV.str false ((getD (x.fst.f ((0:Nat)+(↑x.fst.u:Int).toNat))).r 7),SV.str false ((getD (x.fst.f ((0:Nat)+(↑x.fst.u:Int).toNat))).r 8),SV.str false ((getD (x.fst.f ((0:Nat)+(↑x.fst.u:Int).toNat))).r 9),SV.str false ((getD (x.fst.f ((0:Nat)+(↑x.fst.u:Int).toNat))).r 10),SV.str false ((getD (x.fst.f ((0:Nat)+(↑x.fst.u:Int).toNat))).r 11),SV.str false ((getD (x.fst.f ((0:Nat)+(↑x.fst.u:Int).toNat))).r 12),SV.str false ((getD (x.fst.f ((0:Nat)+(↑x.fst.u:Int).toNat))).r 13),SV.str false ((getD (x.fst.f ((0:Nat)+(↑x.fst.u:Int).toNat))).r 14),SV.str false ((getD (x.fst.f ((0:Nat)+(↑x.fst.u:Int).toNat))).r 15)])=SV.val E (getD (x.fst.f x.fst.u)).sv) ∧true=true ∧SBle (SB.cells [SV.str false x.fst.root,SV.vslc 1 1 x.fst.z x.fst.o 0 x.fst.n x.fst.c,SV.int .i64 false ((↑x.fst.u:Int)+(1:Int)),SV.niliface] 4 180) (SB.cells [SV.str false x.fst.root,SV.vslc 1 1 x.fst.z x.fst.o 0 x.fst.n x.fst.c,SV.int .i64 false (↑(x.fst.u+(1:Nat)):Int),SV.niliface] 4 180) ∧True) ∧(takeOk x.fst x.snd=false →False)) ∧(getB' (x.fst.f ((0:Nat)+(↑x.fst.u:Int).toNat))=false →(takeOk x.fst x.snd=true →False) ∧(takeOk x.fst x.snd=false →(∀(E:Nat→Nat),SV.val E Q0=SV.val E zeroN) ∧false=false ∧(4:Nat)=(4:Nat) ∧x.fst.root=x.fst.root ∧(x.fst.z=x.fst.z ∧x.fst.o=x.fst.o ∧(0:Nat)=(0:Nat) ∧x.fst.n=x.fst.n ∧x.fst.c=x.fst.c) ∧(↑x.fst.u:Int)=(↑x.fst.u:Int) ∧(0:Nat)=(0:Nat) ∧SBle Q1 Q1 ∧True)))))) (SB.cells [SV.int .i64 false (↑x.fst.u:Int),SV.iface 27 (SV.int .i64 true 10)] 2 178))) (SV.agg [SV.int .i64 true 0,SV.str true [],SV.str true [],SV.str true [],SV.str true [],SV.str true [],SV.str true [],SV.str true [],SV.str true [],SV.str true [],SV.str true [],SV.str true [],SV.str true [],SV.str true [],SV.str true [],SV.str true [],SV.str true [],SV.str true [],SV.str true []])):=by kernel_rfl
theorem vcPfStep (x:Nd)(p:List UInt8):VC.holds (runA cfgF1 145 Tryz.f145 [x.sv,.str false p] (stepA x p))=((fun Q0:SV=>((decide (x.k=(3:Int))=true →((!decide (p=[]))=true →((0:Int)≤(0:Int) ∧(0:Int)<(↑p.length:Int)) ∧((-9223372036854775808:Int)≤byteAt p (0:Int) ∧byteAt p (0:Int)≤(9223372036854775807:Int)) ∧(decide (byteAt p (0:Int)<(16:Int))=true →((0:Int)≤(0:Int) ∧(0:Int)<(↑p.length:Int)) ∧((0:Int)≤byteAt p (0:Int) ∧byteAt p (0:Int)<(16:Int)) ∧(byteAt p 0).toNat<(16:Nat) ∧((0:Int)≤(1:Int) ∧(1:Int)≤(↑p.length:Int) ∧(↑p.length:Int)≤(↑p.length:Int)) ∧(decide (selS [x.r 0,x.r 1,x.r 2,x.r 3,x.r 4,x.r 5,x.r 6,x.r 7,x.r 8,x.r 9,x.r 10,x.r 11,x.r 12,x.r 13,x.r 14,x.r 15] (byteAt p 0).toNat=[])=true →sameVal (SV.tup [SV.str true [],SV.str false p]) Q0) ∧(decide (selS [x.r 0,x.r 1,x.r 2,x.r 3,x.r 4,x.r 5,x.r 6,x.r 7,x.r 8,x.r 9,x.r 10,x.r 11,x.r 12,x.r 13,x.r 14,x.r 15] (byteAt p 0).toNat=[])=false →sameVal (SV.tup [SV.str false (selS [x.r 0,x.r 1,x.r 2,x.r 3,x.r 4,x.r 5,x.r 6,x.r 7,x.r 8,x.r 9,x.r 10,x.r 11,x.r 12,x.r 13,x.r 14,x.r 15] (byteAt p 0).toNat),SV.str (false&&true&&false) (subStr p (some (Operand.const (Value.int IntKind.i64 1))) none 1 (↑p.length:Int))]) Q0)) ∧(decide (byteAt p (0:Int)<(16:Int))=false →sameVal (SV.tup [SV.str true [],SV.str false p]) Q0)) ∧((!decide (p=[]))=false →sameVal (SV.tup [SV.str true [],SV.str false p]) Q0)) ∧(decide (x.k=(3:Int))=false →(decide (x.k=(2:Int))=true →(decide ((↑x.p.length:Int)≤(↑p.length:Int))=true →((0:Int)≤(0:Int) ∧(0:Int)≤(↑x.p.length:Int) ∧(↑x.p.length:Int)≤(↑p.length:Int)) ∧((!decide (subStr p none (some (Operand.tmp 13)) 0 (↑x.p.length:Int)=x.p))=true →sameVal (SV.tup [SV.str true [],SV.str false p]) Q0) ∧((!decide (subStr p none (some (Operand.tmp 13)) 0 (↑x.p.length:Int)=x.p))=false →((0:Int)≤(↑x.p.length:Int) ∧(↑x.p.length:Int)≤(↑p.length:Int) ∧(↑p.length:Int)≤(↑p.length:Int)) ∧(decide (x.r (0:Nat)=[])=true →sameVal (SV.tup [SV.str true [],SV.str false p]) Q0) ∧(decide (x.r (0:Nat)=[])=false →sameVal (SV.tup [SV.str false (x.r 0),SV.str (false&&false&&false) (subStr p (some (Operand.tmp 13)) none (↑x.p.length:Int) (↑p.length:Int))]) Q0))) ∧(decide ((↑x.p.length:Int)≤(↑p.length:Int))=false →sameVal (SV.tup [SV.str true [],SV.str false p]) Q0)) ∧(decide (x.k=(2:Int))=false →sameVal (SV.tup [SV.str true [],SV.str false p]) Q0)))) (SV.tup [SV.str false (stepRef x p),SV.str false (stepLeft x p)])):=by kernel_rfl
theorem vcPfClaimed (x:Nd)(p:List UInt8):VC.holds (runA cfgF1 103 Tryz.f103 [x.sv,.str false p] (claimA x p))=((fun Q0:SV=>((decide (x.k=(1:Int))=true →(decide (x.p=p)=true →sameVal (SV.agg [SV.bool true true,SV.str false x.v]) Q0) ∧(decide (x.p=p)=false →(decide (x.k=(3:Int))=true →(decide (p=[])=true →((!decide (x.v=[]))=true →sameVal (SV.agg [SV.bool true true,SV.str false x.v]) Q0) ∧((!decide (x.v=[]))=false →sameVal (SV.agg [SV.bool true false,SV.str true []]) Q0)) ∧(decide (p=[])=false →sameVal (SV.agg [SV.bool true false,SV.str true []]) Q0)) ∧(decide (x.k=(3:Int))=false →sameVal (SV.agg [SV.bool true false,SV.str true []]) Q0))) ∧(decide (x.k=(1:Int))=false →(decide (x.k=(3:Int))=true →(decide (p=[])=true →((!decide (x.v=[]))=true →sameVal (SV.agg [SV.bool true true,SV.str false x.v]) Q0) ∧((!decide (x.v=[]))=false →sameVal (SV.agg [SV.bool true false,SV.str true []]) Q0)) ∧(decide (p=[])=false →sameVal (SV.agg [SV.bool true false,SV.str true []]) Q0)) ∧(decide (x.k=(3:Int))=false →sameVal (SV.agg [SV.bool true false,SV.str true []]) Q0)))) (SV.agg [SV.bool false (claimB x p),SV.str false (claimV x p)])):=by kernel_rfl
end Go.Proofs.YtoalfimkkibpdaaGreatDoor
namespace Go.Proofs.YtoalfimkkibpdaaGreatDoor
open Go Sx
set_option maxRecDepth 20000
theorem pf_tup {a b c d:List UInt8} {l1 l2 l3 l4:Bool} (h1:a=c)(h2:b=d):sameVal (.tup [.str l1 a,.str l2 b]) (.tup [.str l3 c,.str l4 d]):=by subst h1;subst h2;exact fun _=>rfl
theorem step_holds (x:Nd)(p:List UInt8):Holds (runA cfgF1 145 Tryz.f145 [x.sv,.str false p] (stepA x p)):=by
 refine Holds.of_eq (vcPfStep x p) ?_
 dsimp only
 have hb:=byteAt_lt p 0
 refine⟨fun h3=>⟨fun hp=> ?_,fun hp=> ?_⟩,fun h3=>⟨fun h2=>⟨fun hl=> ?_,fun hl=> ?_⟩,fun h2=> ?_⟩⟩
 ·have h3:=of_decide_eq_true h3
  have hp:p≠[]:=by simpa using hp
  have hl:=List.length_pos_iff.2 hp
  refine⟨by omega,by omega,fun h16=> ?_,fun h16=> ?_⟩
  ·have h16:=of_decide_eq_true h16
   have hi:(byteAt p 0).toNat<16:=by omega
   rw[sel16 x.r hi]
   have er:stepRef x p=x.r (byteAt p 0).toNat:=by rw[stepRef,if_pos h3,if_pos ⟨hp,h16⟩]
   refine⟨by omega,by omega,hi,by omega,fun h0=>pf_tup ?_ ?_,fun h0=>pf_tup er.symm ?_⟩
   ·rw[er];exact(of_decide_eq_true h0).symm
   ·rw[stepLeft,er,if_pos (of_decide_eq_true h0)]
   ·rw[stepLeft,er,if_neg (of_decide_eq_false h0),if_pos h3];rfl
  ·have er:stepRef x p=[]:=by rw[stepRef,if_pos h3,if_neg (fun h=>of_decide_eq_false h16 h.2)]
   exact pf_tup er.symm (by rw[stepLeft,if_pos er])
 ·have h3:=of_decide_eq_true h3
  have hp:p=[]:=by simpa using hp
  have er:stepRef x p=[]:=by rw[stepRef,if_pos h3,if_neg (fun h=>h.1 hp)]
  exact pf_tup er.symm (by rw[stepLeft,if_pos er])
 ·have h3:=of_decide_eq_false h3
  have h2:=of_decide_eq_true h2
  have hl:=of_decide_eq_true hl
  have ep:subStr p none (some (Operand.tmp 13)) 0 (x.p.length:Int)=p.take x.p.length:=rfl
  rw[ep]
  have hd:decide (x.p.length≤p.length)=true:=decide_eq_true (by omega)
  refine⟨by omega,fun hq=> ?_,fun hq=>⟨by omega,fun h0=> ?_,fun h0=> ?_⟩⟩
  ·have hq:decide (p.take x.p.length=x.p)=false:=by simpa using hq
   have er:stepRef x p=[]:=by rw[stepRef,if_neg h3,if_pos h2,preB,hd,hq];rfl
   exact pf_tup er.symm (by rw[stepLeft,if_pos er])
  ·have hq:decide (p.take x.p.length=x.p)=true:=by simpa using hq
   have er:stepRef x p=x.r 0:=by rw[stepRef,if_neg h3,if_pos h2,preB,hd,hq];rfl
   have h0:=of_decide_eq_true h0
   exact pf_tup (by rw[er,h0]) (by rw[stepLeft,er,if_pos h0])
  ·have hq:decide (p.take x.p.length=x.p)=true:=by simpa using hq
   have er:stepRef x p=x.r 0:=by rw[stepRef,if_neg h3,if_pos h2,preB,hd,hq];rfl
   have h0:=of_decide_eq_false h0
   exact pf_tup er.symm (by rw[stepLeft,er,if_neg h0,if_neg h3];rfl)
 ·have h3:=of_decide_eq_false h3
  have h2:=of_decide_eq_true h2
  have hl: ¬ x.p.length≤p.length:=by have:=of_decide_eq_false hl;omega
  have er:stepRef x p=[]:=by rw[stepRef,if_neg h3,if_pos h2,preB,decide_eq_false hl];rfl
  exact pf_tup er.symm (by rw[stepLeft,if_pos er])
 ·have h3:=of_decide_eq_false h3
  have h2:=of_decide_eq_false h2
  have er:stepRef x p=[]:=by rw[stepRef,if_neg h3,if_neg h2]
  exact pf_tup er.symm (by rw[stepLeft,if_pos er])
theorem claimed_holds (x:Nd)(p:List UInt8):Holds (runA cfgF1 103 Tryz.f103 [x.sv,.str false p] (claimA x p)):=by
 refine Holds.of_eq (vcPfClaimed x p) ?_
 dsimp only
 have hv:claimV x p=bif claimB x p then x.v else []:=rfl
 have hb:claimB x p=((decide (x.k=1)&&decide (x.p=p))||(decide (x.k=3)&&(decide (p=[])&& !decide (x.v=[])))):=rfl
 rw[hv,hb]
 generalize decide (x.k=1)=a
 generalize decide (x.p=p)=b
 generalize decide (x.k=3)=c
 generalize decide (p=[])=d
 generalize decide (x.v=[])=e
 have s0:sameVal (.agg [.bool true true,.str false x.v]) (.agg [.bool false true,.str false x.v]):=fun _=>rfl
 have s1:sameVal (.agg [.bool true false,.str true []]) (.agg [.bool false false,.str false []]):=fun _=>rfl
 cases a<;>cases b<;>cases c<;>cases d<;>cases e<;>simp[s0,s1]
def stepSpec:List SV→Option (Prop×Ans)
 | [.agg l,.str false p]=>(match ndOf l with
   | some x=>some (True,stepA x p)
   | none=>none)
 | _=>none
def claimSpec:List SV→Option (Prop×Ans)
 | [.agg l,.str false p]=>(match ndOf l with
   | some x=>some (True,claimA x p)
   | none=>none)
 | _=>none
theorem step_ok:CallOk Tryz.prog 145 (ansPT stepSpec):=by
 refine ans_ok (n:=20) (fn:=Tryz.f145) Tryz.func145 (by kernel_rfl) (by kernel_rfl) ?_
 intro args p a h hp
 unfold stepSpec at h
 split at h
 ·split at h
  ·rename_i x hx
   injection h with h;injection h with h1 h2;subst h1;subst h2
   rw[ndOf_eq hx]
   exact⟨cfgF1,goodF1,rfl,rfl,step_holds _ _⟩
  ·cases h
 ·cases h
theorem claimed_ok:CallOk Tryz.prog 103 (ansPT claimSpec):=by
 refine ans_ok (n:=20) (fn:=Tryz.f103) Tryz.func103 (by kernel_rfl) (by kernel_rfl) ?_
 intro args p a h hp
 unfold claimSpec at h
 split at h
 ·split at h
  ·rename_i x hx
   injection h with h;injection h with h1 h2;subst h1;subst h2
   rw[ndOf_eq hx]
   exact⟨cfgF1,goodF1,rfl,rfl,claimed_holds _ _⟩
  ·cases h
 ·cases h
end Go.Proofs.YtoalfimkkibpdaaGreatDoor
namespace Go.Proofs.YtoalfimkkibpdaaGreatDoor
open Go Sx
set_option maxRecDepth 20000
theorem flat_one (a:List UInt8):flat [a]=a:=by simp[flat]
theorem of_one {a:List UInt8} (h:a.length≤1099511627776):ofQ [a]:=⟨by rw[flat_one];omega,by simp⟩
attribute [local irreducible] shaL getB' getD
theorem take_holds {x:Wy×List UInt8} (h:x.1.Ok):Holds (runM cfgF1 144 Tryz.f144 takeC x):=by
 refine Holds.of_eq (vcPfTake x) ?_
 dsimp only
 obtain⟨w,t⟩:=x
 have h:w.Ok:=h
 have hu:=h.u
 have hn:=h.n
 simp only[Int.toNat_natCast,Nat.zero_add,flat_one]
 by_cases h1:(w.u:Int)<w.n
 ·have hf:=h.f w.u (by omega)
  have d1:decide ((w.n:Int)≤w.u)=false:=decide_eq_false (by omega)
  have hq:ofQ [w.f w.u]:=of_one (by omega)
  cases h2:decide (shaL (w.f w.u)=t)<;>cases h3:getB' (w.f w.u)
  all_goals
   have ht:takeOk w t=(decide ((w.u:Int)<w.n)&&(decide (shaL (w.f w.u)=t)&&getB' (w.f w.u))):=rfl
   rw[decide_eq_true h1,h2,h3] at ht
   simp only[d1,ht,Bool.not_true,Bool.not_false,Bool.and_false,Bool.and_true,Bool.false_eq_true,Bool.true_eq_false,false_imp_iff,forall_const,true_and,and_true,hq]
   repeat' first
    | omega
    | exact SBle.refl _
    | refine And.intro ?_ ?_
    | exact fun _=>rfl
    | rfl
    | exact trivial
    | fail
 ·have d1:decide ((w.n:Int)≤w.u)=true:=decide_eq_true (by omega)
  have ht:takeOk w t=false:=by rw[takeOk,decide_eq_false h1];rfl
  simp only[d1,ht,Bool.false_eq_true,Bool.true_eq_false,false_imp_iff,forall_const,true_and,and_true]
  repeat' first
   | omega
   | exact SBle.refl _
   | refine And.intro ?_ ?_
   | exact fun _=>rfl
   | rfl
   | exact trivial
   | fail
theorem take_ok:CallOk Tryz.prog 144 (memPT takeC) :=
 mem_ok (n:=20) (fn:=Tryz.f144) Tryz.func144 (by kernel_rfl) (by kernel_rfl) takeC fun x hx=>⟨cfgF1,goodF1,rfl,take_holds hx.1⟩
noncomputable def listFw1:List (FuncId×PT):=(144,memPT takeC)::(135,ansPT hashSpec)::listF1
theorem listFw1_ok:SummOk Tryz.prog (fun f=>lookPT f listFw1):=.cons take_ok (memPT_mono _) (.cons hash_ok (ansPT_mono _) listF1_ok)
noncomputable def cfgFw1:Cfg:={cfg0 with summ:=fun f=>lookPT f listFw1}
theorem goodFw1:Sx.Good Tryz.prog cfgFw1:=⟨mixes,listFw1_ok,fns_ok⟩
end Go.Proofs.YtoalfimkkibpdaaGreatDoor
namespace Go.Proofs.YtoalfimkkibpdaaGreatDoor
open Go Sx
set_option maxRecDepth 20000
theorem vcPfFollow (x:Wy×List UInt8):VC.holds (runM cfgFw1 146 Tryz.f146 wfollowC x)=((fun Q0:SV=>((fun Q1:SB=>(Rel 9223372036854775808 x.snd ∧(inlB x.snd=true →(inlB x.snd=true →(∀(E:Nat→Nat),SV.val E (SV.agg [SV.int .i64 false (getD x.snd).k,SV.str false (getD x.snd).p,SV.str false (getD x.snd).v,SV.str false ((getD x.snd).r 0),SV.str false ((getD x.snd).r 1),SV.str false ((getD x.snd).r 2),SV.str false ((getD x.snd).r 3),SV.str false ((getD x.snd).r 4),SV.str false ((getD x.snd).r 5),SV.str false ((getD x.snd).r 6),SV.str false ((getD x.snd).r 7),SV.str false ((getD x.snd).r 8),SV.str false ((getD x.snd).r 9),SV.str false ((getD x.snd).r 10),SV.str false ((getD x.snd).r 11),SV.str false ((getD x.snd).r 12),SV.str false ((getD x.snd).r 13),SV.str false ((getD x.snd).r 14),SV.str false ((getD x.snd).r 15)])=SV.val E (getD x.snd).sv) ∧true=true ∧SBle (x.fst.sb 1 x.fst.u SV.niliface) (x.fst.sb 1 x.fst.u SV.niliface) ∧True) ∧(inlB x.snd=false →(hashB x.snd=true →(takeOk x.fst (cutIn x.snd)=true →(∀(E:Nat→Nat),SV.val E (SV.agg [SV.int .i64 false (getD x.snd).k,SV.str false (getD x.snd).p,SV.str false (getD x.snd).v,SV.str false ((getD x.snd).r 0),SV.str false ((getD x.snd).r 1),SV.str false ((getD x.snd).r 2),SV.str false ((getD x.snd).r 3),SV.str false ((getD x.snd).r 4),SV.str false ((getD x.snd).r 5),SV.str false ((getD x.snd).r 6),SV.str false ((getD x.snd).r 7),SV.str false ((getD x.snd).r 8),SV.str false ((getD x.snd).r 9),SV.str false ((getD x.snd).r 10),SV.str false ((getD x.snd).r 11),SV.str false ((getD x.snd).r 12),SV.str false ((getD x.snd).r 13),SV.str false ((getD x.snd).r 14),SV.str false ((getD x.snd).r 15)])=SV.val E (getD (x.fst.f x.fst.u)).sv) ∧true=true ∧SBle (SB.cells [SV.str false x.fst.root,SV.vslc 1 1 x.fst.z x.fst.o 0 x.fst.n x.fst.c,SV.int .i64 false (↑x.fst.u:Int),SV.niliface] 4 180) (SB.cells [SV.str false x.fst.root,SV.vslc 1 1 x.fst.z x.fst.o 0 x.fst.n x.fst.c,SV.int .i64 false (↑(x.fst.u+(1:Nat)):Int),SV.niliface] 4 180) ∧True) ∧(takeOk x.fst (cutIn x.snd)=false →False)) ∧(hashB x.snd=false →False))) ∧(inlB x.snd=false →x.snd.length<(9223372036854775808:Nat) ∧(hashB x.snd=true →∃(x_3:Wy×List UInt8),(x_3.fst.Ok ∧True) ∧(0:Nat)=(0:Nat) ∧cutIn x.snd=x_3.snd ∧(4:Nat)=(4:Nat) ∧x.fst.root=x_3.fst.root ∧(x.fst.z=x_3.fst.z ∧x.fst.o=x_3.fst.o ∧(0:Nat)=(0:Nat) ∧x.fst.n=x_3.fst.n ∧x.fst.c=x_3.fst.c) ∧(↑x.fst.u:Int)=(↑x_3.fst.u:Int) ∧SBle (SB.view x.fst.z x.fst.o x.fst.n [Col.str x.fst.f]) (SB.view x_3.fst.z x_3.fst.o x_3.fst.n [Col.str x_3.fst.f]) ∧(takeOk x_3.fst x_3.snd=true →(inlB x.snd=true →(∀(E:Nat→Nat),SV.val E (SV.agg [SV.int .i64 false (getD (x_3.fst.f x_3.fst.u)).k,SV.str false (getD (x_3.fst.f x_3.fst.u)).p,SV.str false (getD (x_3.fst.f x_3.fst.u)).v,SV.str false ((getD (x_3.fst.f x_3.fst.u)).r 0),SV.str false ((getD (x_3.fst.f x_3.fst.u)).r 1),SV.str false ((getD (x_3.fst.f x_3.fst.u)).r 2),SV.str false ((getD (x_3.fst.f x_3.fst.u)).r 3),SV.str false ((getD (x_3.fst.f x_3.fst.u)).r 4),SV.str false ((getD (x_3.fst.f x_3.fst.u)).r 5),SV.str false ((getD (x_3.fst.f x_3.fst.u)).r 6),SV.str false ((getD (x_3.fst.f x_3.fst.u)).r 7),SV.str false ((getD (x_3.fst.f x_3.fst.u)).r 8),SV.str false ((getD (x_3.fst.f x_3.fst.u)).r 9),SV.str false ((getD (x_3.fst.f x_3.fst.u)).r 10),SV.str false ((getD (x_3.fst.f x_3.fst.u)).r 11),SV.str false ((getD (x_3.fst.f x_3.fst.u)).r 12),SV.str false ((getD (x_3.fst.f x_3.fst.u)).r 13),SV.str false ((getD (x_3.fst.f x_3.fst.u)).r 14),SV.str false ((getD (x_3.fst.f x_3.fst.u)).r 15)])=SV.val E (getD x.snd).sv) ∧true=true ∧SBle (SB.cells [SV.str false x_3.fst.root,SV.vslc (renF 2 [((1:Nat),(1:Nat)),((0:Nat),(0:Nat))] ((4:Nat)) 1) 1 x_3.fst.z x_3.fst.o 0 x_3.fst.n x_3.fst.c,SV.int .i64 false (↑(x_3.fst.u+(1:Nat)):Int),SV.niliface] 4 180) (SB.cells [SV.str false x.fst.root,SV.vslc 1 1 x.fst.z x.fst.o 0 x.fst.n x.fst.c,SV.int .i64 false (↑x.fst.u:Int),SV.niliface] 4 180) ∧True) ∧(inlB x.snd=false →(hashB x.snd=true →(takeOk x.fst (cutIn x.snd)=true →(∀(E:Nat→Nat),SV.val E (SV.agg [SV.int .i64 false (getD (x_3.fst.f x_3.fst.u)).k,SV.str false (getD (x_3.fst.f x_3.fst.u)).p,SV.str false (getD (x_3.fst.f x_3.fst.u)).v,SV.str false ((getD (x_3.fst.f x_3.fst.u)).r 0),SV.str false ((getD (x_3.fst.f x_3.fst.u)).r 1),SV.str false ((getD (x_3.fst.f x_3.fst.u)).r 2),SV.str false ((getD (x_3.fst.f x_3.fst.u)).r 3),SV.str false ((getD (x_3.fst.f x_3.fst.u)).r 4),SV.str false ((getD (x_3.fst.f x_3.fst.u)).r 5),SV.str false ((getD (x_3.fst.f x_3.fst.u)).r 6),SV.str false ((getD (x_3.fst.f x_3.fst.u)).r 7),SV.str false ((getD (x_3.fst.f x_3.fst.u)).r 8),SV.str false ((getD (x_3.fst.f x_3.fst.u)).r 9),SV.str false ((getD (x_3.fst.f x_3.fst.u)).r 10),SV.str false ((getD (x_3.fst.f x_3.fst.u)).r 11),SV.str false ((getD (x_3.fst.f x_3.fst.u)).r 12),SV.str false ((getD (x_3.fst.f x_3.fst.u)).r 13),SV.str false ((getD (x_3.fst.f x_3.fst.u)).r 14),SV.str false ((getD (x_3.fst.f x_3.fst.u)).r 15)])=SV.val E (getD (x.fst.f x.fst.u)).sv) ∧true=true ∧SBle (SB.cells [SV.str false x_3.fst.root,SV.vslc (renF 2 [((1:Nat),(1:Nat)),((0:Nat),(0:Nat))] ((4:Nat)) 1) 1 x_3.fst.z x_3.fst.o 0 x_3.fst.n x_3.fst.c,SV.int .i64 false (↑(x_3.fst.u+(1:Nat)):Int),SV.niliface] 4 180) (SB.cells [SV.str false x.fst.root,SV.vslc 1 1 x.fst.z x.fst.o 0 x.fst.n x.fst.c,SV.int .i64 false (↑(x.fst.u+(1:Nat)):Int),SV.niliface] 4 180) ∧True) ∧(takeOk x.fst (cutIn x.snd)=false →False)) ∧(hashB x.snd=false →False))) ∧(takeOk x_3.fst x_3.snd=false →(inlB x.snd=true →False) ∧(inlB x.snd=false →(hashB x.snd=true →(takeOk x.fst (cutIn x.snd)=true →False) ∧(takeOk x.fst (cutIn x.snd)=false →(∀(E:Nat→Nat),SV.val E Q0=SV.val E zeroN) ∧false=false ∧(4:Nat)=(4:Nat) ∧x_3.fst.root=x.fst.root ∧(x_3.fst.z=x.fst.z ∧x_3.fst.o=x.fst.o ∧(0:Nat)=(0:Nat) ∧x_3.fst.n=x.fst.n ∧x_3.fst.c=x.fst.c) ∧(↑x_3.fst.u:Int)=(↑x.fst.u:Int) ∧(0:Nat)=(0:Nat) ∧SBle (SB.cells [SV.int .i64 false (↑x_3.fst.u:Int),SV.iface 27 (SV.int .i64 true 10)] 2 178) Q1 ∧True)) ∧(hashB x.snd=false →(∀(E:Nat→Nat),SV.val E Q0=SV.val E zeroN) ∧false=false ∧(4:Nat)=(4:Nat) ∧x_3.fst.root=x.fst.root ∧(x_3.fst.z=x.fst.z ∧x_3.fst.o=x.fst.o ∧(0:Nat)=(0:Nat) ∧x_3.fst.n=x.fst.n ∧x_3.fst.c=x.fst.c) ∧(↑x_3.fst.u:Int)=(↑x.fst.u:Int) ∧(0:Nat)=(0:Nat) ∧SBle (SB.cells [SV.int .i64 false (↑x_3.fst.u:Int),SV.iface 27 (SV.int .i64 true 10)] 2 178) Q1 ∧True)))) ∧(hashB x.snd=false →(inlB x.snd=true →False) ∧(inlB x.snd=false →(hashB x.snd=true →(takeOk x.fst (cutIn x.snd)=true →False) ∧(takeOk x.fst (cutIn x.snd)=false →(∀(E:Nat→Nat),SV.val E Q0=SV.val E zeroN) ∧false=false ∧(4:Nat)=(4:Nat) ∧x.fst.root=x.fst.root ∧(x.fst.z=x.fst.z ∧x.fst.o=x.fst.o ∧(0:Nat)=(0:Nat) ∧x.fst.n=x.fst.n ∧x.fst.c=x.fst.c) ∧(↑x.fst.u:Int)=(↑x.fst.u:Int) ∧(0:Nat)=(0:Nat) ∧SBle Q1 Q1 ∧True)) ∧(hashB x.snd=false →(∀(E:Nat→Nat),SV.val E Q0=SV.val E zeroN) ∧false=false ∧(4:Nat)=(4:Nat) ∧x.fst.root=x.fst.root ∧(x.fst.z=x.fst.z ∧x.fst.o=x.fst.o ∧(0:Nat)=(0:Nat) ∧x.fst.n=x.fst.n ∧x.fst.c=x.fst.c) ∧(↑x.fst.u:Int)=(↑x.fst.u:Int) ∧(0:Nat)=(0:Nat) ∧SBle Q1 Q1 ∧True)))))) (SB.cells [SV.int .i64 false (↑x.fst.u:Int),SV.iface 27 (SV.int .i64 true 10)] 2 178))) (SV.agg [SV.int .i64 true 0,SV.str true [],SV.str true [],SV.str true [],SV.str true [],SV.str true [],SV.str true [],SV.str true [],SV.str true [],SV.str true [],SV.str true [],SV.str true [],SV.str true [],SV.str true [],SV.str true [],SV.str true [],SV.str true [],SV.str true [],SV.str true []])):=by kernel_rfl
end Go.Proofs.YtoalfimkkibpdaaGreatDoor
namespace Go.Proofs.YtoalfimkkibpdaaGreatDoor
open Go Sx
set_option maxRecDepth 20000
section
attribute [local irreducible] shaL getB' getD inlB hashB cutIn takeOk
theorem follow_holds {x:Wy×List UInt8} (h:x.1.Ok)(ht:x.2.length<9223372036854775808):Holds (runM cfgFw1 146 Tryz.f146 wfollowC x):=by
 refine Holds.of_eq (vcPfFollow x) ?_
 dsimp only
 obtain⟨w,t⟩:=x
 have h:w.Ok:=h
 have ht:t.length<9223372036854775808:=ht
 have hr:Rel 9223372036854775808 t:=⟨.inl ht,ht⟩
 cases h1:inlB t<;>cases h2:hashB t<;>cases h3:takeOk w (cutIn t)
 all_goals simp only[hr,ht,Bool.false_eq_true,Bool.true_eq_false,false_imp_iff,forall_const,true_and,and_true]
 all_goals try refine⟨(w,cutIn t),h,?_⟩
 all_goals try dsimp only
 all_goals try simp only[h3,Bool.false_eq_true,Bool.true_eq_false,false_imp_iff,forall_const,true_and,and_true]
 all_goals
  repeat' first
   | exact SBle.refl _
   | refine And.intro ?_ ?_
   | exact fun _=>rfl
   | rfl
   | exact trivial
   | fail
end
theorem follow_ok:CallOk Tryz.prog 146 (memPT wfollowC) :=
 mem_ok (n:=20) (fn:=Tryz.f146) Tryz.func146 (by kernel_rfl) (by kernel_rfl) wfollowC fun x hx=>⟨cfgFw1,goodFw1,rfl,follow_holds hx.1 hx.2⟩
def wfol (w:Wy)(t:List UInt8):Option (Nd×Nat):=if inlB t=true then some (getD t,w.u)else if(hashB t&&takeOk w (cutIn t))=true then some (getD (w.f w.u),w.u+1)else none
def Wy.on (w:Wy)(u:Nat):Wy:={w with u:=u}
def goW (w:Wy):Nat→Nd→List UInt8→Nat→Option (Nd×List UInt8×Nat)
 | 0,_,_,_=>none
 | m+1,x,p,u=>if stepRef x p=[] then some (x,p,u)else match wfol (w.on u) (stepRef x p)with
   | none=>none
   | some (y,u')=>goW w m y (stepLeft x p) u'
def startW (w:Wy)(p:List UInt8):Option (Nd×List UInt8×Nat):=bif takeOk (w.on 0) w.root then goW w (p.length+1) (getD (w.f 0)) p 1 else none
def pvRes (w:Wy)(p:List UInt8):Option (Nd×List UInt8):=if 40<w.n then none else match startW w p with
 | some (y,q,u)=>if u<w.n then none else some (y,q)
 | none=>none
def pvB (r:Option (Nd×List UInt8)):Bool:=match r with
 | some (y,q)=>claimB y q
 | none=>false
def pvV (r:Option (Nd×List UInt8)):List UInt8:=match r with
 | some (y,q)=>claimV y q
 | none=>[]
def verA (w:Wy)(key:List UInt8):Ans:=.fork (pvRes w (pathL key)).isSome fun b=>match b with
 | true=>.ret (.tup [.agg [.bool false (pvB (pvRes w (pathL key))),.str false (pvV (pvRes w (pathL key)))],.int .i64 true 0])
 | false=>.ret (.tup [.agg [.bool true false,.str true []],.int .i64 true 10])
structure Wh where
 y:Nd
 p:List UInt8
 u:Nat
 b:Bool
 v:List UInt8
def Nd.Good (x:Nd):Prop:=(x.k=2→x.p≠[])∧Fits x
def ptrAt (st:Sx.St)(i:Nat):Nat:=match slot st.tmps i with
 | some (.ptr k _ _)=>k
 | _=>0
def boxAt (st:Sx.St)(i:Nat):Nat:=match st.m.get (ptrAt st i)with
 | some (.cells (.ptr k _ _::_) _ _)=>k
 | _=>0
def newest (ty:TypeId):Mem→Nat
 | []=>0
 | (k,.cells _ _ t)::r=>(match Nat.beq t ty with
   | true=>k
   | false=>newest ty r)
 | _::r=>newest ty r
def whMem (w:Wy)(kv:Nat)(st:Sx.St)(x:Wh)(e:SV):Mem:=[(ptrAt st 4,.cells (nodeCells x.y) 19 116),(ptrAt st 2,.cells [.str false x.p] 1 9),(boxAt st 1,w.sb kv x.u e),(newest 71 st.m,.cells [.bool false x.b,.str false x.v] 2 71)]
def annWay0 (w:Wy)(P:List UInt8):LoopAnn :=
 {α:=Wh,pre:=fun _ x=>(∃ m,x.p.length<m∧startW w P=goW w m x.y x.p x.u)∧x.y.Good∧x.u≤w.n,mea:=fun _ x=>x.p.length+1,fresh:=0,slots:=fun _ _=>[(5,.bool true true)],mem:=fun st x=>whMem w 0 st x .niliface}
def annWay1 (w:Wy)(P:List UInt8):LoopAnn :=
 {α:=Wh,pre:=fun _ _=>startW w P=none,mea:=fun _ _=>0,fresh:=1,slots:=fun _ _=>[(5,.bool true false)],mem:=fun st x=>whMem w 0 st x (wrongV st.nx)++[(st.nx,wrongB x.u)]}
def tagOk (st:Sx.St):Nat:=match slot st.tmps 5 with
 | some (.bool true false)=>1
 | _=>0
def annWay (w:Wy)(P:List UInt8):Multi:=⟨[0,1],tagOk,fun t=>match t with
 | 1=>annWay1 w P
 | _=>annWay0 w P⟩
noncomputable def listFw2:List (FuncId×PT):=(146,memPT wfollowC)::(145,ansPT stepSpec)::(103,ansPT claimSpec)::(57,purePT npathSpec)::listFw1
theorem listFw2_ok:SummOk Tryz.prog (fun f=>lookPT f listFw2):=.cons follow_ok (memPT_mono _) (.cons step_ok (ansPT_mono _) (.cons claimed_ok (ansPT_mono _) (.cons npath_ok (purePT_mono _) listFw1_ok)))
noncomputable def cfgPf (w:Wy)(key:List UInt8):Cfg:={cfg0 with summ:=fun f=>lookPT f listFw2,anns:=fun f=>if f=143 then [(1,fun st=>match tagOk st with
 | 1=>none
 | _=>some (annWay w (pathL key)))] else []}
theorem goodPf (w:Wy)(key:List UInt8):Sx.Good Tryz.prog (cfgPf w key):=⟨mixes,listFw2_ok,fns_ok⟩
def seenW (w:Wy)(key:Option Nat):Seen:=⟨key,w.z,w.o,w.n,w.c,[.str w.f]⟩
def shW:List Sh2:=[.of .one,.of .one,.of (.slice [.str fun _=>[]])]
end Go.Proofs.YtoalfimkkibpdaaGreatDoor
