/-
  Span: Verify: the contract.
-/
import Derived.Test.YtoibaecagklkaaaGreatDoorMv
import Derived.Test.YtoibaecagklkaaaGreatDoorMu
import Derived.Test.YtoibaecagklkaaaGreatDoorMr
namespace Go.Proofs.YtoibaecagklkaaaGreatDoor
open Go Sx
set_option maxRecDepth 20000
structure Sp.mQ (w:Sp):Prop where
 f: ∀ i,i<w.n->(w.f i).length<=1000
 fr:w.fr.length<=1000
 to:w.to.length<=1000
theorem BX (f:Nat->List UInt8): ∀ {n:Nat} {h:List UInt8},bQ f n h=false->cF f n h=0
 | 0,_,_=>rfl
 | n+1,h,e=>by
   unfold bQ at e
   simp only[Bool.or_eq_false_iff] at e
   unfold cF
   rw[e.1,e.2];rfl
theorem wB (f:Nat->List UInt8)(n:Nat)(t:List UInt8):cF f (n+1) t=bif bQ f n t then cF f n t else(bif decide (t=cL (f n))then(n:Int)else 0):=rfl
theorem Cn {f:Nat->List UInt8}{n:Nat}(h:bQ f n (cL (f n))=false):(∀ t,gd (bQ f n) (cL (f n)) t=bQ f (n+1) t)/\(∀ t,kK (cF f n) (cL (f n)) n t=cF f (n+1) t):=by
 refine⟨fun t=>rfl,fun t=> ?_⟩
 rw[wB];unfold kK
 by_cases e:t=cL (f n)
 ·subst e;rw[h];simp
 ·rw[decide_eq_false e]
  cases hd:bQ f n t with
  | true=>rfl
  | false=>exact BX f hd
theorem Cc {f:Nat->List UInt8}{n:Nat}(h:bQ f n (cL (f n))=true):(∀ t,bQ f n t=bQ f (n+1) t)/\(∀ t,cF f n t=cF f (n+1) t):=by
 refine⟨fun t=> ?_,fun t=> ?_⟩
 ·show _=(bQ f n t||decide (t=cL (f n)))
  by_cases e:t=cL (f n)
  ·subst e;rw[h];rfl
  ·rw[decide_eq_false e,Bool.or_false]
 ·rw[wB]
  cases hd:bQ f n t with
  | true=>rfl
  | false =>
    by_cases e:t=cL (f n)
    ·subst e;rw[h] at hd;cases hd
    ·rw[decide_eq_false e];exact BX f hd
theorem AT (w:Sp)(t:List UInt8):(Wk.start.take w t).Fit 1:=Wk.Fit.take (k:=0) ⟨fun _=>⟨Int.le_refl _,Int.le_refl _⟩,Nat.le_refl _,Nat.le_refl _,Nat.zero_le _⟩ w t
theorem W1 {b:Bool}(h:(!b)=true):b=false:=by cases b<;>simp_all
theorem Xg {b:Bool}(h:(!b)=false):b=true:=by cases b<;>simp_all
section
attribute [local irreducible] cL bG getD bQ cF hasB nU az oO fG cA gM
set_option maxHeartbeats 1000000 in
theorem GK {w:Sp}(hw:w.mQ)(root:List UInt8)(kk:Option Nat) :
  aA (gJ (NY w) 14 Tryz.f14 [.str false root,.agg [.str false w.fr,.str false w.to],.bP 0 1 w.z w.o 0 w.n w.c] [m9 w kk] (DQ root w)):=by
 refine aA.of_eq (Jb root w kk) ?_
 dsimp only
 have S: ∀ v:SV,af v v:=fun _ _=>rfl
 have eR:cw root w=bif Sl w.fr w.to&&(decide (0<w.n)&&(decide (w.n<=200)&&decide (cL (w.f 0)=root)))then(match oI root w.full with
  | some s=>bif gM s.ns.length (fun i=>s.ns.getD i []) w.n w.f then some s.fs else none
  | none=>none)else none:=rfl
 have bad:cw root w=none->∀ {A B:Prop},B->((cw root w).isSome=true->A)/\((cw root w).isSome=false->B):=fun h A B b=>by
  rw[h];exact⟨(fun h=>by cases h),fun _=>b⟩
 refine⟨fun h=>bad (by rw[eR,show Sl w.fr w.to=false by simpa [Sl] using h];rfl) (S _),fun hle=>⟨fun h0=>bad (by rw[eR,show decide (0<w.n)=false from decide_eq_false (by have:=of_decide_eq_true h0;omega)];simp) (S _),fun h0=>⟨fun h2=>bad (by rw[eR,show decide (w.n<=200)=false from decide_eq_false (by have:=of_decide_eq_true h2;omega)];simp) (S _),fun h2=> ?_⟩⟩⟩
 have hle:Sl w.fr w.to=true:=by unfold Sl;simpa only[Bool.not_eq_false'] using hle
 have h0:0<w.n:=by have:=of_decide_eq_false h0;omega
 have h2:w.n<=200:=by have:=of_decide_eq_false h2;omega
 refine⟨⟨0,Nat.zero_le _,rfl,ah.N9 fun s=>by unfold bQ;rfl,ah.refl _,ah.refl _,ah.refl _,ah.refl _,trivial⟩,fun x hx=>⟨fun hlt=> ?_,fun hge=> ?_⟩⟩
 ·have hlt:x<w.n:=by have:=of_decide_eq_true hlt;omega
  have hf:=hw.f x hlt
  simp only[-eq_self,mE,Int.toNat_natCast,Nat.zero_add]
  refine⟨⟨by omega,by omega⟩,⟨rfl,hlt⟩,⟨trivial,by rw[mE];omega,by simp⟩,fun hd=>⟨⟨by omega,by omega⟩,x+1,⟨hlt,by omega⟩,by omega,?_⟩,fun hd=>⟨⟨by omega,by omega⟩,x+1,⟨hlt,by omega⟩,by omega,?_⟩⟩
  ·have hd:bQ w.f x (cL (w.f x))=false:=by simpa using hd
   exact⟨ah.fmap (Cn hd).1 fun t=>congrArg (Value.int .i64) ((Cn hd).2 t),ah.refl _,ah.refl _,ah.refl _,ah.refl _,trivial⟩
  ·have hd:bQ w.f x (cL (w.f x))=true:=by simpa using hd
   exact⟨ah.fmap (Cc hd).1 fun t=>congrArg (Value.int .i64) ((Cc hd).2 t),ah.refl _,ah.refl _,ah.refl _,ah.refl _,trivial⟩
 ·have hx:x=w.n:=by have:=of_decide_eq_false hge;omega
  subst hx
  have noroot: ¬ (bQ w.f w.n root=true/\cF w.f w.n root=0)->cw root w=none:=fun h=>by
   have: ¬ cL (w.f 0)=root:=fun e=>h (zC.2 ⟨h0,e⟩)
   rw[eR,decide_eq_false this];simp
  refine⟨fun hr=>bad (noroot fun h=>by rw[h.1] at hr;cases hr) (S _),fun hr=> ?_⟩
  have hr:bQ w.f w.n root=true:=by simpa using hr
  refine⟨fun hz=>bad (noroot fun h=>by rw[h.1,h.2] at hz;cases hz) (S _),fun hz=> ?_⟩
  have hz:cF w.f w.n root=0:=by rw[hr] at hz;exact SZ (p:=cF w.f w.n root=0) hz
  have hroot:cL (w.f 0)=root:=(zC.1 ⟨hr,hz⟩).2
  have eR:cw root w=(match oI root w.full with
   | some s=>bif gM s.ns.length (fun i=>s.ns.getD i []) w.n w.f then some s.fs else none
   | none=>none):=by rw[eR,hle,decide_eq_true h0,decide_eq_true h2,decide_eq_true hroot];rfl
  have hok:w.full.Ok:=⟨h2,hw.f,fun h e=>by obtain⟨g1,g2,_⟩:=tR w.f w.n h e;exact⟨g1,g2⟩,hw.fr,hw.to⟩
  refine⟨(⟨w.full,Wk.start,0,0⟩,root),⟨hok,⟨fun _=>⟨Int.le_refl _,show(0:Int)<=1000 by decide⟩,Nat.zero_le _,Nat.zero_le _,Nat.zero_le _⟩,⟨Nat.le_refl _,Nat.le_refl _⟩,trivial⟩,?_⟩
  dsimp only
  refine⟨rfl,rfl,rfl,rfl,rfl,rfl,rfl,rfl,rfl,rfl,ah.N9 fun _=>rfl,rfl,rfl,rfl,ah.refl _,rfl,⟨rfl,rfl,rfl,rfl,rfl⟩,ah.refl _,fun hL c hc=> ?_,fun hL c=>bad (by rw[eR,oI,hL];rfl) (S _)⟩
  have hg:bG (w.full.at root)=true:=by
   simp only[cT,Bool.and_eq_true] at hL;exact hL.2
  have hfit:=AT w.full root
  have eW:oI root w.full=oO w.full 401 (Wk.start.take w.full root) (getD (w.full.at root)) []:=by rw[oI,hL];rfl
  refine⟨(⟨w.full,Wk.start.take w.full root,c.1,c.2⟩,getD (w.full.at root),[]),⟨hok,hfit.small (by decide),hc,hfit,(by show 401<=0+401;decide),kW (uh hg),Nat.zero_le _⟩,?_⟩
  dsimp only
  repeat' first
   | exact ah.refl _
   | refine And.intro ?_ ?_
   | rfl
   | exact trivial
   | fail
  ·intro hB e he
   have hs:=JJ hB
   have k1:=(wX w.full 401 _ _ _ _ hfit hs).1
   generalize cA w.full 401 (Wk.start.take w.full root) (getD (w.full.at root)) []=s' at hs k1 he ⊢
   have eR:cw root w=bif gM s'.ns.length (fun i=>s'.ns.getD i []) w.n w.f then some s'.fs else none:=by rw[eR,eW,hs]
   have hns:=k1.ns
   have hlk:=k1.lk
   refine⟨⟨⟨⟨rfl,by omega⟩,⟨rfl,rfl,by show 0+w.n<=w.n;omega⟩,trivial⟩,by omega⟩,fun hq=>bad (by rw[eR,show gM s'.ns.length (fun i=>s'.ns.getD i []) w.n w.f=false from W1 hq];rfl) (S _),fun hq=> ?_⟩
   have hq:gM s'.ns.length (fun i=>s'.ns.getD i []) w.n w.f=true:=Xg hq
   have eR:cw root w=some s'.fs:=by rw[eR,hq];rfl
   have eL:i5 root w=s'.fs:=by unfold i5;rw[eR]
   rw[eR,eL]
   exact⟨fun _=>⟨e.2,he.2,ah.refl _,S _⟩,(fun h=>by cases h)⟩
  ·exact fun hB c=>bad (by rw[eR,eW,BP hB]) (S _)
end
def SQ:List vv:=[.of .one,.agg [.one,.one],.of (.slice [.str fun _=>[]])]
def Vi (vs:List SV)(l:List Seen):Option (List UInt8×Sp×Option Nat):=match vs,l with
 | [.str false root,.agg [.str false fr,.str false to],_],[⟨kk,z,o,n,c,[.str f]⟩]=>some (root,⟨fr,to,n,f,z,o,c,fun _=>false,fun _=>0⟩,kk)
 | _,_=>none
theorem RS {vs:List SV}{l:List Seen}{root:List UInt8}{w:Sp}{kk:Option Nat}(h:Vi vs l=some (root,w,kk)):filled SQ vs l=[.str false root,.agg [.str false w.fr,.str false w.to],.bP 0 1 w.z w.o 0 w.n w.c]/\l=[m9 w kk]:=by
 unfold Vi at h
 split at h
 ·injection h with h;injection h with h1 h;injection h with h2 h3
  subst h1;subst h2;subst h3
  exact⟨rfl,rfl⟩
 ·cases h
def pU (vs:List SV)(l:List Seen):Option (Prop×c6):=match Vi vs l with
 | some (root,w,_)=>some (w.mQ,DQ root w)
 | none=>none
theorem Ts (l:List (List UInt8×List UInt8))(c:Nat):(c6.req (l.length<=c) (.new (fun k=>.aL [.bw k 2 true 0 l.length c,.int .i64 true 0]) (.rows true l.length [b8 l,b6 l] false (c*2) 50))).Ok:=by
 refine⟨rfl,rfl,fun k=>by simp[SV.wf,SV.ep,Nat.blt_eq],fun E E' k k' h=> ?_⟩
 simp only[SV.val,SV.vals]
 cases l with
 | nil=>rfl
 | cons a r=>rw[h (SB.ic (i:=0) (Nat.succ_pos _))]
theorem ME (root:List UInt8)(w:Sp):(DQ root w).Ok:=by
 intro b
 cases b with
 | false=>rfl
 | true=>intro c;exact Ts (i5 root w) c
theorem Fa:aB Tryz.prog 14 (cr SQ pU):=by
 refine fD (n:=20) (fn:=Tryz.f14) Tryz.func14 (by kernel_rfl) (by kernel_rfl) ?_
 intro vs l q a h hq
 unfold pU at h
 split at h
 ·rename_i root w kk hx
  injection h with h;injection h with h1 h2;subst h1;subst h2
  obtain⟨e1,e2⟩:=RS hx
  rw[e1,e2]
  exact⟨_,VE w,rfl,ME root w,GK hq root kk⟩
 ·cases h
end Go.Proofs.YtoibaecagklkaaaGreatDoor
namespace Go.Proofs.YtoibaecagklkaaaGreatDoor
open Go Sx
set_option maxRecDepth 20000
theorem x7: ∀ {a b c:List UInt8},Op.bytesLess a b=true->Op.bytesLess b c=true->Op.bytesLess a c=true
 | [],[],_,h,_=>by cases h
 | _::_,[],_,h,_=>by cases h
 | _,_::_,[],_,h=>by cases h
 | [],_::_,_::_,_,_=>rfl
 | a::p,b::q,c::r,h,h'=>by
   rw[pP,Bool.or_eq_true,Bool.and_eq_true,decide_eq_true_eq,decide_eq_true_eq] at h h' ⊢
   rcases h with h | ⟨rfl,h⟩
   ·rcases h' with h' | ⟨rfl,_⟩
    ·exact .inl (UInt8.lt_trans h h')
    ·exact .inl h
   ·rcases h' with h' | ⟨rfl,h'⟩
    ·exact .inl h'
    ·exact .inr ⟨rfl,x7 h h'⟩
structure Hg (l:List (List UInt8×List UInt8)):Prop where
 zU:l.Pairwise fun a b=>Op.bytesLess a.1 b.1=true
 key: ∀ x,x∈ l->x.1≠[]/\x.1.length<=6
 val: ∀ x,x∈ l->0<x.2.length/\x.2.length<=80
theorem AX {l:List (List UInt8×List UInt8)}(h:Hg l):cW 13 (rowsOf l):=by
 refine⟨?_,fun x hx=> ?_,fun x hx b hb=> ?_,fun x hx=> ?_⟩
 ·unfold ru rowsOf
  rw[List.pairwise_map]
  exact h.zU.imp A4
 all_goals
  obtain⟨e,he,rfl⟩:=List.mem_map.1 hx
 ·have:=(h.key e he).2
  show(az e.1).length<13
  rw[pW];omega
 ·exact zL e.1 b hb
 ·exact h.val e he
theorem EH (fr to:List UInt8)(l:List (List UInt8×List UInt8)):iU fr to [] (rowsOf l)=aW fr to l:=by
 unfold iU rowsOf aW
 rw[List.filter_map,List.map_map]
 have e:((fun r:Rw=>hasB fr to (cat [] r.1))∘ fun e:List UInt8×List UInt8=>(az e.1,e.2))=fun e=>hasB fr to (az e.1):=rfl
 rw[e]
 have: ∀ l:List (List UInt8×List UInt8),l.map ((fun r:Rw=>(bF (cat [] r.1),r.2))∘ fun e=>(az e.1,e.2))=l:=fun l=>by
  induction l with
  | nil=>rfl
  | cons x r ih =>
    rw[List.map_cons,ih]
    show(bF (az x.1),x.2)::r=x::r
    rw[zg]
 exact this _
theorem yI (m:Nat):aS (gV m [])=true:=by cases m<;>kernel_rfl
theorem QI {w:Sp}{j:Nat}{s s':Wk}{p:List UInt8}(h:oO w j s eN p=some s'):s'.fs=s.fs:=by
 cases j with
 | zero=>cases h
 | succ j =>
   unfold oO at h
   split at h
   ·cases h
   ·have key: ∀ n,n<=16->∀ s1:Wk,cU w (oO w j) eN p n s1=some s1:=by
     intro n
     induction n with
     | zero=>intro _ s1;rfl
     | succ n ih =>
       intro hn s1
       unfold cU
       rw[ih (by omega)]
       have:eN.r n=[]:=j5 n (by omega)
       unfold fF
       simp only[this,if_true]
    rw[key 16 (Nat.le_refl _)] at h
    injection h with h
    rw[← h];rfl
theorem sound {l:List (List UInt8×List UInt8)}{w:Sp}{root:List UInt8}{fs:List (List UInt8×List UInt8)}(hl:Hg l)(hroot:root=cL (ctext 13 (rowsOf l)))(h:cw root w=some fs) :
  fs=aW w.fr w.to l∨∃ i t,i<w.n/\t∈ dH 13 (rowsOf l)/\cm (w.f i) t=true:=by
 by_cases hC: ∃ i t,i<w.n/\t∈ dH 13 (rowsOf l)/\cm (w.f i) t=true
 ·exact .inr hC
 have same: ∀ i t,i<w.n->t∈ dH 13 (rowsOf l)->cL (w.f i)=cL t->w.f i=t:=fun i t hi ht e=>by
  by_cases e1:w.f i=t
  ·exact e1
  ·exact absurd ⟨i,t,hi,ht,by rw[cm,decide_eq_false e1,decide_eq_true e];rfl⟩ hC
 cases hb:(Sl w.fr w.to&&(decide (0<w.n)&&(decide (w.n<=200)&&decide (cL (w.f 0)=root))))with
 | false=>unfold cw at h;rw[hb] at h;cases h
 | true =>
   unfold cw at h
   rw[hb,cond_true] at h
   simp only[Bool.and_eq_true,decide_eq_true_eq] at hb
   obtain⟨_,h0,_,h3⟩:=hb
   have e0:w.f 0=ctext 13 (rowsOf l):=same 0 _ h0 (List.mem_cons_self ..) (h3.trans hroot)
   split at h
   ·rename_i s hs
    cases hsame:gM s.ns.length (fun i=>s.ns.getD i []) w.n w.f with
    | false=>rw[hsame] at h;cases h
    | true =>
      rw[hsame,cond_true] at h
      injection h with h;subst h
      left
      unfold oI at hs
      cases hlk:cT w.full root with
      | false=>rw[hlk] at hs;cases hs
      | true =>
        rw[hlk,cond_true] at hs
        have hat:w.full.at root=ctext 13 (rowsOf l):=by
         show w.f (cF w.f w.n root).toNat=_
         rw[← h3,sq];exact e0
        rw[hat] at hs
        have hcl:Clear w.full (ey 13 (rowsOf l)):=fun t ht hlt=>by
         have hd:bQ w.f w.n (cL t)=true:=by
          unfold cT at hlt
          rw[Bool.and_eq_true] at hlt;exact hlt.1
         obtain⟨g1,g2,g3⟩:=tR _ _ _ hd
         show w.f (cF w.f w.n (cL t)).toNat=t
         exact same _ t (by omega) (List.mem_cons_of_mem _ ht) g3
        by_cases hne:rowsOf l=[]
        ·have:l=[]:=List.map_eq_nil_iff.1 hne
         subst this
         rw[show getD (ctext 13 (rowsOf []))=gV 13 [] from mF (yI 13)] at hs
         exact QI hs
        ·have hr:=AX hl
         rw[mF (gU (Nat.le_refl _) hr hne)] at hs
         have:=JM hr hne (Fq (Nat.le_refl _) hr hcl) (fun x hx=>by
          obtain⟨e,_,rfl⟩:=List.mem_map.1 hx
          exact M9 e.1) hs
         rw[this,EH];rfl
   ·cases h
theorem qz {z:Bool}{n tot:Nat}{cs:List au}{ty:TypeId}:ah (.rows z n cs false tot ty) (.rows z n cs true tot ty) :=
 ah.of rfl rfl fun hno=>⟨hno,fun E o ⟨c,fr,h1,_,h3⟩=>⟨c,fr,h1,fun h=>(by cases h),h3⟩,fun h=>(by cases h)⟩
theorem Gv {n n' k k' c c':Nat}{f f':Nat->Nat}{ty:TypeId}(hn:n=n')(hc:c=c')(hf: ∀ i,i<n->f i=f' i):ah (.rows true n [.ref k f] false (c*1) ty) (.rows true n' [.ref k' f'] false (c'*1) ty):=by
 refine lu hn (by rw[hc]) rfl fun j d d' h1 h2 i hi E=> ?_
 match j,h1,h2 with
 | 0,h1,h2 =>
   injection h1 with h1;injection h2 with h2;subst h1;subst h2
   show(SV.eD k' (f' i) 0).val E=(SV.eD k (f i) 0).val E
   rw[hf i hi];rfl
 | j+1,h1,_=>simp at h1
theorem PF (m:Nat)(l:List Rw)(i j:Nat):(if i=j then gK m (bM l i)else aF m l i j)=aF m l (i+1) j:=by
 unfold aF
 by_cases h:i=j
 ·subst h;rw[if_pos rfl,if_pos (Nat.lt_succ_self _)]
 ·rw[if_neg h]
  by_cases h2:j<i
  ·rw[if_pos h2,if_pos (by omega)]
  ·rw[if_neg h2,if_neg (by omega)]
theorem FN (m:Nat)(x:List Rw×Nat)(hx:(ug (m+1)).pre x):aA (runM (JK m x.1) 63 Tryz.f63 (ug (m+1)) x):=by
 refine aA.pr (RQ m x) ?_
 obtain⟨h1,h2,h3⟩:=hx
 obtain⟨l,c⟩:=x
 have h1:cW (m+1) l:=h1
 have h2:l.length<=1000:=h2
 simp only[Int.toNat_natCast,Nat.zero_add,true_and,decide_eq_true_eq,decide_eq_false_iff_not]
 refine⟨fun h0=> ?_,fun h0=>⟨fun h5=> ?_,fun h5=> ?_⟩⟩
 ·have hl:l=[]:=List.length_eq_zero_iff.1 (by omega)
  subst hl
  exact⟨tN (m:=m) (l:=[]) (by omega) h1,fun _ a=>xE (m:=m) (l:=[]) rfl (yL fun _=>rfl) a,fun hv=>absurd (yI (m+1)) (by rw[show aS (gV (m+1) [])=false from hv];decide)⟩
 ·obtain⟨r,hr⟩: ∃ r,l=[r]:=List.length_eq_one_iff.1 (by omega)
  subst hr
  refine⟨⟨Int.le_refl 0,Int.one_pos⟩,Nat.one_pos,⟨Int.le_refl 0,Int.one_pos⟩,Nat.one_pos,tN (m:=m) (l:=[r]) (by omega) h1,fun _ a=>xE (m:=m) (l:=[r]) rfl (yL fun _=>rfl) a,fun hv=> ?_⟩
  have:=gU (m:=m+1) (l:=[r]) (by omega) h1 (List.cons_ne_nil _ _)
  rw[show aS (gV (m+1) [r])=false from hv] at this;cases this
 ·obtain⟨r,s,t,hl⟩: ∃ r s t,l=r::s::t:=by
   match l,h0,h5 with
   | [],h0,_=>exact absurd rfl h0
   | [_],_,h5=>exact absurd rfl h5
   | r::s::t,_,_=>exact⟨r,s,t,rfl⟩
  have hpos:0<l.length:=by rw[hl];exact Nat.succ_pos _
  have hr:l.getD 0 ([],[])=r:=by rw[hl];rfl
  have he:l.getD ((l.length:Int) - 1).toNat ([],[])=(s::t).getLastD r:=by
   have:((l.length:Int) - 1).toNat=(s::t).length:=by rw[hl,List.length_cons];omega
   rw[this,hl];exact Lo r (s::t)
  have hrl:=h1.len r (by rw[hl];exact List.mem_cons_self ..)
  rw[hr,he]
  refine⟨⟨by omega,by omega⟩,hpos,⟨by omega,by omega⟩,⟨by omega,by omega⟩,by omega,by omega,fun hk=> ?_,fun hk=> ?_⟩
  ·have hc:=(xo r.1 ((s::t).getLastD r).1).1
   rw[A7]
   have hrc: ∀ x,x∈ l->bH r.1 ((s::t).getLastD r).1<=x.1.length:=fun x hx=>by
    have:=qo (by rw[← hl];exact h1.zU) (x:=x) (by rw[← hl];exact hx)
    have:=congrArg List.length this
    rw[List.length_take,List.length_take] at this;omega
   refine⟨⟨by omega,by omega⟩,hpos,⟨by omega,by omega⟩,⟨by omega,by omega⟩,by omega,by omega,⟨by omega,by omega⟩,hpos,⟨by omega,by omega,by omega⟩,⟨?_,?_⟩,fun c' hc'=> ?_⟩
   ·simp
   ·exact⟨by omega,h2,fun i hi=>hrc _ (by rw[List.getD_eq_getElem?_getD,List.getElem?_eq_getElem hi];exact List.getElem_mem hi)⟩
   ·have hkid:bM l 0=bT (bH r.1 ((s::t).getLastD r).1) l:=by rw[hl,cP,if_pos (by omega),if_pos rfl]
    have hR:=jJ h1 0
    rw[hkid] at hR
    have hlen:(bT (bH r.1 ((s::t).getLastD r).1) l).length=l.length:=List.length_map _
    have hB:=yj m (bT (bH r.1 ((s::t).getLastD r).1) l)
    have hB':(m+1)*l.length<=13*1000:=Nat.mul_le_mul (by omega) h2
    rw[hlen] at hB
    refine⟨⟨_,c',0,0,fun _=>0,Pd.none,[]⟩,⟨hR,by show(bT _ l).length<=_;omega,by omega,Nat.le_refl _,by rw[List.nil_append];show(kP m (bT _ l)).length<=_;omega,Bi _ _ _⟩,⟨rfl,rfl⟩,qz,rfl,rfl,sW _,sJ _,fun y hy=> ?_⟩
    have e:gV (m+1) l=⟨2,r.1.take (bH r.1 ((s::t).getLastD r).1),[],ak (gK m (bT (bH r.1 ((s::t).getLastD r).1) l))⟩:=by rw[hl];exact RV (by omega)
    have es:bz r.1 none (some (Operand.tmp 81)) 0 (bH r.1 ((s::t).getLastD r).1:Int)=r.1.take (bH r.1 ((s::t).getLastD r).1):=by unfold bz;simp
    have eb:ey (m+1) l=kP m (bT (bH r.1 ((s::t).getLastD r).1) l):=by rw[hl];exact LH (by omega)
    have hv:=gU (m:=m+1) (l:=l) (by omega) h1 (by rw[hl];exact List.cons_ne_nil _ _)
    have hf:=tN (m:=m) (l:=l) (by omega) h1
    rw[e] at hf hv
    rw[es]
    exact⟨hf,fun _ a hd2 a1 hd=>uT (l:=l) (congrArg cu e).symm eb hd2 hd hy.2,fun hn=>absurd (hv.symm.trans hn) (by decide)⟩
  ·refine⟨⟨(0,⟨0,0,fun _=>0,Pd.none⟩),⟨Nat.zero_le _,Nat.le_refl _,Bi _ _ _⟩,rfl,rfl,rfl,sW _,sJ _,ah.cells (fun _=>rfl) rfl⟩,fun y hy=>⟨fun h=> ?_,fun h=> ?_⟩⟩
   ·obtain⟨y1,y2,y3⟩:=hy
    have hkid:bM l y.1=bT 1 (bx y.1 l):=by rw[hl,cP,if_neg (by omega)]
    have hR:=jJ h1 y.1
    have hbl:=Et m l (y.1+1)
    rw[gF] at hbl
    rw[hkid] at hR hbl
    have hB':(m+1)*l.length<=13*1000:=Nat.mul_le_mul (by omega) h2
    have hcl:(bx y.1 l).length<=l.length:=List.length_filter_le _ _
    have hdl:(bT 1 (bx y.1 l)).length=(bx y.1 l).length:=List.length_map _
    refine⟨(l,c,y.1),h2,⟨rfl,rfl⟩,ah.refl _,ah.refl _,fun c1 hc1=>⟨rfl,⟨by simp,by decide,by show(bx y.1 l).length<=_;omega,fun i hi=> ?_⟩,fun c2 hc2=> ?_⟩⟩
    ·have hm:(bx y.1 l).getD i ([],[])∈ bx y.1 l:=by rw[List.getD_eq_getElem?_getD,List.getElem?_eq_getElem hi];exact List.getElem_mem hi
     have hh:=(List.mem_filter.1 hm).2
     show 1<=((bx y.1 l).getD i ([],[])).1.length
     cases hp:((bx y.1 l).getD i ([],[])).1 with
     | nil=>rw[hp] at hh;cases hh
     | cons b q=>exact Nat.succ_pos _
    ·rw[A7]
     refine⟨⟨bT 1 (bx y.1 l),c2,y.2.nb,y.2.cb,y.2.f,y.2.P,eE m l y.1⟩,⟨hR,by show(bT 1 _).length<=_;omega,by omega,y2,by show(eE m l y.1++kP m (bT 1 (bx y.1 l))).length<=_;omega,y3⟩,⟨rfl,rfl⟩,qz,⟨rfl,rfl⟩,Gv rfl rfl fun _ _=>rfl,tY,zQ,fun v hv=> ?_⟩
     have hW:jd v.P (m+1) v.nb v.f (eE m l (y.1+1)):=by rw[gF,hkid];exact hv.2
     refine⟨⟨by omega,by omega⟩,by omega,⟨by omega,by omega⟩,(y.1+1,v),⟨⟨by show y.1+1<=16;omega,hv.1,hW⟩,by show 16 - (y.1+1)<_;omega⟩,by show(y.1:Int)+1=((y.1+1:Nat):Int);omega,⟨rfl,rfl⟩,Gv rfl rfl fun _ _=>rfl,tY,zQ,?_⟩
     rw[← hkid]
     simp only[PF]
     exact ah.cells (fun _=>rfl) rfl
   ·obtain⟨y1,y2,y3⟩:=hy
    have hy:y.1=16:=by omega
    rw[hy] at y3 ⊢
    have e:gV (m+1) l=⟨3,[],if r.1=[] then r.2 else [],aP (aF m l 16)⟩:=by rw[hl];exact Hz (by omega)
    have hv:=gU (m:=m+1) (l:=l) (by omega) h1 (by rw[hl];exact List.cons_ne_nil _ _)
    have hf:=tN (m:=m) (l:=l) (by omega) h1
    rw[e] at hf hv
    refine⟨⟨by omega,by omega⟩,hpos,fun hn=> ?_,fun hn=> ?_⟩
    ·rw[if_pos hn] at e hf hv
     exact⟨⟨by omega,by omega⟩,hpos,hf,fun _ a hd2 a1 hd=>uT (l:=l) (congrArg cu e).symm (mO m l) hd2 hd y3,fun hx=>absurd (hv.symm.trans hx) (by decide)⟩
    ·rw[if_neg hn] at e hf hv
     exact⟨hf,fun _ a hd2 a1 hd=>uT (l:=l) (congrArg cu e).symm (mO m l) hd2 hd y3,fun hx=>absurd (hv.symm.trans hx) (by decide)⟩
theorem QY {m:Nat}(h:aB Tryz.prog 101 (ig (oA m))):aB Tryz.prog 63 (ig (ug (m+1))) :=
 n7 (n:=20) (fn:=Tryz.f63) Tryz.func63 (by kernel_rfl) (by kernel_rfl) (ug (m+1)) fun x hx=>⟨JK m x.1,Vz h x.1,by rfl,FN m x hx⟩
theorem Cf: ∀ m:Nat,aB Tryz.prog 63 (mW m)
 | 0=>H9
 | m+1=>QY (SG (Cf m))
end Go.Proofs.YtoibaecagklkaaaGreatDoor
namespace Go.Proofs.YtoibaecagklkaaaGreatDoor.Sx
open Go
noncomputable section
def ga (N nx k:Nat):Nat:=match Nat.blt k N with
 | true=>k
 | false=>nx+k
structure kH where
 G:Type
 N:Nat
 H:Nat
 pre:G->Prop
 args:G->List SV
 mem:G->Mem
 val:G->SV
 B:Type
 post:G->B->Prop
 back:G->B->Mem
def Ck (H:Nat):Mem->Bool
 | []=>true
 | e::r=>Nat.blt e.1 H&&Ck H r
theorem vC {H:Nat}: ∀ {m:Mem} {k:Nat} {B:SB},Ck H m=true->m.get k=some B->k<H
 | [],_,_,_,h=>by cases h
 | e::r,k,B,hb,h=>by
   simp only[Ck,Bool.and_eq_true,Nat.blt_eq] at hb
   by_cases he:e.1=k
   ·rw[← he];exact hb.1
   ·rw[Mem.get,if_neg he] at h;exact vC hb.2 h
def sF:SV->Option Nat
 | .yield k=>some k
 | _=>none
theorem v7 {v:SV}{k:Nat}(h:sF v=some k):v=.yield k:=by
 unfold sF at h
 split at h
 ·injection h with h;rw[h]
 ·cases h
def fk (base:Nat):List SV->List SV->Ren->(Ren->VC)->VC
 | [],[],aH,t=>t aH
 | h::hs,u::us,aH,t=>(match sF h,sF u with
   | some a,some b=>(match Nat.beq a b,Nat.blt a base with
     | true,true=>fk base hs us aH t
     | _,_=>.fail "call: another yield")
   | _,_=>oW base aH h u (fun aH=>fk base hs us aH t))
 | _,_,_,_=>.fail "call: so many arguments"
theorem jE {base:Nat}: ∀ {hs us:List SV} {aH:Ren} {t:Ren->VC},(fk base hs us aH t).holds ->
  ∃ ren',aH.le ren'/\(t ren').holds/\∀ ren'' (E:Nat->Nat),ren'.le ren''->SV.vals (Ren.E base ren'' E) hs=SV.vals E us
 | [],[],aH,t,h=>⟨aH,Ren.le_refl _,h,fun _ _ _=>rfl⟩
 | h::hs,u::us,aH,t,hh=>by
   simp only[fk] at hh
   split at hh
   ·rename_i a b ha hb
    split at hh
    ·rename_i e1 e2
     obtain rfl:=Nat.eq_of_beq_eq_true e1
     have e2:a<base:=by simpa [Nat.blt_eq] using e2
     obtain⟨r2,g1,g2,g3⟩:=jE hh
     refine⟨r2,g1,g2,fun r'' E hle=> ?_⟩
     rw[v7 ha,v7 hb]
     simp only[SV.vals,SV.val,g3 r'' E hle,Ren.vZ e2]
    ·exact hh.elim
   ·obtain⟨r1,h1,h2,h3⟩:=nG hh
    obtain⟨r2,g1,g2,g3⟩:=jE h2
    exact⟨r2,Ren.le_trans h1 g1,g2,fun r'' E hle=>by simp only[SV.vals];rw[h3 r'' E (Ren.le_trans g1 hle),g3 r'' E hle]⟩
 | [],_::_,_,_,h=>h.elim
 | _::_,[],_,_,h=>h.elim
theorem jY {base:Nat}: ∀ {a b:List SV} {aH:Ren} {t t':Ren->VC},(∀ r,(t r).holds->(t' r).holds)->(fk base a b aH t).holds->(fk base a b aH t').holds
 | [],[],_,_,_,ht,h=>ht _ h
 | x::a,y::b,aH,t,t',ht,h=>by
   simp only[fk] at h ⊢
   split at h
   ·split at h
    ·exact jY ht h
    ·exact h.elim
   ·exact vN (fun _ h=>jY ht h) h
 | [],_::_,_,_,_,_,h=>h.elim
 | _::_,[],_,_,_,_,h=>h.elim
def kH.ok (c:kH)(x:c.G):Bool:=Nat.ble c.N c.H&&(Ck c.H (c.mem x)&&(Mem.wf c.H (c.mem x)&&SV.ep c.H (c.args x)))
def kH.q9 (c:kH)(x:c.G)(nx:Nat)(K:SV->Mem->Nat->VC):VC:=.all c.B fun y=>.imp (c.post x y) (match Ck c.H (c.back x y)with
 | true=>K ((c.val x).KM (ga c.N nx)) (AD (ga c.N nx) (c.back x y)) (nx+c.H)
 | false=>.fail "call: keys")
theorem kH.jW {c:kH}{x:c.G}{nx:Nat}{K K':SV->Mem->Nat->VC}(hK: ∀ v m nx,(K v m nx).holds->(K' v m nx).holds)(h:(c.q9 x nx K).holds):(c.q9 x nx K').holds:=by
 intro y hy
 have h:=h y hy
 cases hb:Ck c.H (c.back x y)with
 | false=>rw[hb] at h;exact h.elim
 | true=>rw[hb] at h;exact hK _ _ _ h
def jh (c:kH):PT:=fun args m nx K=>.ex c.G fun x=>.and (.atom (c.pre x)) (match Nat.ble c.N nx,c.ok x with
 | true,true=>fk c.N (c.args x) args [] fun aH=>dO c.N m (c.mem x) [] aH fun _=>c.q9 x nx K
 | _,_=>.fail "call: keys")
theorem rA (c:kH):aR (jh c):=by
 intro args m nx K K' hK h
 obtain⟨x,h1,h2⟩:=h
 refine⟨x,h1,?_⟩
 show VC.holds _
 have h2:VC.holds (match Nat.ble c.N nx,c.ok x with
  | true,true=>fk c.N (c.args x) args [] fun aH=>dO c.N m (c.mem x) [] aH fun _=>c.q9 x nx K
  | _,_=>.fail "call: keys"):=h2
 revert h2
 cases Nat.ble c.N nx with
 | false=>exact id
 | true=>cases c.ok x with
   | false=>exact id
   | true=>exact jY fun aH h=>fS (fun _ h=>kH.jW hK h) h
def kH.fit (c:kH)(x:c.G):SV->Mem->Nat->VC:=fun v m _=>.ex c.B fun y=>.and (.atom (c.post x y)) (jv c.N [c.val x] [v] [] fun aH=>dO c.N m (c.back x y) [] aH fun _=>.tt)
section
variable {P : Program}
theorem aJ.OX {Γ:aY}{E m nx w}(h:aJ Γ E m nx w){n N:Nat}(hΓ:Γ.qF<=n)(hnN:n<=N){aH:Ren}{m2:Mem}(hb: ∀ kh B',m2.get kh=some B'->xO n m [] aH kh B')
  (hi: ∀ kh kh' B B' k1,m2.get kh=some B->(∃ b a,B.eO b a)->m2.get kh'=some B'->(∃ b a,B'.eO b a)->cR n aH kh=some k1->cR n aH kh'=some k1->kh=kh') (hlt: ∀ kh B',m2.get kh=some B'->kh<N) :
  aJ Γ (Ren.E n aH E) m2 N w:=by
 have hE: ∀ kh k1,cR n aH kh=some k1->Ren.E n aH E kh=E k1:=fun kh k1 hr=>by simp[Ren.E,hr]
 have hg: ∀ {kh B' a},m2.get kh=some B'->B'.eO (Ren.E n aH E kh) a->∃ k1 B,cR n aH kh=some k1/\m.get k1=some B/\B.eO (E k1) a/\(∀ E1 o,bn E1 (B.el a) o->bn (Ren.E n aH E1) (B'.el a) o)/\(B'.ro=false->B.ro=false):=fun {kh B' a} hg ha=>by
  obtain⟨k1,B,g1,_,g3,g4,g5,g6⟩:=hb kh B' hg _ a ha
  exact⟨k1,B,g1,g3,by rw[← hE kh k1 g1];exact g4,g5,g6⟩
 refine⟨fun kh B' a hk ha=> ?_,fun kh kh' B B' a hk ha hk' ha' hr=> ?_,hlt,fun kh B' a hk ha hro=> ?_,h.ext,⟨Nat.le_trans hΓ hnN,fun k hk=>(Ren.vZ (Nat.lt_of_lt_of_le hk hΓ)).trans (h.cx.2 k hk)⟩,h.kp⟩
 ·obtain⟨k1,X,_,q3,q4,q5,_⟩:=hg hk ha
  obtain⟨o,ho,hbo⟩:=h.gi k1 X a q3 q4
  exact⟨o,ho,q5 E o hbo⟩
 ·obtain⟨k1,X,g1,g3,g5,_,g7⟩:=hg hk ha
  obtain⟨k1',X',g1',g3',g5',_,g7'⟩:=hg hk' ha'
  have:=h.gk k1 k1' X X' a g3 g5 g3' g5' (hr.imp g7 g7')
  subst this
  exact hi kh kh' B B' k1 hk ⟨_,_,ha⟩ hk' ⟨_,_,ha'⟩ g1 g1'
 ·obtain⟨k1,X,_,g3,g5,_,g7⟩:=hg hk ha
  exact h.gW k1 X a g3 g5 (g7 hro)
theorem aJ.XA {Θ Δ:aY}{E E3:Nat->Nat}{m2:Mem}{N H nx:Nat}{w':World}(h:aJ Θ E3 m2 H w')(hw0:Δ.w0=Θ.w0)(hm0:Δ.M0=Θ.M0)(hk0:Δ.keep=Θ.keep)(hΔ:Δ.qF<=nx)(hE0: ∀ k,k<Δ.qF->E k=Δ.E0 k)
  (hN:N<=nx) (hlow: ∀ k,k<N->E3 k=E k) :
  (∀ k,iJ nx E E3 (ga N nx k)=E3 k)/\aJ Δ (iJ nx E E3) (AD (ga N nx) m2) (nx+H) w':=by
 have hρ: ∀ k,iJ nx E E3 (ga N nx k)=E3 k:=fun k=>by
  unfold ga iJ
  cases hb:Nat.blt k N with
  | true =>
    have hk:k<N:=by simpa [Nat.blt_eq] using hb
    simp only[show k<nx by omega,if_true]
    exact(hlow k hk).symm
  | false=>simp only[show ¬ nx+k<nx by omega,if_false,Nat.add_sub_cancel_left]
 have hget: ∀ {j X},(AD (ga N nx) m2).get j=some X->∃ k B,m2.get k=some B/\ga N nx k=j/\X=B.aH (ga N nx):=fun {j X} hj=>by
  have hj:(AD (ga N nx) m2++[]).get j=some X:=by rw[List.append_nil];exact hj
  rcases tj hj with h1 | h1
  ·exact h1
  ·cases h1
 have hfun:(fun k=>iJ nx E E3 (ga N nx k))=E3:=funext hρ
 refine⟨hρ,fun j X a hj ha=> ?_,fun j j' X X' a hj ha hj' ha' hr=> ?_,fun j X hj=> ?_,fun j X a hj ha hr=> ?_,by rw[hw0,hm0];exact h.ext,⟨Nat.le_trans hΔ (Nat.le_add_right _ _),fun k hk=> ?_⟩,fun D hD=>h.kp D (by rw[← hk0];exact hD)⟩
 ·obtain⟨k,B,g1,g2,rfl⟩:=hget hj
  rw[SB.tg,← g2,hρ] at ha
  obtain⟨o,ho,hbo⟩:=h.gi k B a g1 ha
  exact⟨o,ho,bn.aH (by rw[hfun];exact hbo)⟩
 ·obtain⟨k,B,g1,g2,rfl⟩:=hget hj
  obtain⟨k',B',g1',g2',rfl⟩:=hget hj'
  rw[SB.tg,← g2,hρ] at ha
  rw[SB.tg,← g2',hρ] at ha'
  rw[SB.I7,SB.I7] at hr
  have:=h.gk k k' B B' a g1 ha g1' ha' hr
  subst this
  rw[← g2,← g2']
 ·obtain⟨k,B,g1,g2,rfl⟩:=hget hj
  have:=h.lt k B g1
  rw[← g2];unfold ga
  split
  ·rename_i hb
   have hk:k<N:=by simpa [Nat.blt_eq] using hb
   omega
  ·omega
 ·obtain⟨k,B,g1,g2,rfl⟩:=hget hj
  rw[SB.tg,← g2,hρ] at ha
  rw[SB.I7] at hr
  rw[hm0,hw0]
  exact h.gW k B a g1 ha hr
 ·unfold iJ
  rw[if_pos (Nat.lt_of_lt_of_le hk hΔ)]
  exact hE0 k hk
theorem QJ {c:kH}{cal:mg}{Γ:aY}{KP:PK}{run:PT}(hΓ:Γ.qF<=c.N)(hcal: ∀ E E':Nat->Nat,(∀ k,k<c.N->E' k=E k)->cal.sem E'=cal.sem E)(hrun:nQ P Γ vL cal run)
  (h: ∀ x,c.pre x->c.ok x=true->aA (run (c.args x) (c.mem x) c.H (c.fit x))):nQ P Γ KP cal (jh c):=by
 intro Δ hle args m nx K hh hwf hargs E w hs
 obtain⟨x,hpre,hh⟩:=hh
 have hpre:c.pre x:=hpre
 have hh:VC.holds (match Nat.ble c.N nx,c.ok x with
  | true,true=>fk c.N (c.args x) args [] fun aH=>dO c.N m (c.mem x) [] aH fun _=>c.q9 x nx K
  | _,_=>.fail "call: keys"):=hh
 split at hh
 ·rename_i hN hok
  have hN:c.N<=nx:=Nat.le_of_ble_eq_true hN
  have hrh:=(h x hpre hok).out
  simp only[kH.ok,Bool.and_eq_true] at hok
  obtain⟨ok1,ok2,ok4,ok5⟩:=hok
  have ok1:c.N<=c.H:=Nat.le_of_ble_eq_true ok1
  obtain⟨ren1,_,h1,hv1⟩:=jE hh
  obtain⟨aH,hl2,hK,h34⟩:=eA h1
  obtain⟨h3,h4⟩:=h34 aH (Ren.le_refl _)
  let Θ:aY:={Δ with qF:=Γ.qF}
  have hleΘ:Γ.le Θ:=⟨hle.w,hle.m,Nat.le_refl _,hle.e,hle.keep⟩
  have hsΘ:aJ Θ E m nx w:=⟨hs.gi,hs.gk,hs.lt,hs.gW,hs.ext,⟨Nat.le_trans hle.nx hs.cx.1,fun k hk=>hs.cx.2 k (Nat.lt_of_lt_of_le hk hle.nx)⟩,hs.kp⟩
  have hsat:=hsΘ.OX (n:=c.N) (N:=c.H) hΓ ok1 h3 h4 (fun kh B' hg=>vC ok2 hg)
  have hlow: ∀ k,k<c.N->Ren.E c.N aH E k=E k:=fun k hk=>Ren.vZ hk
  have hcall:=hrun Θ hleΘ _ _ _ _ hrh ok4 ok5 _ _ hsat
  rw[hcal E _ hlow,hv1 aH E hl2] at hcall
  refine Out.mono hcall (fun r w' hr=> ?_) (fun ch w' hp=> ?_)
  ·obtain⟨E2,sv,m2,nx2,q1,_,q3,q4,q5⟩:=hr
   cases sv with
   | none=>exact q5.elim
   | some v =>
     have q5:(c.fit x v m2 nx2).holds:=q5
     obtain⟨y,hy,q5⟩:=q5
     have hKy:=hK y hy
     obtain⟨ren2,_,g1,gv⟩:=gZ q5
     split at hKy
     rotate_left
     ·exact hKy.elim
     rename_i ok3
     obtain⟨ren3,gl2,_,g34⟩:=eA g1
     obtain⟨g3,g4⟩:=g34 ren3 (Ren.le_refl _)
     have hs3:=q4.OX (n:=c.N) (N:=c.H) hΓ ok1 g3 g4 (fun kh B' hg=>vC ok3 hg)
     have hlow3: ∀ k,k<c.N->Ren.E c.N ren3 E2 k=E k:=fun k hk=>(Ren.vZ hk).trans ((q1 k (Nat.lt_of_lt_of_le hk ok1)).trans (hlow k hk))
     obtain⟨hρ,hfin⟩:=hs3.XA (Δ:=Δ) (E:=E) (N:=c.N) (nx:=nx) rfl rfl rfl hs.cx.1 hs.cx.2 hN hlow3
     refine⟨_,some ((c.val x).KM (ga c.N nx)),_,_,fun k hk=> ?_,Nat.le_add_right _ _,fun u hu=> ?_,hfin,hKy⟩
     ·unfold iJ;rw[if_pos hk]
     ·injection hu with hu;subst hu
      rw[SV.EI,show(fun k=>iJ nx E (Ren.E c.N ren3 E2) (ga c.N nx k))=Ren.E c.N ren3 E2 from funext hρ,q3 v rfl]
      have:=gv ren3 E2 gl2
      simp only[SV.vals,List.cons.injEq,and_true] at this
      exact this.symm
  ·obtain⟨_,_,_,_,_,_,_,_,_,hno⟩:=hp
   exact hno.elim
 ·exact hh.elim
def recC (f:FuncId)(pt:PT):gz:=⟨fun env KP c=>match c with
 | .yield k=>(match env.find k with
   | some pt=>pt
   | none=>fun _ _ _ _=>.fail "a yield that is not known")
 | .panic=>raise KP
 | .fn g=>(match Nat.beq g f with
   | true=>pt
   | false=>fun _ _ _ _=>.fail "another function"),fun _=>false⟩
theorem RU {f:FuncId}{pt:PT}{Γ:aY}(hm:aR pt)(h: ∀ KP,nQ P Γ KP (.fn f) pt):pQ P (recC f pt) Γ.le:=by
 refine⟨fun env he KP c=> ?_,fun env he KP KP' hK c args m nx K h=> ?_,fun {Γ' Δ} h h'=>aY.le_trans h h',fun Δ hle env hem he KP c=> ?_,fun g hg=>by cases hg⟩
 ·cases c with
  | yield k =>
    show aR (match env.find k with
     | some pt=>pt
     | none=>fun _ _ _ _=>.fail "a yield that is not known")
    split
    ·rename_i pt hp;exact he _ (Env.tD hp)
    ·exact fun args m nx K K' _ h=>h.elim
  | panic=>exact fun args m nx K K' _ h=>h
  | fn g =>
    show aR (match Nat.beq g f with
     | true=>pt
     | false=>fun _ _ _ _=>.fail "another function")
    split
    ·exact hm
    ·exact fun args m nx K K' _ h=>h.elim
 ·cases c with
  | yield k=>exact h
  | panic =>
    show(raise KP' args m nx K).holds
    have h:(raise KP args m nx K).holds:=h
    unfold raise at h ⊢
    split at h
    ·split at h
     ·exact hK _ _ _ h
     ·exact h
    ·exact h
  | fn g=>exact h
 ·cases c with
  | yield k =>
    show nQ P Δ KP (.yield k) (match env.find k with
     | some pt=>pt
     | none=>fun _ _ _ _=>.fail "a yield that is not known")
    split
    ·rename_i pt hp;exact he _ (Env.tD hp) KP
    ·exact fun Δ _ args m nx K h=>h.elim
  | panic=>exact zB
  | fn g =>
    show nQ P Δ KP (.fn g) (match Nat.beq g f with
     | true=>pt
     | false=>fun _ _ _ _=>.fail "another function")
    split
    ·rename_i hg
     obtain rfl:=Nat.eq_of_beq_eq_true hg
     exact(h KP).mono hle
    ·exact fun Δ _ args m nx K h=>h.elim
theorem N0 (hmix:P.follows .mixedOrders=true){f:FuncId}{fn:Func}(hf:P.funcs[f]?=some fn) (hname:(fn.name== "runtime.NumGoroutine")=false) {kl N:Nat} {cy:kH} {ct:Nat->kH} {Γ:aY} (hΓ:Γ.qF<=N)
  (hy: ∀ KP,nQ P Γ KP (.yield kl) (jh cy)) (hN: ∀ d,(ct d).N=N) (h0: ∀ x,¬ (ct 0).pre x) {n:Nat}
  (h: ∀ d x,(ct (d+1)).pre x->(ct (d+1)).ok x=true->∃ br,aA (dR P (recC f (jh (ct d))) [(kl,jh cy)] vL br n fn ((ct (d+1)).args x) ((ct (d+1)).mem x) (ct (d+1)).H ((ct (d+1)).fit x))) :
  ∀ d KP,nQ P Γ KP (.fn f) (jh (ct d))
 | 0,KP=>fun Δ _ args m nx K hh=>by
   obtain⟨x,hpre,_⟩:=hh
   exact(h0 x hpre).elim
 | d+1,KP=>by
   have ih:=N0 hmix hf hname hΓ hy hN h0 h d
   intro Δ hle args m nx K hh
   obtain⟨x,hpre,hh⟩:=hh
   have hh':=hh
   have hpre':(ct (d+1)).pre x:=hpre
   by_cases hok:(ct (d+1)).ok x=true
   ·obtain⟨A,hA⟩:=h d x hpre' hok
    let c1:kH:={ct (d+1)with pre:=fun y=>y=x}
    have hfix:nQ P Γ KP (.fn f) (jh c1):=QJ (c:=c1) (run:=dR P (recC f (jh (ct d))) [(kl,jh cy)] vL A n fn) (by rw[show c1.N=(ct (d+1)).N from rfl,hN];exact hΓ) (fun _ _ _=>rfl)
     (yP hmix (RU (rA _) ih) (fun p hp=>by rcases List.mem_cons.1 hp with e | hp;subst e;exact rA _;cases hp) (aY.le_refl _) (fun p hp KP=>by rcases List.mem_cons.1 hp with e | hp;subst e;exact hy KP;cases hp) hf hname)
     (fun y hy _=>by
       have hy:y=x:=hy
       rw[hy];exact hA)
    exact hfix Δ hle args m nx K ⟨x,rfl,hh'⟩
   ·exfalso
    have hok:(ct (d+1)).ok x=false:=by simpa using hok
    have hh:VC.holds (match Nat.ble (ct (d+1)).N nx,(ct (d+1)).ok x with
     | true,true=>_
     | _,_=>.fail "call: keys"):=hh
    rw[hok] at hh
    cases hb:Nat.ble (ct (d+1)).N nx<;>(rw[hb] at hh;exact hh)
def Jt (N:Nat)(cy ct:kH):Env->PT:=fun env args m nx K=>match env,Nat.beq nx N with
 | (_,Y)::_,true=>.and (.all cy.G fun x=>.imp (cy.pre x) (match cy.ok x with
   | true=>Y (cy.args x) (cy.mem x) cy.H (cy.fit x)
   | false=>.tt)) (jh ct args m nx K)
 | _,_=>.fail "a range: keys"
theorem IC (N:Nat)(cy ct:kH)(env:Env):aR (Jt N cy ct env):=by
 intro args m nx K K' hK h
 unfold Jt at h ⊢
 split at h
 ·exact⟨h.1,rA ct _ _ _ _ _ hK h.2⟩
 ·exact h.elim
def FL (kl N:Nat)(cy ct:Loop->kH):Env->PT:=fun env args m nx K=>match env,m.get kl with
 | (k,_)::_,some (.loop .ready none R)=>(match Nat.beq k kl with
   | true=>Jt N (cy R) (ct R) env args m nx K
   | false=>.fail "a range: another key")
 | _,_=>.fail "a range: no yield"
theorem QG (hmix:P.follows .mixedOrders=true){f:FuncId}{fn:Func}(hf:P.funcs[f]?=some fn) (hname:(fn.name== "runtime.NumGoroutine")=false) {kl N D n:Nat} {cy:Loop->kH} {ct:Loop->Nat->kH} (hkl:kl<N) (hcy: ∀ R,(cy R).N=N)
  (hN: ∀ R d,(ct R d).N=N) (h0: ∀ R x,¬ (ct R 0).pre x)
  (h: ∀ R d x,(ct R (d+1)).pre x->(ct R (d+1)).ok x=true->∃ br,aA (dR P (recC f (jh (ct R d))) [(kl,jh (cy R))] vL br n fn ((ct R (d+1)).args x) ((ct R (d+1)).mem x) (ct R (d+1)).H ((ct R (d+1)).fit x))) :
  DV P f (FL kl N cy (fun R=>ct R D)):=by
 refine⟨fun env he args m nx K K' hK hh=> ?_,fun Γ env hem he KP Δ hle args m nx K hh hwf hargs E w hs=> ?_⟩
 ·unfold FL at hh ⊢
  split at hh
  ·split at hh
   ·exact IC _ _ _ _ _ _ _ _ _ hK hh
   ·exact hh.elim
  ·exact hh.elim
 ·unfold FL at hh
  split at hh
  ·rename_i k Y r R _
   split at hh
   ·rename_i hk
    obtain rfl:=Nat.eq_of_beq_eq_true hk
    unfold Jt at hh
    split at hh
    ·rename_i k' Y' r' heq hnx
     injection heq with e1 e2
     injection e1 with e3 e4
     subst e4
     have hnx:nx=N:=Nat.eq_of_beq_eq_true hnx
     have hΔ:Δ.qF<=N:=hnx▸ hs.cx.1
     have hY: ∀ KP,nQ P Δ KP (.yield k) Y:=fun KP=>(he (k,Y) (List.mem_cons_self ..) KP).mono hle
     have hy: ∀ KP,nQ P Δ KP (.yield k) (jh (cy R)):=fun KP=>QJ (by rw[hcy R];exact hΔ) (fun E E' hE=>funext fun args=>by
      show Instr.yield (E' k) args=Instr.yield (E k) args
      rw[hE k (by rw[hcy R];exact hkl)]) (hY vL) (fun x hx hok=>⟨by
      have:=hh.1 x hx
      rw[hok] at this;exact this⟩)
     exact N0 hmix hf hname hΔ hy (hN R) (h0 R) (h R) D KP Δ Δ.le_refl args m nx K hh.2 hwf hargs E w hs
    ·exact hh.elim
   ·exact hh.elim
  ·exact hh.elim
end
end
end Go.Proofs.YtoibaecagklkaaaGreatDoor.Sx
namespace Go.Proofs.YtoibaecagklkaaaGreatDoor
open Go Sx
set_option maxRecDepth 20000
def aK (l:List (List UInt8)):List (List UInt8):=l.foldl (fun u x=>if x∈ u then u else u++[x]) []
theorem p8 (l:List (List UInt8))(x:List UInt8):aK (l++[x])=if x∈ aK l then aK l else aK l++[x]:=by
 unfold aK;rw[List.foldl_append];rfl
theorem oJ: ∀(n:Nat) (l:List (List UInt8)),l.length=n->∀ s,s∈ aK l↔s∈ l
 | 0,l,h,s=>by rw[List.length_eq_zero_iff.1 h];exact Iff.rfl
 | n+1,l,h,s=>by
   obtain⟨k,x,rfl⟩: ∃ k x,l=k++[x]:=⟨l.dropLast,l.getLast (by intro e;rw[e] at h;cases h),(List.dropLast_concat_getLast _).symm⟩
   have ih:=oJ n k (by rw[List.length_append] at h;simpa using h)
   rw[p8]
   by_cases hx:x∈ aK k
   ·rw[if_pos hx,ih s,List.mem_append,List.mem_singleton]
    exact⟨.inl,fun h=>h.elim id fun e=>e▸ (ih x).1 hx⟩
   ·rw[if_neg hx,List.mem_append,List.mem_append,ih s]
theorem xq: ∀(n:Nat) (l:List (List UInt8)),l.length=n->(aK l).length<=n
 | 0,l,h=>by rw[List.length_eq_zero_iff.1 h];exact Nat.le_refl _
 | n+1,l,h=>by
   obtain⟨k,x,rfl⟩: ∃ k x,l=k++[x]:=⟨l.dropLast,l.getLast (by intro e;rw[e] at h;cases h),(List.dropLast_concat_getLast _).symm⟩
   have ih:=xq n k (by rw[List.length_append] at h;simpa using h)
   rw[p8]
   split
   ·omega
   ·rw[List.length_append];simpa using ih
def dQ (l:List (List UInt8))(s:List UInt8):Int:=(l.count s:Int)
def eX (l:List (List UInt8))(s:List UInt8):Bool:=decide (s∈ l)
noncomputable def Hq:List (FuncId×PT):=(62,cr RA uN)::(64,cr RA zo)::(63,mW 13)::jA
theorem B8:bl Tryz.prog (fun f=>aG f Hq):=.cons Oq (cG _ _) (.cons M5 (cG _ _) (.cons (Cf 13) (th 13) eG))
def VS (l:List (List UInt8)):c6:=.all Nat fun c=>.req (l.length<=c) (.new (fun k=>.aL [.bw k 1 true 0 l.length c,.int .i64 true 0]) (.rows true l.length [.str fun i=>l.getD i []] false (c*1) 9))
def D5 (n:Nat)(f g:Nat->List UInt8):c6:=.fork (decide (bY n f g=0)) fun b=>match b with
 | true=>VS (aK (dH 13 (aX n (fun i=>az (f i)) g)))
 | false=>.fork (decide (bY n f g=1)) fun b=>match b with
   | true=>.ret (.aL [.aO,.int .i64 true 1])
   | false=>.ret (.aL [.aO,.int .i64 true 12])
def GQ (R:Loop)(P:Pd)(key:Nat)(L:List (List UInt8))(c:Nat):Mem:=[(1,.cells [.bw key 1 true 0 (aK L).length c] 1 29),(key,.rows true (aK L).length [.str fun i=>(aK L).getD i []] false (c*1) 9),(2,.fmap (eX L) (.int .i64 (dQ L)) none),
 (3,.cells [.map 2] 1 90),(9,.loop .ready none R),(6,P.parts 7),(7,P.lists 6)]
structure XE where
 L:List (List UInt8)
 c:Nat
 P:Pd
 s:List UInt8
def Xl (R:Loop):kH :=
 {G:=XE,N:=10,H:=11,pre:=fun x=>x.L.length<=100000/\(aK x.L).length<=x.c,args:=fun x=>[.str false x.s],mem:=fun x=>GQ R x.P 10 x.L x.c,val:=fun _=>.bool true true,B:=Nat,
  post:=fun x c=>(aK (x.L++[x.s])).length<=c,back:=fun x c=>GQ R x.P 10 (x.L++[x.s]) c}
structure Mq where
 L:List (List UInt8)
 c:Nat
 P:Pd
 a:Nat
 T:List (List UInt8)
def MU (R:Loop)(d:Nat):kH :=
 {G:=Mq,N:=10,H:=11,pre:=fun x=>Told x.P d x.a x.T/\(x.L++x.T).length<=100000/\(aK x.L).length<=x.c,args:=fun x=>[.eD 6 x.a 0,.yield 9],mem:=fun x=>GQ R x.P 10 x.L x.c,val:=fun _=>.bool true true,B:=Nat,
  post:=fun x c=>(aK (x.L++x.T)).length<=c,back:=fun x c=>GQ R x.P 10 (x.L++x.T) c}
def TB (st:Sx.St):List Nat:=match st.m.get 1 with
 | some (.cells [.bw k _ _ _ _ _] _ _)=>[k]
 | _=>[]
def fe (x:Mq)(Ks:List (List (List UInt8)))(i:Nat):List (List UInt8):=x.L++x.P.iF x.a::(Ks.take i).flatten
noncomputable def RC (R:Loop)(x:Mq)(Ks:List (List (List UInt8))):bC :=
 {α:=Nat×Nat,pre:=fun _ y=>y.1<=Ks.length/\(aK (fe x Ks y.1)).length<=y.2,nY:=fun _ y=>Ks.length - y.1,fresh:=1,slots:=fun _ y=>[(19,.int .i64 false y.1)],mem:=fun st y=>GQ R x.P st.nx (fe x Ks y.1) y.2,drop:=TB}
noncomputable def Uc (R:Loop)(d:Nat)(x:Mq)(Ks:List (List (List UInt8))):VC :=
 dR Tryz.prog (recC 107 (jh (MU R d))) [(9,jh (Xl R))] vL [(4,always (RC R x Ks))] 100 Tryz.f107 ((MU R (d+1)).args x) ((MU R (d+1)).mem x) 11 ((MU R (d+1)).fit x)
noncomputable def Kn:ff:={cg with cI:=fun f=>aG f Hq,iter:=fun f=>if f=107 then some (FL 9 10 Xl (fun R=>MU R 14))else none}
theorem Wm (R:Loop)(d:Nat)(x:Mq)(Ks:List (List (List UInt8))):eT (.s 1 (.n .k (.s 0 (.n (.s 0 .k) (.s 0 (.n .k (.n .k (.s 1 (.n .k (.n .k (.s 0 (.n (.s 0 (.n .k (.s 0 (.n (.s 0 .k) (.s 0 (.n .k (.n .k (.n .k (.s 0 .k))))))))) (.n (.s 2 (.n .k (.s 1 (.n (.s 0 .k) (.s 0 (.n .k (.n .k (.s 1 (.n .k (.n .k (.s 1 (.n .k (.s 0 (.n (.s 0 .k) (.s 0 (.n .k (.n .k (.n .k (.s 0 .k))))))))))))))))))) (.s 2 (.n (.s 0 .k) (.s 0 (.n .k (.n .k .t)))))))))))))))))) (Uc R d x Ks) ((x.P.D x.a=true/\∃(u17:XE),(u17.L.length<=100000/\(aK u17.L).length<=u17.c)/\x.P.iF x.a=u17.s/\((aK x.L).length=(aK u17.L).length/\x.c=u17.c)/\ah (SB.rows true (aK x.L).length [au.str fun(u16:Nat)=>(aK x.L).getD u16 []] false (x.c*1) 9) (SB.rows true (aK u17.L).length [au.str fun(u15:Nat)=>(aK u17.L).getD u15 []] false (u17.c*1) 9)/\ah (SB.fmap (eX x.L) (aV.int IntKind.i64 (dQ x.L)) none) (SB.fmap (eX u17.L) (aV.int IntKind.i64 (dQ u17.L)) none)/\ah (SB.iw x.P.D [au.str x.P.iF,au.cn 7 1 true x.P.fb x.P.nb x.P.cb] 2 165 false) (u17.P.parts 7)/\ah (SB.dI x.P.D2 x.P.n2 [bU.ref 6 x.P.g] false) (u17.P.lists 6)/\∀(u14:Nat),(aK (u17.L++[u17.s])).length<=u14->u17.P.D x.a=true/\(∃(u13:Nat×Nat),(u13.fst<=Ks.length/\(aK (fe x Ks u13.fst)).length<=u13.snd)/\0=(u13.fst:Int)/\((aK (u17.L++[u17.s])).length=(aK (fe x Ks u13.fst)).length/\u14=u13.snd) /\ah (SB.rows true (aK (u17.L++[u17.s])).length [au.str fun(u12:Nat)=>(aK (u17.L++[u17.s])).getD u12 []] false (u14*1) 9) (SB.rows true (aK (fe x Ks u13.fst)).length [au.str fun(u11:Nat)=>(aK (fe x Ks u13.fst)).getD u11 []] false (u13.snd*1) 9)/\ah (SB.fmap (eX (u17.L++[u17.s])) (aV.int IntKind.i64 (dQ (u17.L++[u17.s]))) none) (SB.fmap (eX (fe x Ks u13.fst)) (aV.int IntKind.i64 (dQ (fe x Ks u13.fst))) none)/\ah (SB.cells [SV.map (ga 10 11 2)] 1 90) (SB.cells [SV.map 2] 1 90)/\ah (SB.iw u17.P.D [au.str u17.P.iF,au.cn (ga 10 11 7) 1 true u17.P.fb u17.P.nb u17.P.cb] 2 165 false) (x.P.parts 7)/\ah (SB.dI u17.P.D2 u17.P.n2 [bU.ref (ga 10 11 6) u17.P.g] false) (x.P.lists 6))/\∀(u10:Nat×Nat),u10.fst<=Ks.length/\(aK (fe x Ks u10.fst)).length<=u10.snd->(decide ((u10.fst:Int)<(↑(u17.P.nb x.a):Int))=true->(0<=(u10.fst:Int)/\(u10.fst:Int)<(↑(u17.P.nb x.a):Int))/\(x.P.D2 (u17.P.fb x.a)=true/\0+(u10.fst:Int).toNat<x.P.n2 (u17.P.fb x.a))/\∃(u9:Mq),(Told u9.P d u9.a u9.T/\(u9.L++u9.T).length<=100000/\(aK u9.L).length<=u9.c) /\x.P.g (u17.P.fb x.a) (0+(u10.fst:Int).toNat)=u9.a/\((aK (fe x Ks u10.fst)).length=(aK u9.L).length/\u10.snd=u9.c)/\ah (SB.rows true (aK (fe x Ks u10.fst)).length [au.str fun(u8:Nat)=>(aK (fe x Ks u10.fst)).getD u8 []] false (u10.snd*1) 9) (SB.rows true (aK u9.L).length [au.str fun(u7:Nat)=>(aK u9.L).getD u7 []] false (u9.c*1) 9)/\ah (SB.fmap (eX (fe x Ks u10.fst)) (aV.int IntKind.i64 (dQ (fe x Ks u10.fst))) none) (SB.fmap (eX u9.L) (aV.int IntKind.i64 (dQ u9.L)) none)/\ah (SB.iw x.P.D [au.str x.P.iF,au.cn 7 1 true x.P.fb x.P.nb x.P.cb] 2 165 false) (u9.P.parts 7)/\ah (SB.dI x.P.D2 x.P.n2 [bU.ref 6 x.P.g] false) (u9.P.lists 6)/\∀(u6:Nat),(aK (u9.L++u9.T)).length<=u6->((-9223372036854775808:Int)<=(u10.fst:Int)+1/\(u10.fst:Int)+1<=(9223372036854775807:Int))/\∃(u5:Nat×Nat),((u5.fst<=Ks.length/\(aK (fe x Ks u5.fst)).length<=u5.snd)/\Ks.length - u5.fst<Ks.length - u10.fst)/\(u10.fst:Int)+1=(u5.fst:Int)/\((aK (u9.L++u9.T)).length=(aK (fe x Ks u5.fst)).length/\u6=u5.snd) /\ah (SB.rows true (aK (u9.L++u9.T)).length [au.str fun(u4:Nat)=>(aK (u9.L++u9.T)).getD u4 []] false (u6*1) 9) (SB.rows true (aK (fe x Ks u5.fst)).length [au.str fun(u3:Nat)=>(aK (fe x Ks u5.fst)).getD u3 []] false (u5.snd*1) 9)/\ah (SB.fmap (eX (u9.L++u9.T)) (aV.int IntKind.i64 (dQ (u9.L++u9.T))) none) (SB.fmap (eX (fe x Ks u5.fst)) (aV.int IntKind.i64 (dQ (fe x Ks u5.fst))) none)/\ah (SB.cells [SV.map (ga 10 ((11:Nat)+(11:Nat)+(1:Nat)) 2)] 1 90) (SB.cells [SV.map 2] 1 90)/\ah (SB.iw u9.P.D [au.str u9.P.iF,au.cn (ga 10 ((11:Nat)+(11:Nat)+(1:Nat)) 7) 1 true u9.P.fb u9.P.nb u9.P.cb] 2 165 false) (x.P.parts 7)/\ah (SB.dI u9.P.D2 u9.P.n2 [bU.ref (ga 10 ((11:Nat)+(11:Nat)+(1:Nat)) 6) u9.P.g] false) (x.P.lists 6))/\(decide ((u10.fst:Int)<(↑(u17.P.nb x.a):Int))=false->∃(u2:Nat),(aK (x.L++x.T)).length<=u2/\((aK (fe x Ks u10.fst)).length=(aK (x.L++x.T)).length/\u10.snd=u2) /\ah (SB.rows true (aK (fe x Ks u10.fst)).length [au.str fun(u1:Nat)=>(aK (fe x Ks u10.fst)).getD u1 []] false (u10.snd*1) 9) (SB.rows true (aK (x.L++x.T)).length [au.str fun(u0:Nat)=>(aK (x.L++x.T)).getD u0 []] false (u2*1) 9)/\ah (SB.fmap (eX (fe x Ks u10.fst)) (aV.int IntKind.i64 (dQ (fe x Ks u10.fst))) none) (SB.fmap (eX (x.L++x.T)) (aV.int IntKind.i64 (dQ (x.L++x.T))) none)))):=⟨by kernel_rfl,by kernel_rfl⟩
theorem Sb (n:Nat)(f g:Nat->List UInt8)(z:Bool)(o c:Nat)(key:Option Nat):eT (.s 3 (.n (.s 0 .k) (.s 0 (.n .k (.n (.s 1 (.n (.s 4 (.n (.s 0 .k) (.s 0 (.n .k (.n .k .t))))) (.s 2 (.n (.s 0 .k) (.s 0 (.n .k (.n .k .t))))))) (.s 0 (.n .k (.s 1 (.n .k (.s 0 (.n .k (.n .k (.s 0 .k))))))))))))) (gJ Kn 26 Tryz.f26 [.bP 0 2 z o 0 n c] [gH z o c n f g key] (D5 n f g)) ((fun P0:Mq->Nat->SV=>(((((z=z/\o=o/\0+n<=n)/\True)/\n<9223372036854775808)/\((!decide (bY n f g=0))=true->(decide (bY n f g=0)=true->∃(u29:Nat),(aK (dH 13 (aX n (fun(u28:Nat)=>az (f u28)) g))).length<=u29/\False)/\(decide (bY n f g=0)=false->(decide (bY n f g=1)=true->af (SV.aL [SV.aO,SV.int .i64 false (bY n f g)]) (SV.aL [SV.aO,SV.int .i64 true 1]))/\(decide (bY n f g=1)=false->af (SV.aL [SV.aO,SV.int .i64 false (bY n f g)]) (SV.aL [SV.aO,SV.int .i64 true 12]))))/\((!decide (bY n f g=0))=false->(((z=z/\o=o/\0+n<=n)/\True)/\n<=1000/\∀(u27:Nat),u27<n->(f u27).length<1099511627776)/\∀(u26:Nat),(aX n (fun(u25:Nat)=>az (f u25)) g).length<=u26->∃(u24:List Rw×Nat),(cW 13 u24.fst/\u24.fst.length<=1000/\(13:Nat)<=(13:Nat))/\((aX n (fun(u23:Nat)=>az (f u23)) g).length=u24.fst.length/\u26=u24.snd) /\ah (SB.rows false (aX n (fun(u22:Nat)=>az (f u22)) g).length [b8 (aX n (fun(u21:Nat)=>az (f u21)) g),b6 (aX n (fun(u20:Nat)=>az (f u20)) g)] false (u26*2) 174) (SB.rows false u24.fst.length [b8 u24.fst,b6 u24.fst] true (u24.snd*2) 174)/\∀(u19:Nat×Pd),Told u19.snd 14 u19.fst (dH 13 u24.fst)->∀(_u18:Loop),(∀(u17:XE),u17.L.length<=100000/\(aK u17.L).length<=u17.c->((-9223372036854775808:Int)<=dflt (eX u17.L u17.s) (dQ u17.L u17.s)+1/\dflt (eX u17.L u17.s) (dQ u17.L u17.s)+1<=(9223372036854775807:Int))/\(decide (dflt (gd (eX u17.L) u17.s u17.s) (kK (dQ u17.L) u17.s (dflt (eX u17.L u17.s) (dQ u17.L u17.s)+1) u17.s)=1)=true->(0+(aK u17.L).length<=(aK u17.L).length/\True/\2*((aK u17.L).length+1)*16<=(281474976710656:Nat)/\(aK u17.L).length+1<(9223372036854775808:Nat))/\∀(u16:Nat),(aK u17.L).length+1<=u16->∃(u15:Nat),(aK (u17.L++[u17.s])).length<=u15/\((aK u17.L).length+1=(aK (u17.L++[u17.s])).length/\u16=u15) /\ah (SB.rows true ((aK u17.L).length+1) [au.str fun(u14:Nat)=>if u14<(aK u17.L).length then(aK u17.L).getD u14 [] else bq [u17.s] (u14 - (aK u17.L).length)] false (u16*1) 9) (SB.rows true (aK (u17.L++[u17.s])).length [au.str fun(u13:Nat)=>(aK (u17.L++[u17.s])).getD u13 []] false (u15*1) 9)/\ah (SB.fmap (gd (eX u17.L) u17.s) (aV.int IntKind.i64 (kK (dQ u17.L) u17.s (dflt (eX u17.L u17.s) (dQ u17.L u17.s)+1))) none) (SB.fmap (eX (u17.L++[u17.s])) (aV.int IntKind.i64 (dQ (u17.L++[u17.s]))) none))/\(decide (dflt (gd (eX u17.L) u17.s u17.s) (kK (dQ u17.L) u17.s (dflt (eX u17.L u17.s) (dQ u17.L u17.s)+1) u17.s)=1)=false->∃(u12:Nat),(aK (u17.L++[u17.s])).length<=u12/\((aK u17.L).length=(aK (u17.L++[u17.s])).length/\u17.c=u12)/\ah (SB.rows true (aK u17.L).length [au.str fun(u11:Nat)=>(aK u17.L).getD u11 []] false (u17.c*1) 9) (SB.rows true (aK (u17.L++[u17.s])).length [au.str fun(u10:Nat)=>(aK (u17.L++[u17.s])).getD u10 []] false (u12*1) 9) /\ah (SB.fmap (gd (eX u17.L) u17.s) (aV.int IntKind.i64 (kK (dQ u17.L) u17.s (dflt (eX u17.L u17.s) (dQ u17.L u17.s)+1))) none) (SB.fmap (eX (u17.L++[u17.s])) (aV.int IntKind.i64 (dQ (u17.L++[u17.s]))) none)))/\∃(u9:Mq),(Told u9.P 14 u9.a u9.T/\(u9.L++u9.T).length<=100000/\(aK u9.L).length<=u9.c)/\u19.fst=u9.a/\(aK u9.L).length=0/\(SB.rows true (aK u9.L).length [au.str fun(u8:Nat)=>(aK u9.L).getD u8 []] false (u9.c*1) 9).no=true/\ah (SB.map [] 0) (SB.fmap (eX u9.L) (aV.int IntKind.i64 (dQ u9.L)) none)/\ah (SB.cells [SV.map ((1:Nat)+(1:Nat))] 1 90) (SB.cells [SV.map 2] 1 90)/\ah (SB.iw u19.snd.D [au.str u19.snd.iF,au.cn 7 1 true u19.snd.fb u19.snd.nb u19.snd.cb] 2 165 false) (u9.P.parts 7)/\ah (SB.dI u19.snd.D2 u19.snd.n2 [bU.ref 6 u19.snd.g] false) (u9.P.lists 6)/\∀(u7:Nat),(aK (u9.L++u9.T)).length<=u7->(decide (bY n f g=0)=true->∃(u6:Nat),(aK (dH 13 (aX n (fun(u5:Nat)=>az (f u5)) g))).length<=u6 /\ah (SB.rows true (aK (u9.L++u9.T)).length [au.str fun(u4:Nat)=>(aK (u9.L++u9.T)).getD u4 []] false (u7*1) 9) (SB.rows true (aK (dH 13 (aX n (fun(u3:Nat)=>az (f u3)) g))).length [au.str fun(u2:Nat)=>(aK (dH 13 (aX n (fun(u1:Nat)=>az (f u1)) g))).getD u2 []] false (u6*1) 9)/\af (P0 u9 u7) (SV.aL [SV.bw (ga 10 ((1:Nat)+(1:Nat)+(1:Nat)+(1:Nat)+(1:Nat)+(3:Nat)+(1:Nat)+(1:Nat)) 10) 1 true 0 (aK (dH 13 (aX n (fun(u0:Nat)=>az (f u0)) g))).length u6,SV.int .i64 true 0]))/\(decide (bY n f g=0)=false->(decide (bY n f g=1)=true->af (P0 u9 u7) (SV.aL [SV.aO,SV.int .i64 true 1]))/\(decide (bY n f g=1)=false->af (P0 u9 u7) (SV.aL [SV.aO,SV.int .i64 true 12]))))))) (fun(u9:Mq) (u7:Nat)=>(SV.aL [SV.bw (ga 10 ((1:Nat)+(1:Nat)+(1:Nat)+(1:Nat)+(1:Nat)+(3:Nat)+(1:Nat)+(1:Nat)) 10) 1 true 0 (aK (u9.L++u9.T)).length u7,SV.int .i64 true 0]))):=⟨by kernel_rfl,by kernel_rfl⟩
theorem vb {u u':List (List UInt8)}{c c':Nat}{ty:TypeId}(h:u=u')(hc:c=c'):ah (.rows true u.length [.str fun i=>u.getD i []] false (c*1) ty) (.rows true u'.length [.str fun i=>u'.getD i []] false (c'*1) ty):=by
 subst h;subst hc;exact ah.refl _
theorem Fh {L L':List (List UInt8)}(h:L=L'):ah (.fmap (eX L) (.int .i64 (dQ L)) none) (.fmap (eX L') (.int .i64 (dQ L')) none):=by
 subst h;exact ah.refl _
theorem Nh (x:Mq)(Ks:List (List (List UInt8)))(i:Nat)(hi:i<Ks.length):fe x Ks (i+1)=fe x Ks i++Ks[i]:=by
 unfold fe
 rw[List.take_add_one,List.getElem?_eq_getElem hi,List.flatten_append]
 simp
theorem S1 (x:Mq)(Ks:List (List (List UInt8)))(hT:x.T=x.P.iF x.a::Ks.flatten)(i:Nat)(hi:Ks.length<=i):fe x Ks i=x.L++x.T:=by
 unfold fe
 rw[List.take_of_length_le hi,hT]
theorem SY (x:Mq)(Ks:List (List (List UInt8)))(hT:x.T=x.P.iF x.a::Ks.flatten)(i:Nat):(fe x Ks i).length<=(x.L++x.T).length:=by
 have h:Ks.flatten=(Ks.take i).flatten++(Ks.drop i).flatten:=by rw[← List.flatten_append,List.take_append_drop]
 unfold fe
 rw[hT,h]
 simp only[List.length_append,List.length_cons]
 omega
theorem G0 (R:Loop)(d:Nat)(x:Mq)(hx:(MU R (d+1)).pre x): ∃ br,aA (dR Tryz.prog (recC 107 (jh (MU R d))) [(9,jh (Xl R))] vL br 100 Tryz.f107 ((MU R (d+1)).args x) ((MU R (d+1)).mem x) (MU R (d+1)).H ((MU R (d+1)).fit x)):=by
 obtain⟨⟨hD,Ks,hnb,hD2,hT,hK⟩,hlen,hc⟩:=hx
 have key:aA (Uc R d x Ks):=by
  refine aA.pr (Wm R d x Ks) ?_
  have hlen:(x.L++x.T).length<=100000:=hlen
  have hL:x.L.length<=100000:=by rw[List.length_append] at hlen;omega
  refine⟨hD,⟨x.L,x.c,x.P,x.P.iF x.a⟩,⟨hL,hc⟩,rfl,⟨rfl,rfl⟩,ah.refl _,ah.refl _,ah.refl _,ah.refl _,fun y hy=>⟨hD,⟨(0,y),⟨Nat.zero_le _,hy⟩,rfl,⟨rfl,rfl⟩,ah.refl _,ah.refl _,ah.refl _,ah.refl _,ah.refl _⟩,fun z hz=>⟨fun h=> ?_,fun h=> ?_⟩⟩⟩
  ·obtain⟨i,c⟩:=z
   obtain⟨hz1,hz2⟩:=hz
   have hi:i<Ks.length:=by
    have:(i:Int)<(x.P.nb x.a:Int):=of_decide_eq_true h
    omega
   have hpos:0<Ks.length:=by omega
   have hd:=hD2 hpos
   have ek:(0:Nat)+((i:Nat):Int).toNat=i:=by omega
   have em:=Nh x Ks i hi
   have hml:=SY x Ks hT (i+1)
   rw[em] at hml
   refine⟨⟨by omega,by show(i:Int)<(x.P.nb x.a:Int);omega⟩,⟨hd.1,by rw[ek];exact Nat.lt_of_lt_of_le hi hd.2⟩,⟨fe x Ks i,c,x.P,x.P.g (x.P.fb x.a) i,Ks[i]⟩,⟨hK i _ (List.getElem?_eq_getElem hi),by show(fe x Ks i++Ks[i]).length<=_;omega,hz2⟩,by rw[ek],⟨rfl,rfl⟩,ah.refl _,ah.refl _,ah.refl _,ah.refl _,fun y hy=> ?_⟩
   have hl:Ks.length<=100000:=by
    have:=yN (P:=x.P) (d:=d) (n:=Ks.length) (f:=fun i=>x.P.g (x.P.fb x.a) i) (B:=Ks.flatten) ⟨Ks,rfl,rfl,hK⟩
    rw[List.length_append,hT,List.length_cons] at hlen
    omega
   have ec:aK (fe x Ks i++Ks[i])=aK (fe x Ks (i+1)):=congrArg aK em.symm
   refine⟨⟨by omega,by omega⟩,(i+1,y),⟨⟨hi,?_⟩,by show _ - (i+1)<_ - i;omega⟩,by show(i:Int)+1=((i+1:Nat):Int);omega,⟨congrArg List.length ec,rfl⟩,vb ec rfl,Fh em.symm,ah.refl _,ah.refl _,ah.refl _⟩
   show(aK (fe x Ks (i+1))).length<=y
   rw[← ec];exact hy
  ·obtain⟨i,c⟩:=z
   obtain⟨hz1,hz2⟩:=hz
   have hi:Ks.length<=i:=by
    have: ¬ (i:Int)<(x.P.nb x.a:Int):=of_decide_eq_false h
    omega
   have em:=S1 x Ks hT i hi
   have hz2:(aK (fe x Ks i)).length<=c:=hz2
   exact⟨c,by rw[← em];exact hz2,⟨congrArg (fun l=>(aK l).length) em,rfl⟩,vb (congrArg aK em) rfl,Fh em⟩
 exact⟨_,key⟩
theorem K8:DV Tryz.prog 107 (FL 9 10 Xl (fun R=>MU R 14)) :=
 QG (n:=100) bS (fn:=Tryz.f107) Tryz.func107 (by kernel_rfl) (by decide) (fun _=>rfl) (fun _ _=>rfl) (fun R x h=>h.1) fun R d x hx _=>G0 R d x hx
theorem VT:Sx.Good Tryz.prog Kn:=.of bS B8 bt fun f g h=>by
 simp only[Kn] at h
 split at h
 ·rename_i e
  injection h with h
  subst e;subst h
  exact K8
 ·cases h
theorem zP (L:List (List UInt8))(s:List UInt8):dflt (eX L s) (dQ L s)=dQ L s:=by
 unfold dflt eX dQ
 by_cases h:s∈ L
 ·rw[decide_eq_true h];rfl
 ·rw[decide_eq_false h,List.count_eq_zero_of_not_mem h];rfl
theorem OK (L:List (List UInt8))(s t:List UInt8):gd (eX L) s t=eX (L++[s]) t:=by
 unfold gd eX
 rw[Bool.eq_iff_iff,Bool.or_eq_true,decide_eq_true_eq,decide_eq_true_eq,decide_eq_true_eq,List.mem_append,List.mem_singleton]
theorem PS (L:List (List UInt8))(s t:List UInt8):kK (dQ L) s (dQ L s+1) t=dQ (L++[s]) t:=by
 unfold kK dQ
 rw[List.count_append,List.count_singleton]
 by_cases h:t=s
 ·subst h;simp
 ·rw[decide_eq_false h]
  have: ¬ s=t:=fun e=>h e.symm
  simp[this]
theorem JU (L:List (List UInt8))(s:List UInt8):ah (.fmap (gd (eX L) s) (.int .i64 (kK (dQ L) s (dflt (eX L s) (dQ L s)+1))) none) (.fmap (eX (L++[s])) (.int .i64 (dQ (L++[s]))) none):=by
 rw[zP]
 exact ah.fmap (OK L s) fun t=>congrArg (Value.int .i64) (PS L s t)
theorem Js (L:List (List UInt8))(s:List UInt8):dflt (gd (eX L) s s) (kK (dQ L) s (dflt (eX L s) (dQ L s)+1) s)=1↔s∉ L:=by
 have h1:gd (eX L) s s=true:=by unfold gd;simp
 have h2:kK (dQ L) s (dflt (eX L s) (dQ L s)+1) s=dQ L s+1:=by unfold kK;rw[zP];simp
 rw[h1,h2]
 show dQ L s+1=1↔_
 unfold dQ
 rw[← List.count_eq_zero]
 omega
theorem Vk (L:List (List UInt8))(s:List UInt8):0<=dQ L s/\dQ L s<=(L.length:Int):=by
 unfold dQ
 have:=List.count_le_length (a:=s) (l:=L)
 omega
theorem SO {u:List (List UInt8)}{s:List UInt8}{u':List (List UInt8)}{c c':Nat}{ty:TypeId}(h:u'=u++[s])(hc:c=c'):ah (.rows true (u.length+1) [.str fun j=>if j<u.length then u.getD j [] else bq [s] (j - u.length)] false (c*1) ty) (.rows true u'.length [.str fun i=>u'.getD i []] false (c'*1) ty):=by
 subst h;subst hc
 refine lu (by simp) rfl rfl fun k c c' h1 h2 i hi E=> ?_
 match k,h1,h2 with
 | 0,h1,h2 =>
   injection h1 with h1;injection h2 with h2;subst h1;subst h2
   simp only[au.at,SV.val]
   rw[sS u s [] i hi]
   by_cases h:i<u.length
   ·rw[if_pos h,if_pos h]
   ·rw[if_neg h,if_neg h];rfl
 | k+1,h1,_=>simp at h1
theorem LX (n:Nat)(f g:Nat->List UInt8):aX (n+1) f g=aX n f g++[(f n,g n)]:=by
 unfold aX;rw[List.range_succ,List.map_append];rfl
theorem xV {n:Nat}{f g:Nat->List UInt8}{r:Rw}(h:r∈ aX n f g): ∃ i,i<n/\r=(f i,g i):=by
 unfold aX at h
 obtain⟨i,hi,rfl⟩:=List.mem_map.1 h
 exact⟨i,List.mem_range.1 hi,rfl⟩
theorem JW {f g:Nat->List UInt8}: ∀ {n:Nat},(∀ i,i<n->gP f g i=true)->∀ i,i+1<n->Op.bytesLess (f i) (f (n - 1))=true
 | 0,_,i,hi=>by omega
 | n+1,h,i,hi=>by
   have h1:Op.bytesLess (f (n - 1)) (f n)=true:=by
    have:=h n (Nat.lt_succ_self n)
    unfold gP at this
    simp only[Bool.and_eq_true,Bool.or_eq_true,decide_eq_true_eq] at this
    rcases this.2.2 with e | e
    ·omega
    ·exact e
   show Op.bytesLess (f i) (f n)=true
   by_cases e:i+1=n
   ·rw[← e] at h1;rw[← e];exact h1
   ·exact x7 (JW (fun j hj=>h j (by omega)) i (by omega)) h1
theorem A8 {f g:Nat->List UInt8}: ∀ {n:Nat},(∀ i,i<n->gP f g i=true)->(aX n f g).Pairwise fun a b=>Op.bytesLess a.1 b.1=true
 | 0,_=>List.Pairwise.nil
 | n+1,h=>by
   rw[LX,List.pairwise_append]
   refine⟨A8 fun i hi=>h i (by omega),List.pairwise_singleton _ _,fun a ha b hb=> ?_⟩
   obtain⟨i,hi,rfl⟩:=xV ha
   rw[List.mem_singleton] at hb;subst hb
   exact JW h i (by omega)
theorem kj {n:Nat}{f g:Nat->List UInt8}(h:bY n f g=0):Hg (aX n f g)/\n<=40:=by
 unfold bY at h
 cases he:GV n f g with
 | false=>rw[he] at h;exact absurd (show(1:Int)=0 from h) (by decide)
 | true =>
   rw[he,cond_true] at h
   have hall: ∀ i,i<n->gP f g i=true:=fun i hi=>List.all_eq_true.1 he i (List.mem_range.2 hi)
   refine⟨⟨A8 hall,fun x hx=> ?_,fun x hx=> ?_⟩,?_⟩
   ·obtain⟨i,hi,rfl⟩:=xV hx
    have:=hall i hi
    unfold gP uR at this
    simp only[Bool.and_eq_true,Bool.not_eq_true',decide_eq_true_eq,decide_eq_false_iff_not] at this
    exact⟨this.1.1,by have:=this.1.2;show(f i).length<=6;omega⟩
   ·obtain⟨i,hi,rfl⟩:=xV hx
    have:=hall i hi
    unfold gP qn at this
    simp only[Bool.and_eq_true,Bool.not_eq_true',decide_eq_true_eq,decide_eq_false_iff_not] at this
    exact⟨List.length_pos_iff.2 this.2.1.1,by have:=this.2.1.2;show(g i).length<=80;omega⟩
   ·by_cases h40:(40:Int)<(n:Int)
    ·rw[if_pos h40] at h;exact absurd h (by decide)
    ·omega
theorem My (n:Nat)(f g:Nat->List UInt8):bY n f g=0∨bY n f g=1∨bY n f g=12:=by
 unfold bY
 cases GV n f g with
 | false=>exact .inr (.inl rfl)
 | true =>
   rw[cond_true]
   by_cases h:(40:Int)<(n:Int)
   ·rw[if_pos h];exact .inr (.inr rfl)
   ·rw[if_neg h];exact .inl rfl
theorem NS {n:Nat}{f g:Nat->List UInt8}(h: ¬ bY n f g=0)(h1: ¬ bY n f g=1):bY n f g=12:=by
 rcases My n f g with e | e | e
 ·exact absurd e h
 ·exact absurd e h1
 ·exact e
theorem xg {v:SV}{k:IntKind}{a b:Int}{l l':Bool}(h:a=b):af (.aL [v,.int k l a]) (.aL [v,.int k l' b]):=by
 subst h;exact fun E=>rfl
theorem uH (n:Nat)(f g:Nat->List UInt8):aX n (fun i=>az (f i)) g=rowsOf (aX n f g):=by
 unfold aX rowsOf;rw[List.map_map];rfl
theorem yd {n:Nat}{f g:Nat->List UInt8}(h:bY n f g=0):cW 13 (aX n (fun i=>az (f i)) g):=by
 rw[uH];exact AX (kj h).1
theorem J9 (m:Nat)(l:List Rw):(dH m l).length<=m*l.length+1:=by
 have:=B5 m l
 unfold dH
 rw[List.length_cons];omega
theorem Gb (n:Nat)(f g:Nat->List UInt8)(hn:n<9223372036854775808)(z:Bool)(o c:Nat)(key:Option Nat):aA (gJ Kn 26 Tryz.f26 [.bP 0 2 z o 0 n c] [gH z o c n f g key] (D5 n f g)):=by
 refine aA.pr (Sb n f g z o c key) ?_
 simp only[Nat.zero_add,Nat.le_refl,true_and,and_true,Bool.not_eq_true',Bool.not_eq_false',decide_eq_true_eq,decide_eq_false_iff_not]
 refine⟨hn,fun h=>⟨fun h'=>absurd h' h,fun _=>⟨fun e=>xg e,fun e=>xg (NS h e)⟩⟩,fun h=> ?_⟩
 obtain⟨he,h40⟩:=kj h
 have hro:=yd h
 have hl:=eZ n (fun i=>az (f i)) g
 refine⟨⟨by omega,fun i hi=> ?_⟩,fun c hc=>⟨(aX n (fun i=>az (f i)) g,c),⟨hro,by rw[hl];omega⟩,⟨rfl,rfl⟩,?_,fun x hx R=>⟨fun y hy=> ?_,?_⟩⟩⟩
 ·have:=(he.key (f i,g i) (by unfold aX;exact List.mem_map.2 ⟨i,List.mem_range.2 hi,rfl⟩)).2
  have:(f i).length<=6:=this
  omega
 ·exact qz
 ·have hL:y.L.length<=100000:=hy.1
  have hu:=xq y.L.length y.L rfl
  obtain⟨c1,c2⟩:=Vk y.L y.s
  have hd:=zP y.L y.s
  rw[hd]
  refine⟨⟨by omega,by omega⟩,fun h1=>⟨⟨by omega,by omega⟩,fun c hc=>⟨c,?_⟩⟩,fun h1=>⟨y.c,?_⟩⟩
  ·rw[← hd] at h1
   have hn:y.s∉ aK y.L:=fun e=>(Js y.L y.s).1 h1 ((oJ _ _ rfl _).1 e)
   have e:aK (y.L++[y.s])=aK y.L++[y.s]:=by rw[p8,if_neg hn]
   have el:(aK (y.L++[y.s])).length=(aK y.L).length+1:=by rw[e,List.length_append];rfl
   refine⟨by omega,⟨el.symm,rfl⟩,SO e rfl,?_⟩
   rw[← hd];exact JU _ _
  ·rw[← hd] at h1
   have hn:y.s∈ aK y.L:=(oJ _ _ rfl _).2 (Decidable.byContradiction fun e=>h1 ((Js y.L y.s).2 e))
   have e:aK (y.L++[y.s])=aK y.L:=by rw[p8,if_pos hn]
   refine⟨by rw[e];exact hy.2,⟨by rw[e],rfl⟩,vb e.symm rfl,?_⟩
   rw[← hd];exact JU _ _
 ·have hal:=J9 13 (aX n (fun i=>az (f i)) g)
  have ha:([]++dH 13 (aX n (fun i=>az (f i)) g):List (List UInt8)).length<=100000:=by rw[List.nil_append];omega
  refine⟨⟨[],0,x.2,x.1,dH 13 (aX n (fun i=>az (f i)) g)⟩,⟨hx,ha,Nat.le_refl _⟩,rfl,rfl,rfl,ah.N9 fun _=>rfl,ah.refl _,ah.refl _,ah.refl _,fun y hy=>⟨fun _=>⟨y,hy,ah.refl _,fun E=>rfl⟩,fun h'=>absurd h h'⟩⟩
def Fs (z:Bool)(l:List Rw)(c:Nat):SB:=.rows z l.length [b8 l,b6 l] false (c*2) 50
def Kj (l:List Rw):c6:=.all Nat fun c=>.req (l.length<=c) (.new (fun k=>.bw k 2 true 0 l.length c) (Fs true l c))
def dn (fr to:List UInt8)(n:Nat)(f g:Nat->List UInt8)(i:Nat):List Rw:=aW fr to ((aX n f g).take i)
noncomputable def Vr (fr to:List UInt8)(n:Nat)(f g:Nat->List UInt8):bC :=
 {α:=Nat×Nat,pre:=fun _ x=>x.1<=n/\(dn fr to n f g x.1).length<=x.2,nY:=fun _ x=>n - x.1,fresh:=1,slots:=fun st x=>[(10,.int .i64 false x.1),(5,.bw st.nx 2 true 0 (dn fr to n f g x.1).length x.2)],
  mem:=fun st x=>[(st.nx,Fs true (dn fr to n f g x.1) x.2)]}
noncomputable def OT (fr to:List UInt8)(n:Nat)(f g:Nat->List UInt8):ff:={cg with cI:=fun f=>aG f Dm,br:=fun h=>if h=23 then [(3,always (Vr fr to n f g))] else []}
theorem U1 (fr to:List UInt8)(n:Nat)(f g:Nat->List UInt8):Sx.Good Tryz.prog (OT fr to n f g):=.of bS uI bt
noncomputable def b9 (n:Nat)(f g:Nat->List UInt8):List UInt8:=cL (ctext 13 (aX n (fun i=>az (f i)) g))
noncomputable def JA (n:Nat)(f g:Nat->List UInt8):c6:=.fork (decide (bY n f g=0)) fun b=>match b with
 | true=>.ret (.aL [.str false (b9 n f g),.int .i64 true 0])
 | false=>.fork (decide (bY n f g=1)) fun b=>match b with
   | true=>.ret (.aL [.str true [],.int .i64 true 1])
   | false=>.ret (.aL [.str true [],.int .i64 true 12])
noncomputable def Ou:ff:={cg with cI:=fun f=>aG f Hq}
theorem Wd:Sx.Good Tryz.prog Ou:=.of bS B8 bt
end Go.Proofs.YtoibaecagklkaaaGreatDoor
