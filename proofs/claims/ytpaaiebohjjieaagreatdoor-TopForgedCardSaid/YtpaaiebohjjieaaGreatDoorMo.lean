/-
  The framework's part 30: contracts of functions that reach several blocks of their caller's.
-/
import Derived.Test.YtpaaiebohjjieaaGreatDoorMl
import Derived.Test.YtpaaiebohjjieaaGreatDoorMn
import Derived.Test.YtpaaiebohjjieaaGreatDoorMi
import Derived.Test.YtpaaiebohjjieaaGreatDoorMj
import Derived.Test.YtpaaiebohjjieaaGreatDoorMk
import Derived.Test.YtpaaiebohjjieaaGreatDoorMm
namespace Go.Proofs.YtpaaiebohjjieaaGreatDoor.Sx
open Go
noncomputable section
mutual
def SV.aE (ρ:Nat->Nat):SV->SV
 | .ptr k l o=>.ptr (ρ k) l o
 | .o5 k w i j=>.o5 (ρ k) w i j
 | .tM k b n i=>.tM (ρ k) b n i
 | .slc k o n l c=>.slc (ρ k) o n l c
 | .bI k w z i n c=>.bI (ρ k) w z i n c
 | .cC k w z o i n c=>.cC (ρ k) w z o i n c
 | .lA k w o i j=>.lA (ρ k) w o i j
 | .map k=>.map (ρ k)
 | .yield k=>.yield (ρ k)
 | .agg cs=>.agg (SV.pY ρ cs)
 | .bL vs=>.bL (SV.pY ρ vs)
 | .iface t v=>.iface t (v.aE ρ)
 | .func fn a b=>.func fn (SV.pY ρ a) (SV.pY ρ b)
 | .int k l n=>.int k l n
 | .bool l b=>.bool l b
 | .str l s=>.str l s
 | .cc=>.cc
 | .aO=>.aO
 | .aZ=>.aZ
 | .gL=>.gL
 | .iy=>.iy
 | .raw v=>.raw v
 | .iq k a o=>.iq (ρ k) a o
 | .fq k w z a i n c=>.fq (ρ k) w z a i n c
 | .su k w a i j=>.su (ρ k) w a i j
def SV.pY (ρ:Nat->Nat):List SV->List SV
 | []=>[]
 | x::r=>x.aE ρ::SV.pY ρ r
end
mutual
theorem SV.me (ρ E:Nat->Nat):(v:SV)->(v.aE ρ).val E=v.val (fun k=>E (ρ k))
 | .agg cs=>by simp only[SV.aE,SV.val,SV.yz ρ E cs]
 | .bL cs=>by simp only[SV.aE,SV.val,SV.yz ρ E cs]
 | .iface t v=>by simp only[SV.aE,SV.val,SV.me ρ E v]
 | .func fn a b=>by simp only[SV.aE,SV.val,SV.yz ρ E a,SV.yz ρ E b]
 | .ptr .. =>rfl
 | .o5 .. =>rfl
 | .tM .. =>rfl
 | .slc .. =>rfl
 | .bI .. =>rfl
 | .cC .. =>rfl
 | .lA .. =>rfl
 | .map .. =>rfl
 | .yield .. =>rfl
 | .int .. =>rfl
 | .bool .. =>rfl
 | .str .. =>rfl
 | .cc=>rfl
 | .aO=>rfl
 | .aZ=>rfl
 | .gL=>rfl
 | .iy=>rfl
 | .raw .. =>rfl
 | .iq .. =>rfl
 | .fq .. =>rfl
 | .su .. =>rfl
theorem SV.yz (ρ E:Nat->Nat):(l:List SV)->SV.vals E (SV.pY ρ l)=SV.vals (fun k=>E (ρ k)) l
 | []=>rfl
 | x::r=>by simp only[SV.pY,SV.vals,SV.me ρ E x,SV.yz ρ E r]
end
theorem SV.rY {ρ:Nat->Nat}: ∀ {l:List SV} {i:Nat} {u:SV},(SV.pY ρ l)[i]?=some u->∃ v,l[i]?=some v/\u=v.aE ρ
 | [],i,u,h=>by simp[SV.pY] at h
 | x::r,0,u,h=>by simp[SV.pY] at h;exact⟨x,rfl,h.symm⟩
 | x::r,i+1,u,h=>by simp only[SV.pY,List.getElem?_cons_succ] at h;obtain⟨v,h1,h2⟩:=SV.rY h;exact⟨v,by simpa using h1,h2⟩
def RV (ρ:Nat->Nat):List (Nat×SV×SV)->List (Nat×SV×SV)
 | []=>[]
 | e::r=>(e.1,e.2.1.aE ρ,e.2.2.aE ρ)::RV ρ r
theorem Iq (ρ E:Nat->Nat): ∀ es:List (Nat×SV×SV),cu E (RV ρ es)=cu (fun k=>E (ρ k)) es
 | []=>rfl
 | e::r=>by have:=Iq ρ E r;simp only[cu,RV,List.map_cons] at this ⊢;rw[SV.me,SV.me,this]
def aK.aE (ρ:Nat->Nat):aK->aK
 | .ref k f=>.ref (ρ k) f
 | .fq k w z f n c=>.fq (ρ k) w z f n c
 | c=>c
theorem aK.me (ρ E:Nat->Nat)(c:aK)(i:Nat):((c.aE ρ).at i).val E=(c.at i).val E:=by cases c<;>rfl
def aK.pY (ρ:Nat->Nat):List aK->List aK
 | []=>[]
 | c::r=>c.aE ρ::aK.pY ρ r
def dm.aE (ρ:Nat->Nat):dm->dm
 | .ref k f=>.ref (ρ k) f
 | c=>c
theorem dm.aat {ρ:Nat->Nat}{a:Nat}: ∀ {l:List dm},aK.pY ρ (l.map (dm.at a))=(l.map (dm.aE ρ)).map (dm.at a)
 | []=>rfl
 | c::r=>by simp only[List.map_cons,aK.pY,dm.aat];congr 1;cases c<;>rfl
theorem aK.Dp {ρ:Nat->Nat}: ∀ {l:List aK},(aK.pY ρ l).length=l.length
 | []=>rfl
 | c::r=>by simp only[aK.pY,List.length_cons,aK.Dp]
theorem aK.rY {ρ:Nat->Nat}: ∀ {l:List aK} {k:Nat} {c:aK},(aK.pY ρ l)[k]?=some c->∃ c0,l[k]?=some c0/\c=c0.aE ρ
 | [],_,_,h=>by cases h
 | x::r,0,_,h=>by simp[aK.pY] at h;exact⟨x,rfl,h.symm⟩
 | x::r,k+1,_,h=>by simp only[aK.pY,List.getElem?_cons_succ] at h;simpa using aK.rY h
theorem aK.ah8 {ρ E:Nat->Nat}{a:Nat}: ∀ {l:List aK} {k:Nat} {v:SV},((aK.pY ρ l).map (aK.at a))[k]?=some v->∃ u,(l.map (aK.at a))[k]?=some u/\v.val E=u.val E:=(by grind [aK.rY,aK.me])
def fD.aE (ρ:Nat->Nat):fD->fD
 | .ref k f=>.ref (ρ k) f
 | c=>c
theorem fD.me (ρ:Nat->Nat)(c:fD)(s:List UInt8):(c.aE ρ).val s=c.val s:=by cases c<;>rfl
def SB.aE (ρ:Nat->Nat):SB->SB
 | .cells cs tot ty=>.cells (SV.pY ρ cs) tot ty
 | .rows z n av ro tot ty=>.rows z n (aK.pY ρ av) ro tot ty
 | .view z o n av=>.view z o n (aK.pY ρ av)
 | .map es c=>.map (RV ρ es) c
 | .Qn (some k) a b c=>.Qn (some (ρ k)) a b c
 | .vq D cs tot ty ro=>.vq D (aK.pY ρ cs) tot ty ro
 | .lH D n av ro=>.lH D n (av.map (dm.aE ρ)) ro
 | .fmap d c p=>.fmap d (c.aE ρ) p
 | B=>B
theorem SB.Xy (ρ:Nat->Nat)(B:SB):(B.aE ρ).ro=B.ro:=by
 cases B<;>try rfl
 rename_i mp _ _ _;cases mp<;>rfl
theorem SB.Dn (ρ:Nat->Nat)(B:SB)(b a:Nat):(B.aE ρ).jD b a↔B.jD b a:=by
 cases B<;>try exact Iff.rfl
 rename_i mp _ _ _;cases mp<;>exact Iff.rfl
theorem bw.aas {ρ E E':Nat->Nat}{z:Bool}{o n:Nat}{av:List aK}{ob:Obj}(h:bw E' (.view z o n av) ob):bw E (.view z o n (aK.pY ρ av)) ob:=by obtain⟨c,ty,fr,h1,h2⟩:=h;refine⟨c,ty,fr,h1,fun i k col hi hk=> ?_⟩;obtain⟨c0,g1,rfl⟩:=aK.rY hk;rw[aK.Dp,aK.me,h2 i k c0 hi g1,SV.val_congr (E:=E) (nx:=0) (by omega) _ (aK.L7 i 0 c0)]
theorem bw.aE {ρ E:Nat->Nat}{B:SB}{a:Nat}{o:Obj}(h:bw (fun k=>E (ρ k)) (B.el a) o):bw E ((B.aE ρ).el a) o:=by
 cases B with
 | cells cs tot ty =>
   obtain⟨c,fr,h1,h2,h3,h4⟩:=h;refine⟨c,fr,h1,h2,fun i u hu=> ?_,h4⟩
   grind [SV.rY,SV.me]
 | map es c =>have h:o=.map (cu _ es).toArray c:=h;show o=.map (cu E (RV ρ es)).toArray c;rw[Iq,h]
 | Qn mp a b c =>
   cases mp with
   | none=>exact h
   | some k=>exact h
 | rows z n av ro tot ty =>obtain⟨c,fr,h1,h2,h3,h4,h5⟩:=h;refine⟨c,fr,h1,h2,by grind [aK.Dp],h4,fun i k col hi hk=> ?_⟩;obtain⟨c0,g1,rfl⟩:=aK.rY hk;rw[aK.Dp,aK.me,h5 i k c0 hi g1,SV.val_congr (E:=E) (nx:=0) (by omega) _ (aK.L7 i 0 c0)]
 | view z o n av=>exact bw.aas h
 | loop=>exact h
 | fmap d c p =>obtain⟨es,cl,h1,h2⟩:=h;exact⟨es,cl,h1,⟨h2.st,h2.ks,fun s hs=>by rw[fD.me];exact h2.has s hs,h2.no,h2.pd⟩⟩
 | vq D cs tot ty ro =>
   obtain⟨c,fr,h1,h2,h3,h4⟩:=h;refine⟨c,fr,h1,h2,fun i u hu=> ?_,h4⟩;obtain⟨v,g1,g2⟩:=aK.ah8 (E:=E) hu;have hv:v.wf 0=true:=by grind [aK.L7]
   rw[h3 i v g1,g2];exact congrArg some (SV.val_congr (nx:=0) (by omega) v hv)
 | lH D n av ro =>have:=bw.aas (ρ:=ρ) (E:=E) h;rw[dm.aat] at this;exact this
def nR (base:Nat):List SV->List SV->Ren->(Ren->VC)->VC
 | [],[],aE,t=>t aE
 | h::hs,u::us,aE,t=>yF base aE h u (fun aE=>nR base hs us aE t)
 | _,_,_,_=>.fail "call: so many arguments"
theorem i4 {base:Nat}: ∀ {hs us:List SV} {aE:Ren} {t:Ren->VC},(nR base hs us aE t).holds ->
  ∃ ren',aE.le ren'/\(t ren').holds/\∀ ren'' (E:Nat->Nat),ren'.le ren''->SV.vals (Ren.E base ren'' E) hs=SV.vals E us
 | [],[],aE,t,h=>⟨aE,Ren.le_refl _,h,fun _ _ _=>rfl⟩
 | h::hs,u::us,aE,t,hh=>by simp only[nR] at hh;obtain⟨r1,h1,h2,h3⟩:=vW hh;obtain⟨r2,g1,g2,g3⟩:=i4 h2;exact⟨r2,Ren.le_trans h1 g1,g2,fun r'' E hle=>by simp only[SV.vals];rw[h3 r'' E (Ren.le_trans g1 hle),g3 r'' E hle]⟩
 | [],_::_,_,_,h=>h.elim
 | _::_,[],_,_,h=>h.elim
theorem eF {base:Nat}{aE:Ren}{kh k1:Nat}{t t':Ren->VC}(ht: ∀ r,(t r).holds->(t' r).holds)(h:(eH base aE kh k1 t).holds):(eH base aE kh k1 t').holds:=by grind [Sx.eH]
theorem AQ {base:Nat}: ∀ {a b:List SV} {aE:Ren} {t t':Ren->VC},(∀ r,(t r).holds->(t' r).holds)->(nS base a b aE t).holds->(nS base a b aE t').holds
 | a,b,aE,t,t',ht,h=>by
   revert h;unfold nS;split
   ·exact ht _
   ·exact eF (t:=fun r=>.and (ng _ _) (nS base _ _ r t)) (fun r h=>And.intro h.1 (AQ ht h.2))
   ·exact id
theorem lY {base:Nat}{aE:Ren}{a b:SV}{t t':Ren->VC}(ht: ∀ r,(t r).holds->(t' r).holds):(lX base aE a b t).holds->(lX base aE a b t').holds:=by
 unfold lX
 split<;>first
  | exact ht _
  | exact fun h=>And.intro h.1 (ht _ h.2)
  | exact eF ht
  | exact eF (t:=fun r=>.and (ng _ _) (t r)) (fun r h=>And.intro h.1 (ht r h.2))
  | exact eF (t:=fun r=>.and (.and _ _) (t r)) (fun r h=>And.intro h.1 (ht r h.2))
  | exact eF (t:=fun r=>.and (.and _ _) (.and _ (t r))) (fun r h=>And.intro h.1 (And.intro h.2.1 (ht r h.2.2)))
  | exact eF (t:=fun r=>.and (ng _ _) (.and (ng _ _) (t r))) (fun r h=>And.intro h.1 (And.intro h.2.1 (ht r h.2.2)))
  | (split<;>first
    | exact id
    | exact fun h=>And.intro h.1 (ht _ h.2)
    | exact eF (t:=fun r=>.and (ng _ _) (t r)) (fun r h=>And.intro h.1 (ht r h.2))
    | exact eF (t:=fun r=>.and (.and _ _) (t r)) (fun r h=>And.intro h.1 (ht r h.2))
    | exact eF (t:=fun r=>.and (.and _ _) (.and _ (t r))) (fun r h=>And.intro h.1 (And.intro h.2.1 (ht r h.2.2)))
    | exact eF (t:=fun r=>.and (ng _ _) (.and (ng _ _) (.and (ng _ _) (.and (ng _ _) (t r))))) (fun r h=>And.intro h.1 (And.intro h.2.1 (And.intro h.2.2.1 (And.intro h.2.2.2.1 (ht r h.2.2.2.2)))))
    | grind [AQ])
theorem kN {base:Nat}: ∀ {a b:List SV} {aE:Ren} {t t':Ren->VC},(∀ r,(t r).holds->(t' r).holds)->(kW base a b aE t).holds->(kW base a b aE t').holds
 | [],[],_,_,_,ht,h=>ht _ h
 | _::_,_::_,_,_,_,ht,h=>lY (fun _ h=>kN ht h) h
 | [],_::_,_,_,_,_,h=>h.elim
 | _::_,[],_,_,_,_,h=>h.elim
theorem AP {base:Nat}: ∀ {a b:List (Nat×SV×SV)} {aE:Ren} {t t':Ren->VC},(∀ r,(t r).holds->(t' r).holds)->(uS base a b aE t).holds->(uS base a b aE t').holds
 | [],[],_,_,_,ht,h=>ht _ h
 | _::_,_::_,_,_,_,ht,h=>⟨h.1,lY (fun _ h=>lY (fun _ h=>AP ht h) h) h.2⟩
 | [],_::_,_,_,_,_,h=>h.elim
 | _::_,[],_,_,_,_,h=>h.elim
theorem GI {base:Nat}{aE:Ren}{a b:SV}{t t':Ren->VC}(ht: ∀ r,(t r).holds->(t' r).holds)(h:(yF base aE a b t).holds):(yF base aE a b t').holds:=by
 unfold yF at h ⊢;split at h
 ·exact kN ht h
 ·exact kN ht h
 ·split at h
  ·rename_i e;rw[if_pos e]
   grind [kN,lY]
  ·exact h.elim
 ·exact lY ht h
theorem AO {base:Nat}: ∀ {a b:List SV} {aE:Ren} {t t':Ren->VC},(∀ r,(t r).holds->(t' r).holds)->(nR base a b aE t).holds->(nR base a b aE t').holds
 | [],[],_,_,_,ht,h=>ht _ h
 | _::_,_::_,_,_,_,ht,h=>GI (fun _ h=>AO ht h) h
 | [],_::_,_,_,_,_,h=>h.elim
 | _::_,[],_,_,_,_,h=>h.elim
theorem js {base:Nat}{m:Mem}: ∀ {l:List (Nat×SB)} {used:List Nat} {aE:Ren} {t t':Ren->VC},(∀ r,(t r).holds->(t' r).holds)->(fY base m l used aE t).holds->(fY base m l used aE t').holds
 | [],_,_,_,_,ht,h=>ht _ h
 | (k0,B0)::r,used,aE,t,t',ht,h=>by
   simp only[fY] at h ⊢;revert h;cases ew base aE k0 with
   | none =>
     cases B0.wf base with
     | true=>cases B0.nj with
       | true=>exact fun h=>And.intro h.1 (js ht h.2)
       | false=>exact fun h=>And.intro h.1 (js ht h.2)
     | false=>exact id
   | some k1 =>
     by_cases hu:used.contains k1=true
     ·simp only[if_pos hu];exact id
     ·simp only[if_neg hu];cases m.get k1 with
      | none=>exact id
      | some B =>
        cases B0.wf base with
        | true=>exact fun h=>And.intro h.1 (js ht h.2)
        | false =>
          cases B0<;>try exact id
          case map =>
           cases B<;>try exact id
           exact fun h=>And.intro h.1 (AP (fun _ h=>js ht h) h.2)
          cases B<;>try exact id
          rename_i cs' tot' ty' cs tot ty;by_cases e:ty'=ty
          ·simp only[if_pos e];exact fun h=>And.intro h.1 (kN (fun _ h=>js ht h) h.2)
          ·simp only[if_neg e];exact id
inductive lC:Type 1 where
 | ret (v:SV) (back:Mem)
 | fork (b:Bool) (f:Bool->lC)
 | all (α:Type) (f:α->lC)
 | req (p:Prop) (a:lC)
def lC.Bd (g:SV->Mem->VC):lC->VC
 | .ret v back=>g v back
 | .fork b f=>Sx.fork b fun c=>(f c).Bd g
 | .all α f=>.all α fun x=>(f x).Bd g
 | .req p a=>.imp p (a.Bd g)
def lC.ask (g:SV->Mem->VC):lC->VC
 | .ret v back=>g v back
 | .fork b f=>Sx.fork b fun c=>(f c).ask g
 | .all α f=>.ex α fun x=>(f x).ask g
 | .req p a=>.and (.atom p) (a.ask g)
theorem lC.meet {g h:SV->Mem->VC}: ∀ {a:lC},(a.ask g).holds->(a.Bd h).holds->∃ v back,(g v back).holds/\(h v back).holds
 | .ret v back,h1,h2=>⟨v,back,h1,h2⟩
 | .fork b f,h1,h2=>by simp only[lC.ask,lC.Bd,dx] at h1 h2;exact lC.meet h1 h2
 | .all α f,⟨x,h1⟩,h2=>lC.meet h1 (h2 x)
 | .req p a,⟨h0,h1⟩,h2=>lC.meet h1 (h2 h0)
theorem lC.qR {g h:SV->Mem->VC}(hg: ∀ v m,(g v m).holds->(h v m).holds): ∀ {a:lC},(a.Bd g).holds->(a.Bd h).holds
 | .ret v back,h1=>hg _ _ h1
 | .fork b f,h1=>by simp only[lC.Bd,dx] at h1 ⊢;exact lC.qR hg h1
 | .all α f,h1=>fun x=>lC.qR hg (h1 x)
 | .req p a,h1=>fun h0=>lC.qR hg (h1 h0)
structure qB where
 G:Type
 n:Nat
 N:Nat
 pre:G->Prop
 args:G->List SV
 mem:G->Mem
 ans:G->lC
 gh:SV->Mem->List Gh:=fun _ _=>[]
def tB (n:Nat)(aE:Ren)(nx k:Nat):Nat:=match Nat.blt k n,aE.get k with
 | true,some k1=>k1
 | _,_=>nx+k
def LN (ρ:Nat->Nat):Mem->Mem
 | []=>[]
 | e::r=>(ρ e.1,e.2.aE ρ)::LN ρ r
def rZ (aE:Ren):Mem->List Nat
 | []=>[]
 | e::r=>match e.2.ro,aE.get e.1 with
   | false,some k1=>k1::rZ aE r
   | _,_=>rZ aE r
def KI (nx:Nat):Ren->Bool
 | []=>true
 | e::r=>Nat.blt e.2 nx&&KI nx r
def y4 (N:Nat):Mem->Bool
 | []=>true
 | e::r=>Nat.blt e.1 N&&(!e.2.ro)&&y4 N r
def SV.alh (ρ:Nat->Nat)(v:SV):SV:=match v.wf 0&& !v.hint with
 | true=>v
 | false=>v.aE ρ
theorem SV.UH (ρ E:Nat->Nat)(v:SV):(v.alh ρ).val E=v.val (fun k=>E (ρ k)):=by
 unfold SV.alh;split
 ·rename_i h;rw[Bool.and_eq_true] at h;exact SV.val_congr (nx:=0) (by omega) v h.1
 grind [SV.me]
def SV.aar (ρ:Nat->Nat):List SV->List SV
 | []=>[]
 | v::r=>v.alh ρ::SV.aar ρ r
theorem SV.Oh (ρ E:Nat->Nat): ∀ l:List SV,SV.vals E (SV.aar ρ l)=SV.vals (fun k=>E (ρ k)) l
 | []=>rfl
 | v::r=>by simp only[SV.aar,SV.vals,SV.UH,SV.Oh ρ E r]
def SV.Xx (ρ:Nat->Nat):SV->SV
 | .bL vs=>.bL (SV.aar ρ vs)
 | v=>v.alh ρ
theorem SV.KJ (ρ E:Nat->Nat)(v:SV):(v.Xx ρ).val E=v.val (fun k=>E (ρ k)):=by
 unfold SV.Xx
 grind [SV.Oh,SV.UH,SV.val]
def aml:SV->SV->Bool
 | .bool true a,.bool true b=>a !=b
 | .int _ true a,.int _ true b=>!decide (a=b)
 | .aZ,.iface .. =>true
 | .iface ..,.aZ=>true
 | .cc,.ptr .. =>true
 | .ptr ..,.cc=>true
 | _,_=>false
def aes:List SV->List SV->Bool
 | a::r,b::s=>match aml a b with
   | true=>true
   | false=>aes r s
 | _,_=>false
def Pa:SV->SV->Bool
 | .bL a,.bL b=>aes a b
 | a,b=>aml a b
def kj (c:qB):PT:=fun args m nx K=>.ex c.G fun x=>.and (.atom (c.pre x)) (nR 0 (c.args x) args [] fun aE=>fY 0 m (c.mem x) [] aE fun aE=>match KI nx aE with
 | true=>(c.ans x).Bd fun v back=>(match y4 c.N back with
   | true=>K (v.Xx (tB c.n aE nx)) (LN (tB c.n aE nx) back++oT (rZ aE (c.mem x)) m) (nx+c.N)
   | false=>.fail "call: blocks that are handed back")
 | false=>.fail "call: keys")
theorem jr (c:qB):aJ (kj c):=by
 intro args m nx K K' hK h;obtain⟨x,h1,h2⟩:=h;refine⟨x,h1,AO (fun aE h=>js (fun aE h=> ?_) h) h2⟩
 grind [lC.qR]
def qB.fit (c:qB)(x:c.G):SV->Mem->Nat->VC:=fun v m _=>ghs (c.gh v m) [some v] m fun vs m=>match vs with
 | [some v]=>(c.ans x).ask fun u back=>(match Pa u v with
   | true=>.fail "call: another way"
   | false=>nR c.n [u] [v] [] fun aE=>fY c.n m back [] aE fun _=>.tt)
 | _=>.fail "call: no value"
theorem E6 {nx:Nat}: ∀ {aE:Ren} {k k1:Nat},KI nx aE=true->aE.get k=some k1->k1<nx
 | [],_,_,_,h=>by cases h
 | e::r,k,k1,hb,h=>by
   simp only[KI,Bool.and_eq_true,Nat.blt_eq] at hb;by_cases he:e.1=k
   ·rw[Ren.get,if_pos he] at h;grind
   ·rw[Ren.get,if_neg he] at h;exact E6 hb.2 h
theorem ri {N:Nat}: ∀ {m:Mem} {k:Nat} {B:SB},y4 N m=true->m.get k=some B->k<N/\B.ro=false
 | [],_,_,_,h=>by cases h
 | e::r,k,B,hb,h=>by
   simp only[y4,Bool.and_eq_true,Nat.blt_eq,Bool.not_eq_true'] at hb;by_cases he:e.1=k
   ·rw[Mem.get,if_pos he] at h;grind
   ·rw[Mem.get,if_neg he] at h;exact ri hb.2 h
theorem xL {ks:List Nat}: ∀ {m:Mem} {k:Nat} {B:SB},(oT ks m).get k=some B->k∉ ks/\m.get k=some B
 | [],_,_,h=>by cases h
 | e::r,k,B,h=>by
   simp only[oT] at h;cases hc:ks.contains e.1 with
   | true =>rw[hc] at h;obtain⟨h1,h2⟩:=xL h;refine⟨h1,?_⟩;rw[Mem.get,if_neg (by grind)];exact h2
   | false =>
     rw[hc] at h;by_cases he:e.1=k
     ·simp only[Mem.get,he,if_true] at h ⊢
      grind
     ·simp only[Mem.get,he,if_false] at h ⊢;exact xL h
theorem Dm {ρ:Nat->Nat}{m1:Mem}: ∀ {m2:Mem} {j:Nat} {X:SB},(LN ρ m2++m1).get j=some X->(∃ k B,m2.get k=some B/\ρ k=j/\X=B.aE ρ)∨m1.get j=some X
 | [],_,_,h=>.inr h
 | e::r,j,X,h=>by
   simp only[LN,List.cons_append] at h;rcases Mem.jt h with ⟨h1,h2⟩ | ⟨hne,h⟩
   ·exact .inl ⟨e.1,e.2,by rw[Mem.get,if_pos rfl],h1.symm,h2⟩
   ·rcases Dm h with ⟨k,B,g1,g2,g3⟩ | h
    ·refine .inl ⟨k,B,?_,g2,g3⟩;rw[Mem.get,if_neg (by grind)];exact g1
    ·exact .inr h
theorem KX {aE:Ren}: ∀ {fm:Mem} {k k1:Nat} {B:SB},fm.get k=some B->B.ro=false->aE.get k=some k1->k1∈ rZ aE fm
 | [],_,_,_,h,_,_=>by cases h
 | e::r,k,k1,B,h,hr,hk=>by
   rcases Mem.jt (k0:=e.1) (B0:=e.2) h with ⟨h1,h2⟩ | ⟨hne,h⟩
   ·subst h1;subst h2;simp only[rZ,hr,hk];exact List.mem_cons_self ..
   ·have:=KX h hr hk;simp only[rZ];split
    ·exact List.mem_cons_of_mem _ this
    ·exact this
theorem aaq {aE:Ren}{k:Nat}:ew 0 aE k=aE.get k:=by grind [Nat.blt_eq,Nat.blt,ew]
def mu (E:Nat->Nat)(fm:Mem)(b:Nat):Prop:=∃ k B,fm.get k=some B/\B.jD (E k) b/\B.ro=false
theorem aG.aeY {Γ E m nx w}(h:aG Γ E m nx w){fm:Mem}{n:Nat}{aE:Ren}(hb: ∀ kh B',fm.get kh=some B'->BU 0 m [] aE kh B')
  (hi: ∀ kh kh' B B' k1,fm.get kh=some B->(∃ b a,B.jD b a)->fm.get kh'=some B'->(∃ b a,B'.jD b a)->ew 0 aE kh=some k1->ew 0 aE kh'=some k1->kh=kh') (hlt: ∀ kh B',fm.get kh=some B'->kh<n) :
  ∃ gm,aG (aQ.at w (mu (Ren.E 0 aE E) fm) h.G2 gm) (Ren.E 0 aE E) fm n w:=by
 have hE: ∀ kh k1,ew 0 aE kh=some k1->Ren.E 0 aE E kh=E k1:=(by grind [Ren.E])
 have hg: ∀ {kh B' a},fm.get kh=some B'->B'.jD (Ren.E 0 aE E kh) a->∃ k1 B,ew 0 aE kh=some k1/\m.get k1=some B/\B.jD (E k1) a/\(∀ E1 o,bw E1 (B.el a) o->bw (Ren.E 0 aE E1) (B'.el a) o)/\(B'.ro=false->B.ro=false):=fun {kh B' a} hg ha=>by
  obtain⟨k1,B,g1,_,g3,g4,g5,g6⟩:=hb kh B' hg _ a ha
  grind
 refine⟨fun p hp ⟨k,B,g1,g2,g3⟩=> ?_,fun kh B' a hk ha=> ?_,fun kh kh' B B' a hk ha hk' ha' hr=> ?_,hlt,fun kh B' a hg hn hro=>.inl ⟨kh,B',hg,hn,hro⟩,Ext.refl _ _,⟨Nat.zero_le _,fun k hk=>absurd hk (Nat.not_lt_zero _)⟩,fun D hD=>by cases hD⟩
 ·obtain⟨k1,X,_,q3,q4,_,q6⟩:=hg g1 g2;exact h.Za q3 q4 (q6 g3) p hp rfl
 ·obtain⟨k1,X,_,q3,q4,q5,_⟩:=hg hk ha;obtain⟨o,ho,hbo⟩:=h.jK k1 X a q3 q4
  grind
 ·obtain⟨k1,X,g1,g3,g5,_,g7⟩:=hg hk ha;obtain⟨k1',X',g1',g3',g5',_,g7'⟩:=hg hk' ha';have:=h.j9 k1 k1' X X' a g3 g5 g3' g5' (hr.imp g7 g7');subst this;exact hi kh kh' B B' k1 hk ⟨_,_,ha⟩ hk' ⟨_,_,ha'⟩ g1 g1'
theorem aG.told {Γ:aQ}(hΓ:Γ.wB=0){E m nx w}(h:aG Γ E m nx w){n N:Nat}{aE:Ren}{m2:Mem}(hb: ∀ kh B',m2.get kh=some B'->BU n m [] aE kh B')
  (hi: ∀ kh kh' B B' k1,m2.get kh=some B->(∃ b a,B.jD b a)->m2.get kh'=some B'->(∃ b a,B'.jD b a)->ew n aE kh=some k1->ew n aE kh'=some k1->kh=kh') (hlt: ∀ kh B',m2.get kh=some B'->kh<N) :
  aG Γ (Ren.E n aE E) m2 N w:=by
 have hE: ∀ kh k1,ew n aE kh=some k1->Ren.E n aE E kh=E k1:=(by grind [Ren.E])
 have hg: ∀ {kh B' a},m2.get kh=some B'->B'.jD (Ren.E n aE E kh) a->∃ k1 B,ew n aE kh=some k1/\m.get k1=some B/\B.jD (E k1) a/\(∀ E1 o,bw E1 (B.el a) o->bw (Ren.E n aE E1) (B'.el a) o)/\(B'.ro=false->B.ro=false):=fun {kh B' a} hg ha=>by
  obtain⟨k1,B,g1,_,g3,g4,g5,g6⟩:=hb kh B' hg _ a ha
  grind
 refine⟨fun kh B' a hk ha=> ?_,fun kh kh' B B' a hk ha hk' ha' hr=> ?_,hlt,fun kh B' a hk ha hro=> ?_,h.ext,(by grind),h.kp⟩
 ·obtain⟨k1,X,_,q3,q4,q5,_⟩:=hg hk ha;obtain⟨o,ho,hbo⟩:=h.jK k1 X a q3 q4
  grind
 ·obtain⟨k1,X,g1,g3,g5,_,g7⟩:=hg hk ha;obtain⟨k1',X',g1',g3',g5',_,g7'⟩:=hg hk' ha';have:=h.j9 k1 k1' X X' a g3 g5 g3' g5' (hr.imp g7 g7');subst this;exact hi kh kh' B B' k1 hk ⟨_,_,ha⟩ hk' ⟨_,_,ha'⟩ g1 g1'
 ·obtain⟨k1,X,_,g3,g5,_,g7⟩:=hg hk ha;exact h.lE k1 X a g3 g5 (g7 hro)
def mH (nx:Nat)(E E2:Nat->Nat)(j:Nat):Nat:=if j<nx then E j else E2 (j - nx)
theorem aG.back {Γ E m nx w}(h:aG Γ E m nx w)(hw:Mem.wf nx m=true){fm:Mem}{n N:Nat}{aE:Ren}(hb: ∀ kh B',fm.get kh=some B'->BU 0 m [] aE kh B')(hrl:KI nx aE=true)
  {E2:Nat->Nat} {m2:Mem} {w':World} {gl gm} (h2:aG (aQ.at w (mu (Ren.E 0 aE E) fm) gl gm) E2 m2 N w') (hE2: ∀ k,k<n->E2 k=Ren.E 0 aE E k) (hro: ∀ k B,m2.get k=some B->B.ro=false) :
  (∀ k,mH nx E E2 (tB n aE nx k)=E2 k) /\
  aG Γ (mH nx E E2) (LN (tB n aE nx) m2++oT (rZ aE fm) m) (nx+N) w':=by
 have hρ: ∀ k,mH nx E E2 (tB n aE nx k)=E2 k:=fun k=>by
  unfold tB mH;split
  ·rename_i k1 hk hg;have:=E6 hrl hg;simp only[this,if_true];rw[hE2 k (by simpa [Nat.blt_eq] using hk)];simp[Ren.E,aaq,hg]
  ·simp only[show ¬ nx+k<nx by omega,if_false,Nat.add_sub_cancel_left]
 refine⟨hρ,?_⟩;have hMa: ∀ b,mu (Ren.E 0 aE E) fm b->∃ k1 X,k1∈ rZ aE fm/\m.get k1=some X/\X.jD (E k1) b/\X.ro=false:=fun b ⟨k,B,g1,g2,g3⟩=>by
  obtain⟨k1,X,q1,_,q3,q4,_,q6⟩:=hb k B g1 _ b g2;refine⟨k1,X,KX g1 g3 (by rw[← aaq];exact q1),q3,?_,q6 g3⟩;have:Ren.E 0 aE E k=E k1:=by simp[Ren.E,q1]
  rw[← this];exact q4
 have hx:Sx.Ext (mu (Ren.E 0 aE E) fm) w w':=h2.ext;have hEo: ∀ j,j<nx->mH nx E E2 j=E j:=fun j hj=>by simp[mH,hj]
 have old: ∀ {j X},(oT (rZ aE fm) m).get j=some X->j<nx/\m.get j=some X/\∀ a,X.jD (E j) a->¬ mu (Ren.E 0 aE E) fm a:=fun {j X} hj=>by obtain⟨h1,h3⟩:=xL hj;refine⟨h.lt _ _ h3,h3,fun a ha hm=> ?_⟩;obtain⟨k1,Y,q1,q2,q3,q4⟩:=hMa _ hm;have:=h.j9 j k1 X Y a h3 ha q2 q3 (.inr q4);subst this;exact h1 q1
 have hg: ∀ {j X a},(LN (tB n aE nx) m2++oT (rZ aE fm) m).get j=some X->X.jD (mH nx E E2 j) a ->
   (∃ k B,m2.get k=some B/\tB n aE nx k=j/\X=B.aE (tB n aE nx)/\B.jD (E2 k) a/\(mu (Ren.E 0 aE E) fm a∨w.heap.size<=a))∨((oT (rZ aE fm) m).get j=some X/\X.jD (E j) a/\a<w.heap.size/\¬ mu (Ren.E 0 aE E) fm a):=fun {j X a} hj ha=>by
  rcases Dm hj with ⟨k,B,g1,g2,g3⟩ | hj
  ·subst g3;rw[SB.Dn,← g2,hρ] at ha;exact .inl ⟨k,B,g1,g2,rfl,ha,h2.lE k B a g1 ha (hro k B g1)⟩
  ·obtain⟨q1,q2,q3⟩:=old hj;rw[hEo j q1] at ha;exact .inr ⟨hj,ha,h.glt q2 ha,q3 a ha⟩
 refine⟨fun j X a hj ha=> ?_,fun j j' X X' a hj ha hj' ha' hr=> ?_,fun j X hj=> ?_,fun j X a hj ha hr=> ?_,⟨hx.os.trans h.ext.os,hx.tape.trans h.ext.tape,hx.output.trans h.ext.output,Nat.le_trans h.ext.size hx.size,fun i hi hm=>(hx.block i (Nat.lt_of_lt_of_le hi h.ext.size) (fun hmi=> ?_)).trans (h.ext.block i hi hm)⟩,
  ⟨Nat.le_trans h.cx.1 (Nat.le_add_right _ _),fun k hk=>(hEo k (Nat.lt_of_lt_of_le hk h.cx.1)).trans (h.cx.2 k hk)⟩,fun D hD=> ?_⟩
 ·rcases hg hj ha with ⟨k,B,g1,g2,rfl,g4,_⟩ | ⟨hj,ha,hl,hm⟩
  ·obtain⟨o,ho,hbo⟩:=h2.jK k B a g1 g4;refine⟨o,ho,bw.aE ?_⟩;have:(fun k=>mH nx E E2 (tB n aE nx k))=E2:=funext hρ;rw[this];exact hbo
  ·obtain⟨q1,q2,_⟩:=old hj;obtain⟨o,ho,hbo⟩:=h.jK j X a q2 ha;exact⟨o,by rw[hx.block _ hl hm];exact ho,hbo.congr hEo (SB.YC (Mem.Rj hw q2) a)⟩
 ·rcases hg hj ha with ⟨k,B,g1,g2,g3,g4,g5⟩ | ⟨hj,ha,hl,hm⟩<;>rcases hg hj' ha' with ⟨k',B',g1',g2',g3',g4',g5'⟩ | ⟨hj',ha',hl',hm'⟩
  ·rw[← g2,← g2',h2.j9 k k' B B' a g1 g4 g1' g4' (.inl (hro k B g1))]
  ·rcases g5 with g5 | g5
   ·exact absurd g5 hm'
   ·omega
  ·rcases g5' with g5 | g5
   ·exact absurd g5 hm
   ·omega
  ·exact h.j9 j j' X X' a (old hj).2.1 ha (old hj').2.1 ha' hr
 ·rcases Dm hj with ⟨k,B,g1,g2,_⟩ | hj
  ·rw[← g2];unfold tB;split
   ·rename_i hk;have:=E6 hrl hk;omega
   ·have:=h2.lt k B g1;omega
  ·have:=(old hj).1;omega
 ·rcases hg hj ha with ⟨k,B,_,_,_,_,g5⟩ | ⟨hj,ha,_,_⟩
  ·rcases g5 with g5 | g5
   ·obtain⟨k1,Y,_,q2,q3,q4⟩:=hMa _ g5;exact h.lE k1 Y a q2 q3 q4
   ·exact .inr (Nat.le_trans h.ext.size g5)
  ·exact h.lE j X a (old hj).2.1 ha hr
 ·obtain⟨k1,Y,_,q2,q3,q4⟩:=hMa _ hmi;rcases h.lE k1 Y i q2 q3 q4 with h' | h'
  ·exact hm h'
  ·omega
 ·have hd:=h.kp D hD;rw[hx.block _ (Array.getElem?_eq_some_iff.1 hd).1 (fun hmD=> ?_)]
  ·exact hd
  ·obtain⟨k1,Y,_,q2,q3,q4⟩:=hMa _ hmD;obtain⟨o,ho,hbo⟩:=h.jK k1 Y D q2 q3;rw[hd] at ho;exact hbo.pG _ (Option.some.inj ho).symm
def Y5 (n:Nat):Mem->Bool
 | []=>true
 | e::r=>Nat.blt e.1 n&&Y5 n r
theorem EG {n:Nat}: ∀ {m:Mem} {k:Nat} {B:SB},Y5 n m=true->m.get k=some B->k<n
 | [],_,_,_,h=>by cases h
 | e::r,k,B,hb,h=>by
   simp only[Y5,Bool.and_eq_true,Nat.blt_eq] at hb;by_cases he:e.1=k
   ·exact he▸ hb.1
   ·rw[Mem.get,if_neg he] at h;exact EG hb.2 h
def qB.ok (c:qB)(x:c.G):Bool:=Y5 c.n (c.mem x)&&Mem.wf c.n (c.mem x)&&SV.gM c.n (c.args x)
theorem vF {P:Program}{f:FuncId}{fn:Func}(hf:P.funcs[f]?=some fn) (hn:(fn.name== "runtime.NumGoroutine")=false) (hb:fn.body.isSome=true) {n:Nat} (c:qB)
  (h: ∀ x,c.pre x->∃ cfg,Good P cfg/\c.ok x=true/\aq (gR P (calling P cfg n) [] Al (cfg.aR f) cfg.rounds fn (c.args x) (c.mem x) c.n (c.fit x))):au P f (kj c):=by
 intro args m nx K hk hwf hargs Γ E w hs;obtain⟨x,hpre,hk⟩:=hk;obtain⟨cfg,hgood,hok,hrun⟩:=h x hpre;simp only[qB.ok,Bool.and_eq_true] at hok;obtain⟨⟨hlt,hwm⟩,hwa⟩:=hok;obtain⟨ren1,_,hk1,ha⟩:=i4 hk;obtain⟨aE,hle,hk2,hm⟩:=fC hk1;obtain⟨hb0,hi⟩:=hm aE (Ren.le_refl _);revert hk2;cases hrl:KI nx aE with
 | false=>exact fun h=>h.elim
 | true =>
   intro hk2;obtain⟨gm,hform⟩:=hs.aeY hb0 hi (fun kh B' hg=>EG hlt hg);have hc:=gG hgood hf hn hb hrun hwm hwa hform;rw[ha aE E hle] at hc;refine ic hf hn hb (hc.mono ?_);rintro e w' ⟨v,rfl,E1,u,m1,nx1,g1,g2,g3,g4,g5⟩;refine⟨v,rfl,?_⟩;cases u with
   | none=>exact g5.elim
   | some u' =>
     obtain⟨ts,m2,ht,g4,g5⟩:=tX g5 g4;split at g5
     case h_2=>exact g5.elim
     rename_i u;have g3: ∀ z,some u=some z->v=z.val E1:=fun z hz=>by injection hz with hz;subst hz;obtain⟨v0,q1,q2,_⟩:=ht.get 0 u rfl;simp at q1;subst q1;rw[g3 _ rfl,q2]
     obtain⟨u0,back,y2,hk3⟩:=lC.meet g5 hk2;revert y2;cases Pa u0 u with
     | true=>exact fun h=>h.elim
     | false =>
     intro y2;obtain⟨r1,_,z1,za⟩:=i4 y2;obtain⟨r2,hle2,_,zm⟩:=fC z1;obtain⟨zb,zi⟩:=zm r2 (Ren.le_refl _);revert hk3;cases hbk:y4 c.N back with
     | false=>exact fun h=>h.elim
     | true =>
       intro hk3;have ht:=g4.told rfl zb zi (fun kh B' h=>(ri hbk h).1);have hE2: ∀ k,k<c.n->Ren.E c.n r2 E1 k=Ren.E 0 aE E k:=fun k hk=>(Ren.BV hk).trans (g1 k hk);obtain⟨hρ,hfin⟩:=hs.back hwf hb0 hrl ht hE2 (fun k B h=>(ri hbk h).2);refine⟨_,some (u0.Xx (tB c.n aE nx)),_,_,fun k hk=>by simp[mH,hk],Nat.le_add_right _ _,fun z hz=> ?_,hfin,hk3⟩;injection hz with hz;subst hz;rw[SV.KJ,show(fun k=>mH nx E (Ren.E c.n r2 E1) (tB c.n aE nx k))=Ren.E c.n r2 E1 from funext hρ,g3 u rfl]
       have:=za r2 E1 hle2;simp only[SV.vals,List.cons.injEq,and_true] at this;exact this.symm
end
end Go.Proofs.YtpaaiebohjjieaaGreatDoor.Sx
namespace Go.Proofs.YtpaaiebohjjieaaGreatDoor
open Go Sx
set_option maxRecDepth 20000
structure Wy where
 root:List UInt8
 n:Nat
 f:Nat->List UInt8
 z:Bool
 o:Nat
 c:Nat
 u:Nat
def Wy.sb (w:Wy)(key u:Nat)(e:SV):SB:=.cells [.str false w.root,.cC key 1 w.z w.o 0 w.n w.c,.int .i64 false u,e] 4 287
def Wy.view (w:Wy):SB:=.view w.z w.o w.n [.str w.f]
structure Wy.Ok (w:Wy):Prop where
 n:w.n<=200
 f: ∀ i,i<w.n->(w.f i).length<=1000
 u:w.u<=w.n
def iB (w:Wy)(h:List UInt8):Bool:=decide ((w.u:Int)<(w.n:Int))&&(decide (cT (w.f w.u)=h)&&ey (w.f w.u))
def ajz (u:Nat):SB:=.cells [.int .i64 false u,.iface 25 (.int .i64 true 10)] 2 285
def Fq (k:Nat):SV:=.iface 283 (.ptr k true 0)
def ajl (w:Wy):lC:=.ret (.bL [jB,.bool true false]) [(0,w.sb 1 w.u (Fq 2)),(2,ajz w.u)]
def amU (w:Wy)(h:List UInt8):lC:=.fork (iB w h) fun b=>match b with
 | true=>.ret (.bL [(getD (w.f w.u)).sv,.bool true true]) [(0,w.sb 1 (w.u+1) .aZ)]
 | false=>ajl w
def aqA (q:List UInt8->Prop)(ans:Wy->List UInt8->lC):qB :={G:=Wy×List UInt8,n:=2,N:=3,pre:=fun x=>x.1.Ok/\q x.2,args:=fun x=>[.ptr 0 true 0,.str false x.2],mem:=fun x=>[(0,x.1.sb 1 x.1.u .aZ),(1,x.1.view)],ans:=fun x=>ans x.1 x.2}
def Vb:qB:=aqA (fun _=>True) amU
noncomputable def runM (cfg:gF)(f:Nat)(fn:Func)(c:qB)(x:c.G):VC:=gR Tryz.prog (calling Tryz.prog cfg 20) [] Al (cfg.aR f) cfg.rounds fn (c.args x) (c.mem x) c.n (c.fit x)
def ake (w:Wy)(t:List UInt8):lC:=.fork (cG t) fun b=>match b with
 | true=>.ret (.bL [(getD t).sv,.bool true true]) [(0,w.sb 1 w.u .aZ)]
 | false=>.fork (eA t) fun b=>match b with
   | true=>amU w (aa t)
   | false=>ajl w
def yU:qB:=aqA (fun t=>t.length<9223372036854775808) ake
def preB (p s:List UInt8):Bool:=decide (p.length<=s.length)&&decide (s.take p.length=p)
def br (x:Nd)(p:List UInt8):List UInt8:=if x.k=3 then(if p≠[]/\ai p 0<16 then x.r (ai p 0).toNat else [])else if x.k=2 then(bif preB x.p p then x.r 0 else [])else []
def cj (x:Nd)(p:List UInt8):List UInt8:=if br x p=[] then p else if x.k=3 then p.drop 1 else p.drop x.p.length
def iJ (x:Nd)(p:List UInt8):Bool:=(decide (x.k=1)&&decide (x.p=p))||(decide (x.k=3)&&(decide (p=[])&& !decide (x.v=[])))
def jm (x:Nd)(p:List UInt8):List UInt8:=bif iJ x p then x.v else []
def VN (x:Nd)(p:List UInt8):b7:=.ret (.agg [.bool false (iJ x p),.str false (jm x p)])
def Nd.again (x:Nd):Nd:={k:=x.k,p:=x.p,v:=x.v,r:=fun(i:Nat)=>[x.r 0,x.r 1,x.r 2,x.r 3,x.r 4,x.r 5,x.r 6,x.r 7,x.r 8,x.r 9,x.r 10,x.r 11,x.r 12,x.r 13,x.r 14,x.r 15].getD i []}
def mL (x:Nd):List SV:=.int .i64 false x.k::.str false x.p::.str false x.v::UD x.r
def zeroCells:List SV:=[.int .i64 true 0,.str true [],.str true [],.str true [],.str true [],.str true [],.str true [],.str true [],.str true [],.str true [],.str true [],.str true [],.str true [],.str true [],.str true [],.str true [],.str true [],.str true [],.str true []]
def aiv (x:Nd)(p:List UInt8):b7:=.ret (.bL [.str false (br x p),.str false (cj x p)])
section
variable (n m k i j : Nat) (s : List UInt8) (v w : SV) (B : SB) (y : Nd) (f : Bool) (x : Wy × List UInt8) (g : Wy) (z : Nat -> Nat)
abbrev wS:=SV.agg (aF v w List.nil)
abbrev Kt:=wS fK cn
abbrev ahp:=cS (Fk (s=[]) (dY (ah (wS mz (ax y.v)) v) Kt v (not (dX y.v))) (ah Kt v)) (ah Kt v) y.k 3
abbrev ot:=x.1.root
abbrev qm:=x.1.z
abbrev qk:=x.1.o
abbrev kI:=x.1.n
abbrev rR:=x.1.c
abbrev Gw:=NI x.1.u
abbrev Uu:=kJ (∀(a:Nat->Nat),SV.val a v=SV.val a jB) (Er false) (Er 4) (Er (ot x)) (aI (Er (qm x)) (Er (qk x)) aW (Er (kI x)) (Er (rR x))) (Er (Gw x)) aW True B
abbrev sw:=NI x.1.u
abbrev lp:=SV.cC n 1 f m k i j
abbrev ahZ:=SB.cells (aF (ax (ot x)) (lp 1 (qk x) 0 (kI x) (rR x) (qm x)) (aF (qu (aP x.1.u)) SV.aZ List.nil)) 4 287
abbrev E4:=x.1.u
abbrev yf:=iB x.1 x.2
abbrev uB:=Wy.view x.1
abbrev rW:=SV.val z (SV.agg (mL y))
abbrev rU:=SV.val z (Nd.sv y)
abbrev jw:=Er true
abbrev ahf:=aS (I6 (sw x+1)) (kG (∀(a:Nat->Nat),rW (getD (x.1.f (fM (sw x)))) a=rU (getD (x.1.f (E4 x))) a) jw (bH 4 (ahZ x) (ax (ot x)::aF (lp 1 (qk x) 0 (kI x) (rR x) (qm x)) (bC (sw x+1)) qg) 287)) False (yf x)
abbrev J9:=x.1.f (fM (sw x))
abbrev GF:=Wy.sb g n m SV.aZ
abbrev Kb:=dW (GF 1 (E4 x) x.1)
abbrev Gu:=SV.iface 25 (bx 10)
abbrev ahP:=List.length (J9 x)<=9223372036854775808/\dS (J9 x)
abbrev F7:=bh y.p
abbrev Gm:=gi cn v [ax s]
end
theorem ai5 (x:Wy×List UInt8):VC.holds (runM sC 200 Tryz.f200 Vb x)=((fun(a:SV)=>(fun(b:SB)=>Fk (NI (kI x)<=sw x) (Bk (yf x) False (Uu a b x)) (gQ (fo (kI x) (sw x)) (eJ (qk x) (fM (sw x)) (kI x)) True (Zb [J9 x]) (bn (Bk (yf x) False (Uu a b x)) (aL (fo (kI x) (sw x)) (eJ (qk x) (fM (sw x)) (kI x)) (aS (ahP x) (aL (dW (uB x)) (Kb x) (Kb x) (ahf x)) (aL (dW (uB x)) (Kb x) (Kb x) (Bk (yf x) False (Uu a b x))) (ey (J9 x))) (aI (dW (uB x)) (Kb x) (Kb x) (ahP x) (Bk (ey (J9 x)) (ahf x) (Bk (yf x) False (Uu a b x))))) (eV (cT (flat [J9 x])) x.2)))) (cR 2 (bC (sw x)) [Gu] 285)) lQ):=by kernel_rfl
theorem ai4 (x:Nd)(p:List UInt8):VC.holds (jy sC 201 Tryz.f201 [x.sv,.str false p] (aiv x p))=((fun(a:SV)=>gA (bn (ak (lV p 0) (I6 (iV p)) (bf (aI (lV p 0) (Ix (iV p) 16) (Int.toNat (iV p)<16) (oe (Gr p) 1 1 (bP p)) (Fk (nM (Int.toNat (iV p)) x=[]) (Gm p a) (ah (cQ (ax (nM (Int.toNat (iV p)) x)) (sX p 1 (bP p) (fI&&false) J2 none) List.nil) a))) (Gm p a) (iV p) 16)) (Gm p a) (dX p)) (Fk (F7 x<=bP p) (cH (ak ((0:Int)<=0) (0<=F7 x) (F7 x<=bP p)) (Gm p a) (oe (Gr p) (F7 x) (F7 x) (bP p)/\Fk (sR x=[]) (Gm p a) (ah (cQ (ax (sR x)) (sX p (F7 x) (bP p) C0 (iG 13) none) List.nil) a)) (eV (eK p none (iG 13) 0 (F7 x)) x.p)) (Gm p a)) (Gm p a) x.k 3 x.k 2) (cQ (ax (br x p)) (ax (cj x p)) List.nil)):=by kernel_rfl
theorem Vl (x:Nd)(p:List UInt8):VC.holds (jy sC 142 Tryz.f142 [x.sv,.str false p] (VN x p))=((fun(a:SV)=>cS (Fk (x.p=p) (ah (wS mz (ax x.v)) a) (ahp p a x)) (ahp p a x) x.k 1) (wS (dM (iJ x p)) (ax (jm x p)))):=by kernel_rfl
theorem vP {a b c d:List UInt8}{l1 l2 l3 l4:Bool}(h1:a=c)(h2:b=d):ah (.bL [.str l1 a,.str l2 b]) (.bL [.str l3 c,.str l4 d]):=by subst h1;subst h2;exact fun _=>rfl
theorem XR (x:Nd)(p:List UInt8):aq (jy sC 201 Tryz.f201 [x.sv,.str false p] (aiv x p)):=by
 refine aq.j7 (ai4 x p) (by delta Fk Bk I6 Ix NI cn jV fI bf aF bh bP ak cY aI gi cS lV iV C0 J2 oe Gr ax iG sX bn cQ dX cH gA fU CV nM sR eV F7 Gm;exact rfl) ?_;dsimp only;have hb:=eO p 0;refine⟨fun h3=>⟨fun hp=> ?_,fun hp=> ?_⟩,fun h3=>⟨fun h2=>⟨fun hl=> ?_,fun hl=> ?_⟩,fun h2=> ?_⟩⟩
 ·have h3:=of_decide_eq_true h3;have hp:p≠[]:=by simpa using hp
  have hl:=List.length_pos_iff.2 hp;refine⟨by omega,by omega,fun h16=> ?_,fun h16=> ?_⟩
  ·have h16:=of_decide_eq_true h16;have hi:(ai p 0).toNat<16:=by omega
   rw[GK x.r hi];have er:br x p=x.r (ai p 0).toNat:=by rw[br,if_pos h3,if_pos ⟨hp,h16⟩]
   refine⟨by omega,by omega,hi,by omega,fun h0=>vP ?_ ?_,fun h0=>vP er.symm ?_⟩
   ·rw[er];exact(of_decide_eq_true h0).symm
   ·rw[cj,er,if_pos (of_decide_eq_true h0)]
   ·rw[cj,er,if_neg (of_decide_eq_false h0),if_pos h3];rfl
  ·have er:br x p=[]:=by rw[br,if_pos h3,if_neg (fun h=>of_decide_eq_false h16 h.2)]
   exact vP er.symm (by rw[cj,if_pos er])
 ·have h3:=of_decide_eq_true h3;have hp:p=[]:=by simpa using hp
  have er:br x p=[]:=by rw[br,if_pos h3,if_neg (fun h=>h.1 hp)]
  exact vP er.symm (by rw[cj,if_pos er])
 ·have h3:=of_decide_eq_false h3;have h2:=of_decide_eq_true h2;have hl:=of_decide_eq_true hl;have ep:eK p none (some (Operand.tmp 13)) 0 (x.p.length:Int)=p.take x.p.length:=rfl;rw[ep];have hd:decide (x.p.length<=p.length)=true:=decide_eq_true (by omega);refine⟨by omega,fun hq=> ?_,fun hq=>⟨by omega,fun h0=> ?_,fun h0=> ?_⟩⟩
  ·have hq:decide (p.take x.p.length=x.p)=false:=by simpa using hq
   have er:br x p=[]:=by rw[br,if_neg h3,if_pos h2,preB,hd,hq];rfl
   exact vP er.symm (by rw[cj,if_pos er])
  ·have hq:decide (p.take x.p.length=x.p)=true:=by simpa using hq
   have er:br x p=x.r 0:=by rw[br,if_neg h3,if_pos h2,preB,hd,hq];rfl
   have h0:=of_decide_eq_true h0;exact vP (by rw[er,h0]) (by rw[cj,er,if_pos h0])
  ·have hq:decide (p.take x.p.length=x.p)=true:=by simpa using hq
   have er:br x p=x.r 0:=by rw[br,if_neg h3,if_pos h2,preB,hd,hq];rfl
   have h0:=of_decide_eq_false h0;exact vP er.symm (by rw[cj,er,if_neg h0,if_neg h3];rfl)
 ·have h3:=of_decide_eq_false h3;have h2:=of_decide_eq_true h2;have hl: ¬ x.p.length<=p.length:=by have:=of_decide_eq_false hl;omega
  have er:br x p=[]:=by rw[br,if_neg h3,if_pos h2,preB,decide_eq_false hl];rfl
  exact vP er.symm (by rw[cj,if_pos er])
 ·have h3:=of_decide_eq_false h3;have h2:=of_decide_eq_false h2;have er:br x p=[]:=by rw[br,if_neg h3,if_neg h2]
  exact vP er.symm (by rw[cj,if_pos er])
theorem Lp (x:Nd)(p:List UInt8):aq (jy sC 142 Tryz.f142 [x.sv,.str false p] (VN x p)):=by
 refine aq.j7 (Vl x p) (by delta Fk Bk cn aF cS fK ax dM dY dX mz wS Kt ahp;exact rfl) ?_;dsimp only;have hv:jm x p=bif iJ x p then x.v else []:=rfl
 have hb:iJ x p=((decide (x.k=1)&&decide (x.p=p))||(decide (x.k=3)&&(decide (p=[])&& !decide (x.v=[])))):=rfl;rw[hv,hb];generalize decide (x.k=1)=a;generalize decide (x.p=p)=b;generalize decide (x.k=3)=c;generalize decide (p=[])=d;generalize decide (x.v=[])=e;have s0:ah (.agg [.bool true true,.str false x.v]) (.agg [.bool false true,.str false x.v]):=fun _=>rfl;have s1:ah (.agg [.bool true false,.str true []]) (.agg [.bool false false,.str false []]):=fun _=>rfl;cases a<;>cases b<;>cases c<;>cases d<;>cases e<;>simp[s0,s1]
def K7:List SV->Option (Prop×b7)
 | [.agg l,.str false p]=>(match LF l with
   | some x=>some (True,aiv x p)
   | none=>none)
 | _=>none
def D7:List SV->Option (Prop×b7)
 | [.agg l,.str false p]=>(match LF l with
   | some x=>some (True,VN x p)
   | none=>none)
 | _=>none
theorem alu:au Tryz.prog 201 (bW K7):=by
 refine fE (n:=20) (fn:=Tryz.f201) Tryz.func201 (by kernel_rfl) (by kernel_rfl) ?_;intro args p a h hp;unfold K7 at h;split at h
 ·split at h
  ·rename_i x hx;injection h with h;injection h with h1 h2;subst h1;subst h2;rw[vG hx];exact⟨sC,Eg,rfl,rfl,XR _ _⟩
  ·cases h
 ·cases h
theorem VO:au Tryz.prog 142 (bW D7):=by
 refine fE (n:=20) (fn:=Tryz.f142) Tryz.func142 (by kernel_rfl) (by kernel_rfl) ?_;intro args p a h hp;unfold D7 at h;split at h
 ·split at h
  ·rename_i x hx;injection h with h;injection h with h1 h2;subst h1;subst h2;rw[vG hx];exact⟨sC,Eg,rfl,rfl,Lp _ _⟩
  ·cases h
 ·cases h
theorem tU (a:List UInt8):flat [a]=a:=by simp[flat]
theorem aow {a:List UInt8}(h:a.length<=1099511627776):Zb [a]:=⟨by rw[tU];omega,by simp⟩
attribute [local irreducible] cT ey getD
theorem XS {x:Wy×List UInt8}(h:x.1.Ok):aq (runM sC 200 Tryz.f200 Vb x):=by
 refine aq.j7 (ai5 x) (by delta Fk Bk I6 Ix Sr Er NI cn aF bC bx qg ak cR aI aL bH kG ax gQ aS fo bn aP aW bl fM dS aD gj dW ja zY lQ eV qu eJ kJ ot qm qk kI rR Gw Uu sw lp ahZ E4 yf uB rW rU jw ahf J9 GF Kb Gu ahP;exact rfl) ?_;dsimp only;obtain⟨w,t⟩:=x;have h:w.Ok:=h;have hu:=h.u;have hn:=h.n;simp only[Int.toNat_natCast,Nat.zero_add,tU];by_cases h1:(w.u:Int)<w.n
 ·have hf:=h.f w.u (by omega);have d1:decide ((w.n:Int)<=w.u)=false:=decide_eq_false (by omega);have hq:Zb [w.f w.u]:=aow (by omega);cases h2:decide (cT (w.f w.u)=t)<;>cases h3:ey (w.f w.u)
  all_goals
   have ht:iB w t=(decide ((w.u:Int)<w.n)&&(decide (cT (w.f w.u)=t)&&ey (w.f w.u))):=rfl;rw[decide_eq_true h1,h2,h3] at ht;simp only[d1,ht,Bool.not_true,Bool.not_false,Bool.and_false,Bool.and_true,Bool.false_eq_true,Bool.true_eq_false,false_imp_iff,forall_const,true_and,and_true,hq]
   repeat' first
    | omega
    | exact af.refl _
    | refine And.intro ?_ ?_
    | exact fun _=>rfl
    | rfl
    | exact trivial
    | fail
 ·have d1:decide ((w.n:Int)<=w.u)=true:=decide_eq_true (by omega);have ht:iB w t=false:=by rw[iB,decide_eq_false h1];rfl
  simp only[d1,ht,Bool.false_eq_true,Bool.true_eq_false,false_imp_iff,forall_const,true_and,and_true]
  repeat' first
   | omega
   | exact af.refl _
   | refine And.intro ?_ ?_
   | exact fun _=>rfl
   | rfl
   | exact trivial
   | fail
theorem alw:au Tryz.prog 200 (kj Vb) :=vF (n:=20) (fn:=Tryz.f200) Tryz.func200 (by kernel_rfl) (by kernel_rfl) Vb fun x hx=>⟨sC,Eg,rfl,XS hx.1⟩
noncomputable def HA:List (FuncId×PT):=(200,kj Vb)::(188,bW rA)::Jc
theorem Bo:aU Tryz.prog (fun f=>aA f HA):=.cons alw (jr _) (.cons Hu (bX _) zn)
noncomputable def O5:gF:={cF with cM:=fun f=>aA f HA}
theorem akj:Sx.Good Tryz.prog O5:=.of bO Bo bt
end Go.Proofs.YtpaaiebohjjieaaGreatDoor
namespace Go.Proofs.YtpaaiebohjjieaaGreatDoor
open Go Sx
set_option maxRecDepth 20000
section
variable (v : SV) (B : SB) (x y : Wy × List UInt8)
abbrev Ao:=∀(a:Nat->Nat),SV.val a v=SV.val a jB
abbrev agO:=SB.view (qm x) (qk x) (kI x) (bD x.1.f)
abbrev ahg:=bl (Ao v) (Er false) (Er 4) (ot x=ot y) (aI (x.1.z=y.1.z) (x.1.o=y.1.o) aW (kI x=kI y) (rR x=rR y)) (sw x=sw y) aW (bH 2 B [bC (sw x),Gu] 285) True
abbrev Kf:=getD (x.1.f (E4 x))
abbrev Km:=iB x.1 (aa x.2)
abbrev ahW:=cR 4 (ax (ot x)) (aF (lp 1 (qk x) 0 (kI x) (rR x) (qm x)) (bC (sw x)) qg) 287
end
theorem X9 (x:Wy×List UInt8):VC.holds (runM O5 202 Tryz.f202 yU x)=((fun(a:SV)=>(fun(b:Wy×List UInt8->SB)=>(fun(c:SB)=>aS (Gz x.2) (Bk (cG x.2) (kG (∀(a:Nat->Nat),rW (getD x.2) a=rU (getD x.2) a) jw (Sr (GF 1 (E4 x) x.1))) (iH x.2 (Bk (Km x) (cZ (∀(a:Nat->Nat),rW (getD x.2) a=rU (Kf x) a) jw True (ahW x) (ahZ x)) False) False)) (aS (dj x.2) (∃(d:Wy×List UInt8),bl (c6 (Wy.Ok d.1)) aW (aa x.2=d.2) (Er 4) (ot x=ot d) (aI (qm x=qm d) (qk x=qk d) aW (kI x=kI d) (rR x=rR d)) (sw x=sw d) (af (agO x) (agO d)) (Bk (yf d) (Bk (cG x.2) (cZ (∀(a:Nat->Nat),rW (Kf d) a=rU (getD x.2) a) jw True (b d) (ahW x)) (iH x.2 (Bk (Km x) (cZ (∀(a:Nat->Nat),rW (Kf d) a=rU (Kf x) a) jw True (b d) (ahZ x)) False) False)) (Bk (cG x.2) False (iH x.2 (Bk (Km x) False (ahg a c d x)) (ahg a c d x))))) (Bk (cG x.2) False (iH x.2 (Bk (Km x) False (Uu a c x)) (Uu a c x))) (eA x.2)) (cG x.2)) (cR 2 (bC (sw x)) [Gu] 285)) (fun b=>cR 4 (ax (ot b)) (aF (lp (tB 2 (Cy 0 (Mem.put 3 (SB.cells (uN 0 jB (SV.cells a)) 19 246) [(3,c8 19 a 246),(2,c8 19 a 246),(0,GF 1 (E4 x) x.1),(1,uB x)]) (uB b) (uB x) [(1,1),(0,0)]) 4 1) (qk b) 0 (kI b) (rR b) (qm b)) (qu (aP (E4 b))) qg) 287)) lQ):=by kernel_rfl
section
attribute [local irreducible] cT ey getD cG eA aa iB
theorem PE {x:Wy×List UInt8}(h:x.1.Ok)(ht:x.2.length<9223372036854775808):aq (runM O5 202 Tryz.f202 yU x):=by
 refine aq.j7 (X9 x) (by delta Bk Sr Er NI cn aF bC bx qg ak cR aI aL bH kG ax cr aS dj aP c8 cU bD aW bl cZ iH aD gj uN ja zY c6 lQ qu kJ Gz ot qm qk kI rR Gw Uu sw lp ahZ E4 yf uB rW rU jw GF Gu Ao agO ahg Kf Km ahW;exact rfl) ?_;dsimp only;obtain⟨w,t⟩:=x;have h:w.Ok:=h;have ht:t.length<9223372036854775808:=ht;have hr:Rel 9223372036854775808 t:=⟨.inl ht,ht⟩
 cases h1:cG t<;>cases h2:eA t<;>cases h3:iB w (aa t)
 all_goals simp only[hr,ht,Bool.false_eq_true,Bool.true_eq_false,false_imp_iff,forall_const,true_and,and_true]
 all_goals try refine⟨(w,aa t),h,?_⟩
 all_goals try dsimp only
 all_goals try simp only[h3,Bool.false_eq_true,Bool.true_eq_false,false_imp_iff,forall_const,true_and,and_true]
 all_goals
  repeat' first
   | exact af.refl _
   | refine And.intro ?_ ?_
   | exact fun _=>rfl
   | rfl
   | exact trivial
   | fail
end
theorem abf:au Tryz.prog 202 (kj yU) :=vF (n:=20) (fn:=Tryz.f202) Tryz.func202 (by kernel_rfl) (by kernel_rfl) yU fun x hx=>⟨O5,akj,rfl,PE hx.1 hx.2⟩
def yT (w:Wy)(t:List UInt8):Option (Nd×Nat):=if cG t=true then some (getD t,w.u)else if(eA t&&iB w (aa t))=true then some (getD (w.f w.u),w.u+1)else none
def Wy.on (w:Wy)(u:Nat):Wy:={w with u:=u}
def Lx (w:Wy):Nat->Nd->List UInt8->Nat->Option (Nd×List UInt8×Nat)
 | 0,_,_,_=>none
 | m+1,x,p,u=>if br x p=[] then some (x,p,u)else match yT (w.on u) (br x p)with
   | none=>none
   | some (y,u')=>Lx w m y (cj x p) u'
def fQ (w:Wy)(p:List UInt8):Option (Nd×List UInt8×Nat):=bif iB (w.on 0) w.root then Lx w (p.length+1) (getD (w.f 0)) p 1 else none
def eB (w:Wy)(p:List UInt8):Option (Nd×List UInt8):=if 40<w.n then none else match fQ w p with
 | some (y,q,u)=>if u<w.n then none else some (y,q)
 | none=>none
def pvB (r:Option (Nd×List UInt8)):Bool:=match r with
 | some (y,q)=>iJ y q
 | none=>false
def pvV (r:Option (Nd×List UInt8)):List UInt8:=match r with
 | some (y,q)=>jm y q
 | none=>[]
def apl (w:Wy)(key:List UInt8):b7:=.fork (eB w (ay key)).isSome fun b=>match b with
 | true=>.ret (.bL [.agg [.bool false (pvB (eB w (ay key))),.str false (pvV (eB w (ay key)))],.int .i64 true 0])
 | false=>.ret (.bL [.agg [.bool true false,.str true []],.int .i64 true 10])
structure Wh where
 y:Nd
 p:List UInt8
 u:Nat
 b:Bool
 v:List UInt8
def Nd.Good (x:Nd):Prop:=(x.k=2->x.p≠[])/\Fits x
def Nw (st:Sx.St)(i:Nat):Nat:=match slot st.tmps i with
 | some (.ptr k _ _)=>k
 | _=>0
def apO (st:Sx.St)(i:Nat):Nat:=match st.m.get (Nw st i)with
 | some (.cells (.ptr k _ _::_) _ _)=>k
 | _=>0
def WX (ty:TypeId):Mem->Nat
 | []=>0
 | (k,.cells _ _ t)::r=>(match Nat.beq t ty with
   | true=>k
   | false=>WX ty r)
 | _::r=>WX ty r
def amY (w:Wy)(kv:Nat)(st:Sx.St)(x:Wh)(e:SV):Mem:=[(Nw st 4,.cells (mL x.y) 19 246),(Nw st 2,.cells [.str false x.p] 1 9),(apO st 1,w.sb kv x.u e),(WX 81 st.m,.cells [.bool false x.b,.str false x.v] 2 81)]
def ajS (w:Wy)(P:List UInt8):bp :={α:=Wh,pre:=fun _ x=>(∃ m,x.p.length<m/\fQ w P=Lx w m x.y x.p x.u)/\x.y.Good/\x.u<=w.n,sM:=fun _ x=>x.p.length+1,fresh:=0,slots:=fun _ _=>[(5,.bool true true)],mem:=fun st x=>amY w 0 st x .aZ}
def ajT (w:Wy)(P:List UInt8):bp :={α:=Wh,pre:=fun _ _=>fQ w P=none,sM:=fun _ _=>0,fresh:=1,slots:=fun _ _=>[(5,.bool true false)],mem:=fun st x=>amY w 0 st x (Fq st.nx)++[(st.nx,ajz x.u)]}
def amT (st:Sx.St):Nat:=match slot st.tmps 5 with
 | some (.bool true false)=>1
 | _=>0
def ana (w:Wy)(P:List UInt8):q9:=⟨[0,1],amT,fun t=>match t with
 | 1=>ajT w P
 | _=>ajS w P⟩
noncomputable def Y0:List (FuncId×PT):=(202,kj yU)::(201,bW K7)::(142,bW D7)::(31,aT uo)::HA
theorem WC:aU Tryz.prog (fun f=>aA f Y0):=.cons abf (jr _) (.cons alu (bX _) (.cons VO (bX _) (.cons Jy (aN _) Bo)))
noncomputable def aed (w:Wy)(key:List UInt8):gF:={cF with cM:=fun f=>aA f Y0,aR:=fun f=>if f=199 then [(1,fun st=>match amT st with
 | 1=>none
 | _=>some (ana w (ay key)))] else []}
theorem anV (w:Wy)(key:List UInt8):Sx.Good Tryz.prog (aed w key):=.of bO WC bt
def AR (w:Wy)(key:Option Nat):Seen:=⟨key,w.z,w.o,w.n,w.c,[.str w.f]⟩
def shW:List AZ:=[.of .one,.of .one,.of (.slice [.str fun _=>[]])]
theorem zf {s:List UInt8}(h:ey s=true):bB (getD s)=true:=by unfold ey Lw at h;simp only[Bool.and_eq_true] at h;exact h.2.1
theorem MF {t:List UInt8}(h:cG t=true):bB (getD t)=true:=by rw[Eh,Bool.and_eq_true,Bool.and_eq_true] at h;exact zf h.2.1
end Go.Proofs.YtpaaiebohjjieaaGreatDoor
namespace Go.Proofs.YtpaaiebohjjieaaGreatDoor
open Go Sx
set_option maxRecDepth 20000
structure Sp where
 fr:List UInt8
 to:List UInt8
 n:Nat
 f:Nat->List UInt8
 z:Bool
 o:Nat
 c:Nat
 ad:List UInt8->Bool
 ag:List UInt8->Int
structure Sp.Ok (w:Sp):Prop where
 n:w.n<=200
 f: ∀ i,i<w.n->(w.f i).length<=1000
 a: ∀ h,w.ad h=true->0<=w.ag h/\w.ag h<w.n
 fr:w.fr.length<=1000
 to:w.to.length<=1000
structure Wk where
 ud:List UInt8->Bool
 us:List UInt8->Int
 ns:List (List UInt8)
 lk:Nat
 fs:List (List UInt8×List UInt8)
def Wk.used (s:Wk)(h:List UInt8):Int:=dflt (s.ud h) (s.us h)
structure Wk.Small (s:Wk):Prop where
 u: ∀ h,0<=s.used h/\s.used h<=1000
 ns:s.ns.length<=1000
 lk:s.lk<=1000
 fs:s.fs.length<=1000
def Sp.at (w:Sp)(h:List UInt8):List UInt8:=w.f (w.ag h).toNat
def hJ (w:Sp)(h:List UInt8):Bool:=w.ad h&&ey (w.at h)
def Wk.take (w:Sp)(s:Wk)(h:List UInt8):Wk:={s with ud:=n6 s.ud h,us:=w5 s.us h (s.used h+1),ns:=if s.used h=0 then s.ns++[w.at h] else s.ns}
def JA (l:List (List UInt8)):aK:=.str fun i=>l.getD i []
def gN (l:List (List UInt8×List UInt8)):aK:=.str fun i=>(l.getD i ([],[])).1
def gO (l:List (List UInt8×List UInt8)):aK:=.str fun i=>(l.getD i ([],[])).2
def adm (w:Sp)(s:Wk)(kn kf c1 c2:Nat):SB:=.cells [.str false w.fr,.str false w.to,.func (.func 71) [] [.ptr 4 true 0,.ptr 6 true 0],.map 1,.bI kn 1 true 0 s.ns.length c1,.int .i64 false s.lk,.bI kf 2 true 0 s.fs.length c2] 7 171
def Rg (s:Wk):SB:=.fmap s.ud (.int .i64 s.us) none
def G5 (s:Wk)(c1:Nat):SB:=.rows true s.ns.length [JA s.ns] false (c1*1) 9
def IC (s:Wk)(c2:Nat):SB:=.rows true s.fs.length [gN s.fs,gO s.fs] false (c2*2) 38
def Sp.own (w:Sp):Mem:=[(4,.cells [.map 5] 1 161),(5,.fmap w.ad (.int .i64 w.ag) none),(6,.cells [.cC 7 1 w.z w.o 0 w.n w.c] 1 28)]
def Sp.view (w:Sp):SB:=.view w.z w.o w.n [.str w.f]
structure BW where
 w:Sp
 s:Wk
 c1:Nat
 c2:Nat
def BW.mem (g:BW):Mem:=[(0,adm g.w g.s 2 3 g.c1 g.c2),(1,Rg g.s),(2,G5 g.s g.c1),(3,IC g.s g.c2)]++g.w.own++[(7,g.w.view)]
def Sp.back (w:Sp)(s:Wk)(c1 c2:Nat):Mem:=[(0,adm w s 8 9 c1 c2),(1,Rg s),(8,G5 s c1),(9,IC s c2)]++w.own
def aoZ (v:SV)(w:Sp)(s:Wk):lC:=.all (Nat×Nat) fun c=>.req (s.ns.length<=c.1/\s.fs.length<=c.2) (.ret v (w.back s c.1 c.2))
def XM (f:SV->SV):lC:=.all (List UInt8×List UInt8) fun y=>.ret (f (.iface 167 (.ptr 10 true 0))) [(10,.cells [.str false y.1,.str false y.2] 2 378)]
def snC (A:Type)(args:A->List SV)(pre:BW->A->Prop)(ans:BW->A->lC):qB :={G:=BW×A,n:=8,N:=11,pre:=fun x=>x.1.w.Ok/\x.1.s.Small/\(x.1.s.ns.length<=x.1.c1/\x.1.s.fs.length<=x.1.c2)/\pre x.1 x.2,args:=fun x=>.ptr 0 true 0::args x.2,mem:=fun x=>x.1.mem,ans:=fun x=>ans x.1 x.2}
def aaB (g:BW)(h:List UInt8):lC:=.fork (hJ g.w h) fun b=>match b with
 | true=>aoZ (.bL [(getD (g.w.at h)).sv,.aZ]) g.w (g.s.take g.w h)
 | false=>XM fun v=>.bL [jB,v]
def Dz:qB:=snC (List UInt8) (fun h=>[.str false h]) (fun _ _=>True) aaB
def acG (g:BW)(t:List UInt8):lC:=.fork (cG t) fun b=>match b with
 | true=>aoZ (.bL [(getD t).sv,.aZ]) g.w g.s
 | false=>.fork (eA t) fun b=>match b with
   | true=>aaB g (aa t)
   | false=>XM fun v=>.bL [jB,v]
def uV:qB:=snC (List UInt8) (fun t=>[.str false t]) (fun _ t=>t.length<9223372036854775808) acG
def hasB (fr to p:List UInt8):Bool:=!Op.bytesLess p (ay fr)&&(Op.bytesLess p (ay to)||decide (p=ay to))
def eo (fr to p:List UInt8):Bool:=(Op.bytesLess p (ay to)||decide (p=ay to))&&(!Op.bytesLess p (ay fr)||preB p (ay fr))
def Cs (p:List UInt8):Bool:=decide ((p.length:Int)% 2=0)&&oB p
def agc (p:List UInt8):b7:=.fork (Cs p) fun b=>match b with
 | true=>.ret (.bL [.str false (dJ p),.bool true true])
 | false=>.ret (.bL [.str true [],.bool true false])
def PO:List SV->Option (Prop×SV)
 | [.agg [.str false fr,.str false to],.str false p]=>some (fr.length<=1000/\to.length<=1000,.bool false (hasB fr to p))
 | _=>none
def EE:List SV->Option (Prop×SV)
 | [.agg [.str false fr,.str false to],.str false p]=>some (fr.length<=1000/\to.length<=1000,.bool false (eo fr to p))
 | _=>none
def Jw:List SV->Option (Prop×b7)
 | [.str false p]=>some (p.length<1099511627776,agc p)
 | _=>none
noncomputable def qc:List (FuncId×PT):=(31,aT uo)::(253,aT vK)::HA
theorem iL:aU Tryz.prog (fun f=>aA f qc):=.cons Jy (aN _) (.cons No (aN _) Bo)
noncomputable def Ad:gF:={cF with cM:=fun f=>aA f qc}
theorem PN:Sx.Good Tryz.prog Ad:=.of bO iL bt
section
variable (n : Nat) (s : List UInt8) (v : SV) (B : SB) (z : Nat × Nat) (x : BW × List UInt8) (y : Wk) (f : List UInt8 × List UInt8) (g : List UInt8 -> Bool) (h : List UInt8 -> Int)
abbrev fB:=x.1.s
abbrev e9:=x.1.w
abbrev De:=jX (aF (ax f.1) (ax f.2) List.nil) 378
abbrev At:=cR 1 (SV.map 5) List.nil 161
abbrev sU:=x.1.c2
abbrev pK:=x.1.c1
abbrev T1:List (List UInt8):=if Wk.used (fB x) x.2=0 then(fB x).ns++[Sp.at (e9 x) x.2] else(fB x).ns
abbrev lR:=List.length y.fs
abbrev kC:=lR (fB x)
abbrev iX:=SB.fmap g (fD.int IntKind.i64 h) none
abbrev nB:=iX (e9 x).ad (e9 x).ag
abbrev aab:=dflt ((e9 x).ad x.2) ((e9 x).ag x.2)
abbrev J7:=(e9 x).f (fM (aab x))
abbrev uP:=(e9 x).n
abbrev J8:=cR 1 (lp 7 (e9 x).o 0 (uP x) (e9 x).c (e9 x).z) List.nil 28
abbrev AI:=NI y.lk
abbrev nE:=AI (fB x)
abbrev mW:=af B (Rg y)
abbrev ahm:=mW (iX (n6 (fB x).ud x.2) (w5 (fB x).us x.2 (dflt ((fB x).ud x.2) ((fB x).us x.2)+1))) (Wk.take (e9 x) (fB x) x.2)
abbrev ZQ:=dflt ((fB x).ud x.2) ((fB x).us x.2)
abbrev nG:=(e9 x).fr
abbrev nH:=(e9 x).to
abbrev Uj:=Wk.take (e9 x) (fB x) x.2
abbrev Gs:=getD (Sp.at (e9 x) x.2)
abbrev iR:=List.length (fB x).ns
abbrev Ko:=cq (kC x) (sU x) 2 38 (gN (fB x).fs::cB (gO (fB x).fs))
abbrev AG:=List.length (T1 x)
abbrev Dc:=eY (AG x) z.1 (kC x) z
abbrev N7:=ak aW (Er (kC x)) (sU x=z.2)
abbrev N9:=cq (iR x) (pK x) 1 9 (cB (JA (fB x).ns))
abbrev oo:=af B (IC y n)
abbrev qv:=af B (G5 y n)
abbrev jY:=Er 7
abbrev N6:=lu (ax (dJ s))
abbrev iU:=ah fK v
end
theorem alU (fr to p:List UInt8):VC.holds (jy Ad 30 Tryz.f30 [.agg [.str false fr,.str false to],.str false p] (.ret (.bool false (hasB fr to p))))=(cH (dS fr) (dS to/\ah (SV.bool (jV false) (Op.bytesLess p (ay to)||eV p (ay to))) (dM (hasB fr to p))) (iU (dM (hasB fr to p))) (Op.bytesLess p (ay fr))):=by kernel_rfl
theorem adi (fr to p:List UInt8):VC.holds (jy Ad 255 Tryz.f255 [.agg [.str false fr,.str false to],.str false p] (.ret (.bool false (eo fr to p))))=(cH (dS to) (iU (dM (eo fr to p))) (cH (dS fr) (ah mz (dM (eo fr to p))) (Fk (bP p<=lK fr) (ak ((0:Int)<=0) (0<=bP p) (bP p<=lK fr)/\ah (SV.bool (fI&&false&&false) (eV (eK (ay fr) none (iG 13) 0 (bP p)) p)) (dM (eo fr to p))) (iU (dM (eo fr to p)))) (Op.bytesLess p (ay fr))) (Op.bytesLess p (ay to)||eV p (ay to))):=by kernel_rfl
theorem alW (p:List UInt8):VC.holds (jy Ad 196 Tryz.f196 [.str false p] (agc p))=(cH (Kc p) (dY (ah lP (N6 p)) lP lP (Cs p)) (cH (ij p) (dY (ah lP (N6 p)) lP lP (Cs p)) (aS (dS p) (ah (N6 p) (N6 p)) (ah (N6 p) lP) (Cs p)) (oB p)) (eX (bP p% 2) 0)):=by kernel_rfl
theorem aja (x:BW×List UInt8):VC.holds (runM Ad 139 Tryz.f139 Dz x)=((fun(a:SV)=>bn (Bk (hJ (e9 x) x.2) (∃(a:Nat×Nat),Dc a x/\False) (∃(b:List UInt8×List UInt8),kG (Ao a) aW (bH 2 (De b) (aF (SV.str true (110::111::mV (mV List.nil 101 114 101 58) 116 32 116 104)) (ax x.2) List.nil) 378))) (gQ (fo (uP x) (aab x)) (eJ (e9 x).o (fM (aab x)) (uP x)) (List.length (J7 x)<=9223372036854775808) (dS (J7 x)) (Bk (ey (J7 x)) (cS (ak (fW (cI (iR x) (iR x)) (jd (2*aP (iR x)*16)) (cr (aP (iR x)))) (Er (pK x*1)) (∀(a:Nat),aX (aP (iR x)) a (aS (I6 (ZQ x+1)) (∃(b:Nat×Nat),ak (Dc b x) (∀(a:Nat->Nat),rW (getD (J7 x)) a=rU (Gs x) a) (aI jY (Er (nG x)) (Er (nH x)) aW (bl aW (dn (aP (iR x)) (AG x) a b.1) True (Er (nE x)) (N7 b x) True (ahm x) (qv b.1 (cq (aP (iR x)) a 1 9 (bD (fun a=>iT a (iR x) (c9 a (fB x).ns) (iW (a - iR x) (J7 x))))) (Uj x)) (iY (oo b.2 (Ko x) (Uj x)) (Sr At) True (nB x) (J8 x))))) (∃(_:List UInt8×List UInt8),False) (hJ (e9 x) x.2)))) (aS (I6 (ZQ x+1)) (∃(a:Nat×Nat),ak (Dc a x) (∀(a:Nat->Nat),rW (getD (J7 x)) a=rU (Gs x) a) (aI jY (Er (nG x)) (Er (nH x)) aW (bl aW (dn (iR x) (AG x) (pK x) a.1) True (Er (nE x)) (N7 a x) True (ahm x) (qv a.1 (N9 x) (Uj x)) (iY (oo a.2 (Ko x) (Uj x)) (Sr At) True (nB x) (J8 x))))) (∃(_:List UInt8×List UInt8),False) (hJ (e9 x) x.2)) (ZQ x) 0) (Bk (hJ (e9 x) x.2) (∃(a:Nat×Nat),Dc a x/\False) (∃(b:List UInt8×List UInt8),kG (Ao a) aW (bH 2 (De b) (aF (SV.str true (mV (mV List.nil 111 100 101 58) 110 111 32 110)) (ax x.2) List.nil) 378))))) ((e9 x).ad x.2)) lQ):=by kernel_rfl
theorem zL {l l' a b:Bool}(h:a=b):ah (.bool l a) (.bool l' b):=by subst h;exact fun _=>rfl
theorem aqd {b:Bool}(h:(!b)=false):b=true:=by cases b with
 | true=>rfl
 | false=>cases h
theorem aqe {b:Bool}(h:(!b)=true):b=false:=by cases b with
 | false=>rfl
 | true=>cases h
theorem abk (fr to p:List UInt8)(h1:fr.length<=1000)(h2:to.length<=1000):aq (jy Ad 30 Tryz.f30 [.agg [.str false fr,.str false to],.str false p] (.ret (.bool false (hasB fr to p)))):=by
 refine aq.j7 (alU fr to p) (by delta Bk jV fK dM bn dS cH eV iU;exact rfl) ?_;refine⟨by omega,fun h=>⟨by omega,zL ?_⟩,fun h=>zL ?_⟩
 ·rw[hasB,h];rfl
 ·rw[hasB,h];rfl
theorem S2 (fr to p:List UInt8)(h1:fr.length<=1000)(h2:to.length<=1000):aq (jy Ad 255 Tryz.f255 [.agg [.str false fr,.str false to],.str false p] (.ret (.bool false (eo fr to p)))):=by
 refine aq.j7 (adi fr to p) (by delta Fk Bk NI jV fI bh bP ak fK dM iG bn mz lK dS cH eV iU;exact rfl) ?_;refine⟨by omega,fun h=>zL ?_,fun h=>⟨by omega,fun g=>zL ?_,fun g=>⟨fun l=>⟨⟨by omega,by omega,of_decide_eq_true l⟩,zL ?_⟩,fun l=>zL ?_⟩⟩⟩
 ·have h:(Op.bytesLess p (ay to)||decide (p=ay to))=false:=aqe h;rw[eo,h];rfl
 all_goals
  have h:(Op.bytesLess p (ay to)||decide (p=ay to))=true:=aqd h;rw[eo,h,g]
 ·rfl
 ·have l:decide (p.length<=(ay fr).length)=true:=decide_eq_true (by have:=of_decide_eq_true l;omega);rw[preB,l];rfl
 ·have l:decide (p.length<=(ay fr).length)=false:=decide_eq_false (by have:=of_decide_eq_false l;omega);rw[preB,l];rfl
theorem W2 (p:List UInt8)(hp:p.length<1099511627776):aq (jy Ad 196 Tryz.f196 [.str false p] (agc p)):=by
 refine aq.j7 (alW p) (by delta Bk NI cn aF bh bP ak cY eI fK ax eX aS dY bn cQ k8 ij mz Kc i9 dS cH lP lu N6;exact rfl) ?_;have S: ∀ v:SV,ah v v:=fun _ _=>rfl;have e:Cs p=(decide ((p.length:Int)% 2=0)&&oB p):=rfl;cases h1:decide ((p.length:Int)% 2=0)<;>cases h2:oB p
 all_goals
  rw[h1,h2] at e;simp only[e,Bool.not_true,Bool.not_false,Bool.true_and,Bool.false_and,Bool.false_eq_true,Bool.true_eq_false,false_imp_iff,forall_const,true_and,and_true,S];omega
theorem an8:au Tryz.prog 30 (aT PO):=by
 refine gz (fE (n:=20) (fn:=Tryz.f30) Tryz.func30 (by kernel_rfl) (by kernel_rfl) ?_);intro args p a h hp;unfold PO at h;split at h
 ·injection h with h;injection h with h1 h2;subst h1;subst h2;exact⟨_,PN,rfl,rfl,abk _ _ _ hp.1 hp.2⟩
 ·cases h
theorem af0:au Tryz.prog 255 (aT EE):=by
 refine gz (fE (n:=20) (fn:=Tryz.f255) Tryz.func255 (by kernel_rfl) (by kernel_rfl) ?_);intro args p a h hp;unfold EE at h;split at h
 ·injection h with h;injection h with h1 h2;subst h1;subst h2;exact⟨_,PN,rfl,rfl,S2 _ _ _ hp.1 hp.2⟩
 ·cases h
theorem akH:au Tryz.prog 196 (bW Jw):=by
 refine fE (n:=20) (fn:=Tryz.f196) Tryz.func196 (by kernel_rfl) (by kernel_rfl) ?_;intro args p a h hp;unfold Jw at h;split at h
 ·injection h with h;injection h with h1 h2;subst h1;subst h2;exact⟨_,PN,rfl,fun b=>by cases b<;>exact rfl,W2 _ hp⟩
 ·cases h
theorem sZ {z:Bool}{n n':Nat}{cs cs':List aK}{tot tot':Nat}{ty:TypeId}(hn:n=n')(ht:tot=tot')(hl:cs.length=cs'.length)
  (h: ∀(k:Nat) (c c':aK),cs[k]?=some c->cs'[k]?=some c'->∀ i,i<n->∀ E,(c'.at i).val E=(c.at i).val E):af (.rows z n cs false tot ty) (.rows z n' cs' false tot' ty):=by
 subst hn;subst ht;refine af.of rfl rfl fun hno=>⟨hno,fun E o ⟨c,fr,h1,h2,h3,h4,h5⟩=>⟨c,fr,h1,h2,by rw[← hl];exact h3,h4,fun i k col hi hk=> ?_⟩,id⟩
 have hk0:k<cs.length:=by rw[hl];exact(List.getElem?_eq_some_iff.1 hk).1
 rw[h k _ col (List.getElem?_eq_getElem hk0) hk i hi E,← hl];exact h5 i k _ hi (List.getElem?_eq_getElem hk0)
theorem Dv {α:Type}(l:List α)(x d:α)(i:Nat)(h:i<l.length+1):(l++[x]).getD i d=if i<l.length then l.getD i d else [x].getD (i - l.length) d:=by
 simp only[List.getD_eq_getElem?_getD];by_cases h1:i<l.length
 ·rw[if_pos h1,List.getElem?_append_left h1]
 ·rw[if_neg h1,List.getElem?_append_right (by omega)]
theorem akK {l:List (List UInt8)}{x:List UInt8}{c:Nat}{ty:TypeId}:af (.rows true (l.length+1) [.str fun j=>if j<l.length then l.getD j [] else lZ [x] (j - l.length)] false (c*1) ty) (.rows true (l++[x]).length [JA (l++[x])] false (c*1) ty):=by
 refine sZ (by simp) rfl rfl fun k c c' h1 h2 i hi E=> ?_;cases k with
 | zero =>simp only[List.getElem?_cons_zero,Option.some.injEq] at h1 h2;subst h1;subst h2;simp only[JA,aK.at,SV.val,Dv l x [] i hi];rfl
 | succ k=>simp at h1
theorem Cl {a b:List UInt8}{ty:TypeId}:af (SB.cells [SV.str true a,SV.str false b] 2 ty) (SB.cells [SV.str false (a,b).1,SV.str false (a,b).2] 2 ty):=af.cells (fun _=>rfl) rfl
theorem apv.zero (E:Nat->Nat):SV.val E (SV.agg [SV.int .i64 true 0,SV.str true [],SV.str true [],SV.str true [],SV.str true [],SV.str true [],SV.str true [],SV.str true [],SV.str true [],SV.str true [],SV.str true [],SV.str true [],SV.str true [],SV.str true [],SV.str true [],SV.str true [],SV.str true [],SV.str true [],SV.str true []])=SV.val E jB:=rfl
section
attribute [local irreducible] ey getD
theorem Q7 {x:BW×List UInt8}(hw:x.1.w.Ok)(hs:x.1.s.Small)(hc:x.1.s.ns.length<=x.1.c1/\x.1.s.fs.length<=x.1.c2):aq (runM Ad 139 Tryz.f139 Dz x):=by
 refine aq.j7 (aja x) (by delta Fk Bk I6 Ix Sr Er NI cn aX aF bx ak jX cR aI aL bH cS kG ax gQ cr aS fo bn aP eC cU bD aW jd iT bT dn cq fW cI iW cB eY bl fM dS aD gj c9 ja zY lQ iY mV eJ lp rW rU Ao fB e9 De At sU pK T1 lR kC iX nB aab J7 uP J8 AI nE mW ahm ZQ nG nH Uj Gs iR Ko AG Dc N7 N9 oo qv jY;exact rfl) ?_;obtain⟨⟨w,s,c1,c2⟩,t⟩:=x;dsimp only at hw hs hc ⊢;have hu:=hs.u t;have hn:=hs.ns;have eu:dflt (s.ud t) (s.us t)=s.used t:=rfl;have el:hJ w t=(w.ad t&&ey (w.f (w.ag t).toNat)):=rfl;have ea:w.at t=w.f (w.ag t).toNat:=rfl;obtain⟨hc1,hc2⟩:=hc;have ez:=apv.zero;simp only[eu,Nat.zero_add];cases hA:w.ad t with
 | false =>rw[hA] at el;simp only[el,Bool.false_and,Bool.not_false,Bool.false_eq_true,Bool.true_eq_false,false_imp_iff,forall_const,true_and,and_true];exact⟨(_,_),ez,Cl⟩
 | true =>
   obtain⟨b1,b2⟩:=hw.a t hA;have hf:=hw.f (w.ag t).toNat (by omega);rw[hA] at el;have ed:dflt true (w.ag t)=w.ag t:=rfl;simp only[ed,Bool.not_true,Bool.false_eq_true,false_imp_iff,forall_const,true_and];refine⟨⟨b1,b2⟩,by omega,⟨by omega,by omega⟩,fun hB=> ?_,fun hB=> ?_⟩
   ·rw[hB] at el;simp only[el,Bool.and_self,Bool.true_eq_false,false_imp_iff,forall_const,and_true];refine⟨fun h0=>⟨⟨Nat.le_refl _,by omega,by omega⟩,fun c hcc=>⟨by omega,?_⟩⟩,fun h0=>⟨by omega,?_⟩⟩
    ·have h0:=of_decide_eq_true h0;rw[if_pos h0,List.length_append];have h1:(Wk.take w s t).ns=s.ns++[w.f (w.ag t).toNat]:=by show(if s.used t=0 then _ else _)=_;rw[if_pos h0];rfl
     have hns:af (.rows true (s.ns.length+1) [.str fun j=>if j<s.ns.length then s.ns.getD j [] else lZ [w.f (w.ag t).toNat] (j - s.ns.length)] false (c*1) 9) (G5 (Wk.take w s t) c):=by unfold G5;rw[h1];exact akK
     have hl:s.ns.length+[w.at t].length<=c:=hcc;refine⟨(c,c2),?_⟩
     repeat' first
      | assumption
      | exact Cl
      | exact af.refl _
      | refine And.intro ?_ ?_
      | exact fun _=>rfl
      | rfl
      | omega
      | exact trivial
      | fail
    ·have h0:=of_decide_eq_false h0;rw[if_neg h0];have h1:(Wk.take w s t).ns=s.ns:=by show(if s.used t=0 then _ else _)=_;rw[if_neg h0]
     have hns:af (.rows true s.ns.length [JA s.ns] false (c1*1) 9) (G5 (Wk.take w s t) c1):=by unfold G5;rw[h1];exact af.refl _
     refine⟨(c1,c2),?_⟩
     repeat' first
      | assumption
      | exact Cl
      | exact af.refl _
      | refine And.intro ?_ ?_
      | exact fun _=>rfl
      | rfl
      | omega
      | exact trivial
      | fail
   ·rw[hB] at el;simp only[el,Bool.and_false,Bool.false_eq_true,false_imp_iff,forall_const,true_and];exact⟨(_,_),ez,Cl,trivial⟩
end
theorem acJ:au Tryz.prog 139 (kj Dz) :=vF (n:=20) (fn:=Tryz.f139) Tryz.func139 (by kernel_rfl) (by kernel_rfl) Dz fun x hx=>⟨Ad,PN,rfl,Q7 hx.1 hx.2.1 hx.2.2.1⟩
noncomputable def Qf:List (FuncId×PT):=(139,kj Dz)::(30,aT PO)::(255,aT EE)::(196,bW Jw)::qc
theorem EA:aU Tryz.prog (fun f=>aA f Qf):=.cons acJ (jr _) (.cons an8 (aN _) (.cons af0 (aN _) (.cons akH (bX _) iL)))
noncomputable def Yx:gF:={cF with cM:=fun f=>aA f Qf}
theorem an6:Sx.Good Tryz.prog Yx:=.of bO EA bt
end Go.Proofs.YtpaaiebohjjieaaGreatDoor
