/- A part of the proof. -/
import Derived.Test.YtoibaecagklkaaaGreatDoorMn
open And renaming intro->L
open Bool renaming and_eq_true->R,and_false->c5,false->I,false_and->c6,false_eq_true->V,not_false->bl,not_true->bn,true->H,true_eq_false->Z
open Decidable renaming decide->M
open Go.Op renaming bytesLess->an
open Go.Proofs.Tryz renaming f130->b_,f132->b!,f157->ct,f42->cy,f43->cB,f83->cL,prog->O
open List renaming getElem?_cons_succ->c7,getElem?_eq_getElem->c8,getElem?_map->c_,length->a_,map_cons->c!,nil->W,range->bf
open Nat renaming blt_eq->a!,le_add_right->d_,le_trans->c4,lt_of_lt_of_le->d!,zero_add->ec
open Option renaming none->Q,some->J
namespace Go.Proofs.YtoibaecagklkaaaGreatDoor
open Go Sx
variable {b:Bool}{a base n:Nat}{ρ:Nat->Nat}{t t':Ren->VC}{ty:TypeId}
namespace Sx
open Go
noncomputable section
mutual
def SV.aW (ρ:Nat->Nat):SV->SV
 | .ptr k l o=>.ptr (ρ k) l o
 | .uI k w i j=>.uI (ρ k) w i j
 | .Aq k b n i=>.Aq (ρ k) b n i
 | .slc k o n l c=>.slc (ρ k) o n l c
 | .bY k w z i n c=>.bY (ρ k) w z i n c
 | .cT k w z o i n c=>.cT (ρ k) w z o i n c
 | .qi k w o i j=>.qi (ρ k) w o i j
 | .map k=>.map (ρ k)
 | .yield k=>.yield (ρ k)
 | .agg cs=>.agg (SV.uA ρ cs)
 | .dr vs=>.dr (SV.uA ρ vs)
 | .iface t v=>.iface t (v.aW ρ)
 | .func fn a b=>.func fn (SV.uA ρ a) (SV.uA ρ b)
 | .int k l n=>.int k l n
 | .bool l b=>.bool l b
 | .str l s=>.str l s
 | .eJ=>.eJ
 | .bW=>.bW
 | .cj=>.cj
 | .lE=>.lE
 | .mo=>.mo
 | .raw v=>.raw v
 | .l7 k a o=>.l7 (ρ k) a o
 | .iP k w z a i n c=>.iP (ρ k) w z a i n c
 | .yp k w a i j=>.yp (ρ k) w a i j
def SV.uA (ρ:Nat->Nat):List SV->List SV
 | []=>[]
 | x::r=>x.aW ρ::SV.uA ρ r
end
mutual
theorem SV.qm (ρ E:Nat->Nat):(v:SV)->(v.aW ρ).val E=v.val (λk=>E (ρ k))
 | .agg cs=>by simp only[SV.aW,SV.val,SV.DM ρ E cs]
 | .dr cs=>by simp only[SV.aW,SV.val,SV.DM ρ E cs]
 | .iface t v=>by simp only[SV.aW,SV.val,SV.qm ρ E v]
 | .func fn a b=>by simp only[SV.aW,SV.val,SV.DM ρ E a,SV.DM ρ E b]
 | .ptr .. =>rfl
 | .uI .. =>rfl
 | .Aq .. =>rfl
 | .slc .. =>rfl
 | .bY .. =>rfl
 | .cT .. =>rfl
 | .qi .. =>rfl
 | .map .. =>rfl
 | .yield .. =>rfl
 | .int .. =>rfl
 | .bool .. =>rfl
 | .str .. =>rfl
 | .eJ=>rfl
 | .bW=>rfl
 | .cj=>rfl
 | .lE=>rfl
 | .mo=>rfl
 | .raw .. =>rfl
 | .l7 .. =>rfl
 | .iP .. =>rfl
 | .yp .. =>rfl
theorem SV.DM (ρ E:Nat->Nat):(l:List SV)->SV.vals E (SV.uA ρ l)=SV.vals (λk=>E (ρ k)) l
 | []=>rfl
 | x::r=>by simp only[SV.uA,SV.vals,SV.qm ρ E x,SV.DM ρ E r]
end
theorem SV.xo : ∀ {l:List SV} {i:Nat} {u:SV},(SV.uA ρ l)[i]?=J u->∃ v,l[i]?=J v/\u=v.aW ρ
 | [],i,u,h=>by simp[SV.uA] at h
 | x::r,0,u,h=>by simp[SV.uA] at h;exact⟨x,rfl,h.symm⟩
 | x::r,i+1,u,h=>by simp only[SV.uA,c7] at h;obtain⟨v,h1,h2⟩:=SV.xo h;exact⟨v,by simpa using h1,h2⟩
def Yj (ρ:Nat->Nat):List (Nat×SV×SV)->List (Nat×SV×SV)
 | []=>[]
 | e::r=>(e.1,e.2.1.aW ρ,e.2.2.aW ρ)::Yj ρ r
theorem Og (ρ E:Nat->Nat): ∀ es:List (Nat×SV×SV),jM E (Yj ρ es)=jM (λk=>E (ρ k)) es
 | []=>rfl
 | e::r=>by have:=Og ρ E r;simp only[jM,Yj,c!] at this ⊢;rw[SV.qm,SV.qm,this]
def bh.aW (ρ:Nat->Nat):bh->bh
 | .ref k f=>.ref (ρ k) f
 | .iP k w z f n c=>.iP (ρ k) w z f n c
 | c=>c
theorem bh.qm (ρ E:Nat->Nat)(c:bh)(i:Nat):((c.aW ρ).at i).val E=(c.at i).val E:=by cases c<;>rfl
def bh.uA (ρ:Nat->Nat):List bh->List bh
 | []=>[]
 | c::r=>c.aW ρ::bh.uA ρ r
def fW.aW (ρ:Nat->Nat):fW->fW
 | .ref k f=>.ref (ρ k) f
 | c=>c
theorem fW.aiX : ∀ {l:List fW},bh.uA ρ (l.map (fW.at a))=(l.map (fW.aW ρ)).map (fW.at a)
 | []=>rfl
 | c::r=>by simp only[c!,bh.uA,fW.aiX];congr 1;cases c<;>rfl
theorem bh.I5 : ∀ {l:List bh},(bh.uA ρ l).length=l.length
 | []=>rfl
 | c::r=>by simp only[bh.uA,List.length_cons,bh.I5]
theorem bh.xo : ∀ {l:List bh} {k:Nat} {c:bh},(bh.uA ρ l)[k]?=J c->∃ c0,l[k]?=J c0/\c=c0.aW ρ
 | [],_,_,h=>by cases h
 | x::r,0,_,h=>by simp[bh.uA] at h;exact⟨x,rfl,h.symm⟩
 | x::r,k+1,_,h=>by simp only[bh.uA,c7] at h;simpa using bh.xo h
theorem bh.ar8 {E:Nat->Nat}: ∀ {l:List bh} {k:Nat} {v:SV},((bh.uA ρ l).map (bh.at a))[k]?=J v->∃ u,(l.map (bh.at a))[k]?=J u/\v.val E=u.val E:=(by grind [bh.xo,bh.qm])
def iO.aW (ρ:Nat->Nat):iO->iO
 | .ref k f=>.ref (ρ k) f
 | c=>c
theorem iO.qm (ρ:Nat->Nat)(c:iO)(s:h_):(c.aW ρ).val s=c.val s:=by cases c<;>rfl
def SB.aW (ρ:Nat->Nat):SB->SB
 | .cells cs tot ty=>.cells (SV.uA ρ cs) tot ty
 | .rows z n ay ro tot ty=>.rows z n (bh.uA ρ ay) ro tot ty
 | .view z o n ay=>.view z o n (bh.uA ρ ay)
 | .map es c=>.map (Yj ρ es) c
 | .mit (J k) a b c=>.mit (J (ρ k)) a b c
 | .sy D cs tot ty ro=>.sy D (bh.uA ρ cs) tot ty ro
 | .ni D n ay ro=>.ni D n (ay.map (fW.aW ρ)) ro
 | .fmap d c p=>.fmap d (c.aW ρ) p
 | B=>B
theorem SB.ae0 (ρ:Nat->Nat)(B:SB):(B.aW ρ).ro=B.ro:=by
 cases B<;>try rfl
 rename_i mp _ _ _;cases mp<;>rfl
theorem SB.I4 (ρ:Nat->Nat)(B:SB)(b a:Nat):(B.aW ρ).nc b a↔B.nc b a:=by
 cases B<;>try exact Iff.rfl
 rename_i mp _ _ _;cases mp<;>exact Iff.rfl
theorem cq.aiW {E E':Nat->Nat}{z:Bool}{o:Nat}{ay:List bh}{ob:Obj}(h:cq E' (.view z o n ay) ob):cq E (.view z o n (bh.uA ρ ay)) ob:=by obtain⟨c,ty,fr,h1,h2⟩:=h;refine⟨c,ty,fr,h1,λi k col hi hk=> ?_⟩;obtain⟨c0,g1,rfl⟩:=bh.xo hk;rw[bh.I5,bh.qm,h2 i k c0 hi g1,SV.val_congr (E:=E) (nx:=0) (by omega) _ (bh.R4 i 0 c0)]
theorem cq.aW {E:Nat->Nat}{B:SB}{o:Obj}(h:cq (λk=>E (ρ k)) (B.el a) o):cq E ((B.aW ρ).el a) o:=by
 cases B with
 | cells cs tot ty =>
   obtain⟨c,fr,h1,h2,h3,h4⟩:=h;refine⟨c,fr,h1,h2,λi u hu=> ?_,h4⟩
   grind [SV.xo,SV.qm]
 | map es c =>have h:o=.map (jM _ es).toArray c:=h;show o=.map (jM E (Yj ρ es)).toArray c;rw[Og,h]
 | mit mp a b c =>
   cases mp with
   | none=>exact h
   | some k=>exact h
 | rows z n ay ro tot ty =>obtain⟨c,fr,h1,h2,h3,h4,h5⟩:=h;refine⟨c,fr,h1,h2,by grind [bh.I5],h4,λi k col hi hk=> ?_⟩;obtain⟨c0,g1,rfl⟩:=bh.xo hk;rw[bh.I5,bh.qm,h5 i k c0 hi g1,SV.val_congr (E:=E) (nx:=0) (by omega) _ (bh.R4 i 0 c0)]
 | view z o n ay=>exact cq.aiW h
 | loop=>exact h
 | fmap d c p =>obtain⟨es,cl,h1,h2⟩:=h;exact⟨es,cl,h1,⟨h2.st,h2.ks,λs hs=>by rw[iO.qm];exact h2.has s hs,h2.no,h2.pd⟩⟩
 | sy D cs tot ty ro =>
   obtain⟨c,fr,h1,h2,h3,h4⟩:=h;refine⟨c,fr,h1,h2,λi u hu=> ?_,h4⟩;obtain⟨v,g1,g2⟩:=bh.ar8 (E:=E) hu;have hv:v.wf 0=true:=by grind [bh.R4]
   rw[h3 i v g1,g2];exact congrArg J (SV.val_congr (nx:=0) (by omega) v hv)
 | ni D n ay ro =>have:=cq.aiW (ρ:=ρ) (E:=E) h;rw[fW.aiX] at this;exact this
def uC (base:Nat):List SV->List SV->Ren->(Ren->VC)->VC
 | [],[],aW,t=>t aW
 | h::hs,u::us,aW,t=>DQ base aW h u (λaW=>uC base hs us aW t)
 | _,_,_,_=>.fail "call: so many arguments"
theorem rZ {base:Nat}: ∀ {hs us:List SV} {aW:Ren} {t:Ren->VC},(uC base hs us aW t).holds->
  ∃ ren',aW.le ren'/\(t ren').holds/\∀ ren'' (E:Nat->Nat),ren'.le ren''->SV.vals (Ren.E base ren'' E) hs=SV.vals E us
 | [],[],aW,t,h=>⟨aW,Ren.le_refl _,h,λ_ _ _=>rfl⟩
 | h::hs,u::us,aW,t,hh=>by simp only[uC] at hh;obtain⟨r1,h1,h2,h3⟩:=Bb hh;obtain⟨r2,g1,g2,g3⟩:=rZ h2;exact⟨r2,Ren.le_trans h1 g1,g2,λr'' E hle=>by simp only[SV.vals];rw[h3 r'' E (Ren.le_trans g1 hle),g3 r'' E hle]⟩
 | [],_::_,_,_,h=>h.elim
 | _::_,[],_,_,h=>h.elim
theorem iR {aW:Ren}{kh k1:Nat}(ht: ∀ r,(t r).holds->(t' r).holds)(h:(iV base aW kh k1 t).holds):(iV base aW kh k1 t').holds:=by grind [Sx.iV]
theorem FW {base:Nat}: ∀ {a b:List SV} {aW:Ren} {t t':Ren->VC},(∀ r,(t r).holds->(t' r).holds)->(sg base a b aW t).holds->(sg base a b aW t').holds
 | a,b,aW,t,t',ht,h=>by
   revert h;unfold sg;split
   ·exact ht _
   ·exact iR (t:=λr=>.and (sU _ _) (sg base _ _ r t)) (λr h=>L h.1 (FW ht h.2))
   ·exact id
theorem yP {aW:Ren}{a b:SV}(ht: ∀ r,(t r).holds->(t' r).holds):(uD base aW a b t).holds->(uD base aW a b t').holds:=by
 unfold uD
 split<;>first
  | exact ht _
  | exact λh=>L h.1 (ht _ h.2)
  | exact iR ht
  | exact iR (t:=λr=>.and (sU _ _) (t r)) (λr h=>L h.1 (ht r h.2))
  | exact iR (t:=λr=>.and (.and _ _) (t r)) (λr h=>L h.1 (ht r h.2))
  | exact iR (t:=λr=>.and (.and _ _) (.and _ (t r))) (λr h=>L h.1 (L h.2.1 (ht r h.2.2)))
  | exact iR (t:=λr=>.and (sU _ _) (.and (sU _ _) (t r))) (λr h=>L h.1 (L h.2.1 (ht r h.2.2)))
  | (split<;>first
    | exact id
    | exact λh=>L h.1 (ht _ h.2)
    | exact iR (t:=λr=>.and (sU _ _) (t r)) (λr h=>L h.1 (ht r h.2))
    | exact iR (t:=λr=>.and (.and _ _) (t r)) (λr h=>L h.1 (ht r h.2))
    | exact iR (t:=λr=>.and (.and _ _) (.and _ (t r))) (λr h=>L h.1 (L h.2.1 (ht r h.2.2)))
    | exact iR (t:=λr=>.and (sU _ _) (.and (sU _ _) (.and (sU _ _) (.and (sU _ _) (t r))))) (λr h=>L h.1 (L h.2.1 (L h.2.2.1 (L h.2.2.2.1 (ht r h.2.2.2.2)))))
    | grind [FW])
theorem oQ {base:Nat}: ∀ {a b:List SV} {aW:Ren} {t t':Ren->VC},(∀ r,(t r).holds->(t' r).holds)->(o7 base a b aW t).holds->(o7 base a b aW t').holds
 | [],[],_,_,_,ht,h=>ht _ h
 | _::_,_::_,_,_,_,ht,h=>yP (λ_ h=>oQ ht h) h
 | [],_::_,_,_,_,_,h=>h.elim
 | _::_,[],_,_,_,_,h=>h.elim
theorem MF {aW:Ren}{a b:SV}(ht: ∀ r,(t r).holds->(t' r).holds)(h:(DQ base aW a b t).holds):(DQ base aW a b t').holds:=by
 unfold DQ at h ⊢;split at h
 ·exact oQ ht h
 ·exact oQ ht h
 ·split at h
  ·rename_i e;rw[o_ e]
   grind [oQ,yP]
  ·exact h.elim
 ·exact yP ht h
theorem yO {base:Nat}: ∀ {a b:List SV} {aW:Ren} {t t':Ren->VC},(∀ r,(t r).holds->(t' r).holds)->(uC base a b aW t).holds->(uC base a b aW t').holds
 | [],[],_,_,_,ht,h=>ht _ h
 | _::_,_::_,_,_,_,ht,h=>MF (λ_ h=>yO ht h) h
 | [],_::_,_,_,_,_,h=>h.elim
 | _::_,[],_,_,_,_,h=>h.elim
theorem m8 {base:Nat}{m:Mem}: ∀ {l:List (Nat×SB)} {used:List Nat} {aW:Ren} {t t':Ren->VC},(∀ r,(t r).holds->(t' r).holds)->(kT base m l used aW t).holds->(kT base m l used aW t').holds
 | [],_,_,_,_,ht,h=>ht _ h
 | (k0,B0)::r,used,aW,t,t',ht,h=>by
   simp only[kT] at h ⊢;revert h;cases iK base aW k0 with
   | none =>
     cases B0.wf base with
     | true=>cases B0.ry with
       | true=>exact λh=>L h.1 (m8 ht h.2)
       | false=>exact λh=>L h.1 (m8 ht h.2)
     | false=>exact id
   | some k1 =>
     by_cases hu:used.contains k1=H
     ·simp only[o_ hu];exact id
     ·simp only[p_ hu];cases m.get k1 with
      | none=>exact id
      | some B =>
        cases B0.wf base with
        | true=>exact λh=>L h.1 (m8 ht h.2)
        | false =>
          cases B0<;>try exact id
          cases B<;>try exact id
          rename_i cs' tot' ty' cs tot ty;by_cases e:ty'=ty
          ·simp only[o_ e];exact λh=>L h.1 (oQ (λ_ h=>m8 ht h) h.2)
          ·simp only[p_ e];exact id
inductive ng:Type 1 where
 | ret (v:SV) (back:Mem)
 | fork (b:Bool) (f:Bool->ng)
 | all (α:Type) (f:α->ng)
 | req (p:Prop) (a:ng)
def ng.CF (g:SV->Mem->VC):ng->VC
 | .ret v back=>g v back
 | .fork b f=>Sx.fork b λc=>(f c).CF g
 | .all α f=>.all α λx=>(f x).CF g
 | .req p a=>.imp p (a.CF g)
def ng.ask (g:SV->Mem->VC):ng->VC
 | .ret v back=>g v back
 | .fork b f=>Sx.fork b λc=>(f c).ask g
 | .all α f=>.ex α λx=>(f x).ask g
 | .req p a=>.and (.atom p) (a.ask g)
theorem ng.meet {g h:SV->Mem->VC}: ∀ {a:ng},(a.ask g).holds->(a.CF h).holds->∃ v back,(g v back).holds/\(h v back).holds
 | .ret v back,h1,h2=>⟨v,back,h1,h2⟩
 | .fork b f,h1,h2=>by simp only[ng.ask,ng.CF,dY] at h1 h2;exact ng.meet h1 h2
 | .all α f,⟨x,h1⟩,h2=>ng.meet h1 (h2 x)
 | .req p a,⟨h0,h1⟩,h2=>ng.meet h1 (h2 h0)
theorem ng.vH {g h:SV->Mem->VC}(hg: ∀ v m,(g v m).holds->(h v m).holds): ∀ {a:ng},(a.CF g).holds->(a.CF h).holds
 | .ret v back,h1=>hg _ _ h1
 | .fork b f,h1=>by simp only[ng.CF,dY] at h1 ⊢;exact ng.vH hg h1
 | .all α f,h1=>λx=>ng.vH hg (h1 x)
 | .req p a,h1=>λh0=>ng.vH hg (h1 h0)
structure mg where
 G:Type
 n:Nat
 N:Nat
 pre:G->Prop
 args:G->List SV
 mem:G->Mem
 Fg:G->ng
 gh:SV->Mem->List Gh:=λ_ _=>[]
def Fa (n:Nat)(aW:Ren)(nx k:Nat):Nat:=match Nat.blt k n,aW.get k with
 | true,J k1=>k1
 | _,_=>nx+k
def RM (ρ:Nat->Nat):Mem->Mem
 | []=>[]
 | e::r=>(ρ e.1,e.2.aW ρ)::RM ρ r
def xu (aW:Ren):Mem->List Nat
 | []=>[]
 | e::r=>match e.2.ro,aW.get e.1 with
   | false,J k1=>k1::xu aW r
   | _,_=>xu aW r
def QC (nx:Nat):Ren->Bool
 | []=>H
 | e::r=>Nat.blt e.2 nx&&QC nx r
def G6 (N:Nat):Mem->Bool
 | []=>H
 | e::r=>Nat.blt e.1 N&&(!e.2.ro)&&G6 N r
def SV.avJ (ρ:Nat->Nat)(v:SV):SV:=match v.wf 0&& !v.hint with
 | true=>v
 | false=>v.aW ρ
theorem SV.abc (ρ E:Nat->Nat)(v:SV):(v.avJ ρ).val E=v.val (λk=>E (ρ k)):=by
 unfold SV.avJ;split
 ·rename_i h;rw[R] at h;exact SV.val_congr (nx:=0) (by omega) v h.1
 grind [SV.qm]
def SV.aiV (ρ:Nat->Nat):List SV->List SV
 | []=>[]
 | v::r=>v.avJ ρ::SV.aiV ρ r
theorem SV.Uw (ρ E:Nat->Nat): ∀ l:List SV,SV.vals E (SV.aiV ρ l)=SV.vals (λk=>E (ρ k)) l
 | []=>rfl
 | v::r=>by simp only[SV.aiV,SV.vals,SV.abc,SV.Uw ρ E r]
def SV.ak8 (ρ:Nat->Nat):SV->SV
 | .dr vs=>.dr (SV.aiV ρ vs)
 | v=>v.avJ ρ
theorem SV.abd (ρ E:Nat->Nat)(v:SV):(v.ak8 ρ).val E=v.val (λk=>E (ρ k)):=by
 unfold SV.ak8
 grind [SV.Uw,SV.abc,SV.val]
def aw3:SV->SV->Bool
 | .bool H a,.bool H b=>a !=b
 | .int _ H a,.int _ H b=>!decide (a=b)
 | .cj,.iface .. =>H
 | .iface ..,.cj=>H
 | .eJ,.ptr .. =>H
 | .ptr ..,.eJ=>H
 | _,_=>I
def anK:List SV->List SV->Bool
 | a::r,b::s=>match aw3 a b with
   | true=>H
   | false=>anK r s
 | _,_=>I
def anL:SV->SV->Bool
 | .dr a,.dr b=>anK a b
 | a,b=>aw3 a b
def dI (c:mg):PT:=λargs m nx K=>.ex c.G λx=>.and (.atom (c.pre x)) (uC 0 (c.args x) args [] λaW=>kT 0 m (c.mem x) [] aW λaW=>match QC nx aW with
 | true=>(c.Fg x).CF λv back=>(match G6 c.N back with
   | true=>K (v.ak8 (Fa c.n aW nx)) (RM (Fa c.n aW nx) back++tK (xu aW (c.mem x)) m) (nx+c.N)
   | false=>.fail "call: blocks that are handed back")
 | false=>.fail "call: keys")
theorem de (c:mg):bC (dI c):=by
 intro args m nx K K' hK h;obtain⟨x,h1,h2⟩:=h;refine⟨x,h1,yO (λaW h=>m8 (λaW h=> ?_) h) h2⟩
 grind [ng.vH]
def mg.fit (c:mg)(x:c.G):SV->Mem->Nat->VC:=λv m _=>ghs (c.gh v m) [J v] m λvs m=>match vs with
 | [J v]=>(c.Fg x).ask λu back=>(match anL u v with
   | true=>.fail "call: another way"
   | false=>uC c.n [u] [v] [] λaW=>kT c.n m back [] aW λ_=>.tt)
 | _=>.fail "call: no value"
theorem KY {nx:Nat}: ∀ {aW:Ren} {k k1:Nat},QC nx aW=H->aW.get k=J k1->k1<nx
 | [],_,_,_,h=>by cases h
 | e::r,k,k1,hb,h=>by
   simp only[QC,R,a!] at hb;by_cases he:e.1=k
   ·rw[Ren.get,o_ he] at h;grind
   ·rw[Ren.get,p_ he] at h;exact KY hb.2 h
theorem F6 {N:Nat}: ∀ {m:Mem} {k:Nat} {B:SB},G6 N m=H->m.get k=J B->k<N/\B.ro=I
 | [],_,_,_,h=>by cases h
 | e::r,k,B,hb,h=>by
   simp only[G6,R,a!,Bool.not_eq_true'] at hb;by_cases he:e.1=k
   ·rw[Mem.get,o_ he] at h;grind
   ·rw[Mem.get,p_ he] at h;exact F6 hb.2 h
theorem CM {ks:List Nat}: ∀ {m:Mem} {k:Nat} {B:SB},(tK ks m).get k=J B->k∉ ks/\m.get k=J B
 | [],_,_,h=>by cases h
 | e::r,k,B,h=>by
   simp only[tK] at h;cases hc:ks.contains e.1 with
   | true =>rw[hc] at h;obtain⟨h1,h2⟩:=CM h;refine⟨h1,?_⟩;rw[Mem.get,p_ (by grind)];exact h2
   | false =>
     rw[hc] at h;by_cases he:e.1=k
     ·simp only[Mem.get,he,if_true] at h ⊢
      grind
     ·simp only[Mem.get,he,if_false] at h ⊢;exact CM h
theorem I3 {ρ:Nat->Nat}{m1:Mem}: ∀ {m2:Mem} {j:Nat} {X:SB},(RM ρ m2++m1).get j=J X->(∃ k B,m2.get k=J B/\ρ k=j/\X=B.aW ρ)∨m1.get j=J X
 | [],_,_,h=>.inr h
 | e::r,j,X,h=>by
   simp only[RM,List.cons_append] at h;rcases Mem.nq h with ⟨h1,h2⟩ | ⟨hne,h⟩
   ·exact .inl ⟨e.1,e.2,by rw[Mem.get,o_ rfl],h1.symm,h2⟩
   ·rcases I3 h with ⟨k,B,g1,g2,g3⟩ | h
    ·refine .inl ⟨k,B,?_,g2,g3⟩;rw[Mem.get,p_ (by grind)];exact g1
    ·exact .inr h
theorem QU {aW:Ren}: ∀ {fm:Mem} {k k1:Nat} {B:SB},fm.get k=J B->B.ro=I->aW.get k=J k1->k1∈ xu aW fm
 | [],_,_,_,h,_,_=>by cases h
 | e::r,k,k1,B,h,hr,hk=>by
   rcases Mem.nq (k0:=e.1) (B0:=e.2) h with ⟨h1,h2⟩ | ⟨hne,h⟩
   ·subst h1;subst h2;simp only[xu,hr,hk];exact List.mem_cons_self ..
   ·have:=QU h hr hk;simp only[xu];split
    ·exact List.mem_cons_of_mem _ this
    ·exact this
theorem aiU {aW:Ren}{k:Nat}:iK 0 aW k=aW.get k:=by grind [a!,Nat.blt,iK]
def jN (E:Nat->Nat)(fm:Mem)(b:Nat):Prop:=∃ k B,fm.get k=J B/\B.nc (E k) b/\B.ro=I
theorem bp.ayn {Γ E m nx w}(h:bp Γ E m nx w){fm:Mem}{aW:Ren}(hb: ∀ kh B',fm.get kh=J B'->GZ 0 m [] aW kh B')
  (hi: ∀ kh kh' B B' k1,fm.get kh=J B->(∃ b a,B.nc b a)->fm.get kh'=J B'->(∃ b a,B'.nc b a)->iK 0 aW kh=J k1->iK 0 aW kh'=J k1->kh=kh') (hlt: ∀ kh B',fm.get kh=J B'->kh<n) :
  ∃ gm,bp (b5.at w (jN (Ren.E 0 aW E) fm) h.adj gm) (Ren.E 0 aW E) fm n w:=by
 have hE: ∀ kh k1,iK 0 aW kh=J k1->Ren.E 0 aW E kh=E k1:=(by grind [Ren.E])
 have hg: ∀ {kh B' a},fm.get kh=J B'->B'.nc (Ren.E 0 aW E kh) a->∃ k1 B,iK 0 aW kh=J k1/\m.get k1=J B/\B.nc (E k1) a/\(∀ E1 o,cq E1 (B.el a) o->cq (Ren.E 0 aW E1) (B'.el a) o)/\(B'.ro=I->B.ro=I):=λ{kh B' a} hg ha=>by
  obtain⟨k1,B,g1,_,g3,g4,g5,g6⟩:=hb kh B' hg _ a ha
  grind
 refine⟨λp hp ⟨k,B,g1,g2,g3⟩=> ?_,λkh B' a hk ha=> ?_,λkh kh' B B' a hk ha hk' ha' hr=> ?_,hlt,λkh B' a hg hn hro=>.inl ⟨kh,B',hg,hn,hro⟩,Ext.refl _ _,⟨Nat.zero_le _,λk hk=>absurd hk (Nat.not_lt_zero _)⟩,λD hD=>by cases hD⟩
 ·obtain⟨k1,X,_,q3,q4,_,q6⟩:=hg g1 g2;exact h.ag0 q3 q4 (q6 g3) p hp rfl
 ·obtain⟨k1,X,_,q3,q4,q5,_⟩:=hg hk ha;obtain⟨o,ho,hbo⟩:=h.p7 k1 X a q3 q4
  grind
 ·obtain⟨k1,X,g1,g3,g5,_,g7⟩:=hg hk ha;obtain⟨k1',X',g1',g3',g5',_,g7'⟩:=hg hk' ha';have:=h.qq k1 k1' X X' a g3 g5 g3' g5' (hr.imp g7 g7');subst this;exact hi kh kh' B B' k1 hk ⟨_,_,ha⟩ hk' ⟨_,_,ha'⟩ g1 g1'
theorem bp.told {Γ:b5}(hΓ:Γ.E9=0){E m nx w}(h:bp Γ E m nx w){N:Nat}{aW:Ren}{m2:Mem}(hb: ∀ kh B',m2.get kh=J B'->GZ n m [] aW kh B')
  (hi: ∀ kh kh' B B' k1,m2.get kh=J B->(∃ b a,B.nc b a)->m2.get kh'=J B'->(∃ b a,B'.nc b a)->iK n aW kh=J k1->iK n aW kh'=J k1->kh=kh') (hlt: ∀ kh B',m2.get kh=J B'->kh<N) :
  bp Γ (Ren.E n aW E) m2 N w:=by
 have hE: ∀ kh k1,iK n aW kh=J k1->Ren.E n aW E kh=E k1:=(by grind [Ren.E])
 have hg: ∀ {kh B' a},m2.get kh=J B'->B'.nc (Ren.E n aW E kh) a->∃ k1 B,iK n aW kh=J k1/\m.get k1=J B/\B.nc (E k1) a/\(∀ E1 o,cq E1 (B.el a) o->cq (Ren.E n aW E1) (B'.el a) o)/\(B'.ro=I->B.ro=I):=λ{kh B' a} hg ha=>by
  obtain⟨k1,B,g1,_,g3,g4,g5,g6⟩:=hb kh B' hg _ a ha
  grind
 refine⟨λkh B' a hk ha=> ?_,λkh kh' B B' a hk ha hk' ha' hr=> ?_,hlt,λkh B' a hk ha hro=> ?_,h.ext,(by grind),h.kp⟩
 ·obtain⟨k1,X,_,q3,q4,q5,_⟩:=hg hk ha;obtain⟨o,ho,hbo⟩:=h.p7 k1 X a q3 q4
  grind
 ·obtain⟨k1,X,g1,g3,g5,_,g7⟩:=hg hk ha;obtain⟨k1',X',g1',g3',g5',_,g7'⟩:=hg hk' ha';have:=h.qq k1 k1' X X' a g3 g5 g3' g5' (hr.imp g7 g7');subst this;exact hi kh kh' B B' k1 hk ⟨_,_,ha⟩ hk' ⟨_,_,ha'⟩ g1 g1'
 ·obtain⟨k1,X,_,g3,g5,_,g7⟩:=hg hk ha;exact h.rq k1 X a g3 g5 (g7 hro)
def sC (nx:Nat)(E E2:Nat->Nat)(j:Nat):Nat:=if j<nx then E j else E2 (j-nx)
theorem bp.back {Γ E m nx w}(h:bp Γ E m nx w)(hw:Mem.wf nx m=H){fm:Mem}{N:Nat}{aW:Ren}(hb: ∀ kh B',fm.get kh=J B'->GZ 0 m [] aW kh B')(hrl:QC nx aW=H)
  {E2:Nat->Nat} {m2:Mem} {w':World} {gl gm} (h2:bp (b5.at w (jN (Ren.E 0 aW E) fm) gl gm) E2 m2 N w') (hE2: ∀ k,k<n->E2 k=Ren.E 0 aW E k) (hro: ∀ k B,m2.get k=J B->B.ro=I) :
  (∀ k,sC nx E E2 (Fa n aW nx k)=E2 k)/\
  bp Γ (sC nx E E2) (RM (Fa n aW nx) m2++tK (xu aW fm) m) (nx+N) w':=by
 have hρ: ∀ k,sC nx E E2 (Fa n aW nx k)=E2 k:=λk=>by
  unfold Fa sC;split
  ·rename_i k1 hk hg;have:=KY hrl hg;simp only[this,if_true];rw[hE2 k (by simpa [a!] using hk)];simp[Ren.E,aiU,hg]
  ·simp only[show ¬ nx+k<nx by omega,if_false,Nat.add_sub_cancel_left]
 refine⟨hρ,?_⟩;have hMa: ∀ b,jN (Ren.E 0 aW E) fm b->∃ k1 X,k1∈ xu aW fm/\m.get k1=J X/\X.nc (E k1) b/\X.ro=false:=λb ⟨k,B,g1,g2,g3⟩=>by
  obtain⟨k1,X,q1,_,q3,q4,_,q6⟩:=hb k B g1 _ b g2;refine⟨k1,X,QU g1 g3 (by rw[← aiU];exact q1),q3,?_,q6 g3⟩;have:Ren.E 0 aW E k=E k1:=by simp[Ren.E,q1]
  rw[← this];exact q4
 have hx:Sx.Ext (jN (Ren.E 0 aW E) fm) w w':=h2.ext;have hEo: ∀ j,j<nx->sC nx E E2 j=E j:=λj hj=>by simp[sC,hj]
 have old: ∀ {j X},(tK (xu aW fm) m).get j=J X->j<nx/\m.get j=J X/\∀ a,X.nc (E j) a->¬ jN (Ren.E 0 aW E) fm a:=λ{j X} hj=>by obtain⟨h1,h3⟩:=CM hj;refine⟨h.lt _ _ h3,h3,λa ha hm=> ?_⟩;obtain⟨k1,Y,q1,q2,q3,q4⟩:=hMa _ hm;have:=h.qq j k1 X Y a h3 ha q2 q3 (.inr q4);subst this;exact h1 q1
 have hg: ∀ {j X a},(RM (Fa n aW nx) m2++tK (xu aW fm) m).get j=J X->X.nc (sC nx E E2 j) a->
   (∃ k B,m2.get k=J B/\Fa n aW nx k=j/\X=B.aW (Fa n aW nx)/\B.nc (E2 k) a/\(jN (Ren.E 0 aW E) fm a∨w.heap.size<=a))∨((tK (xu aW fm) m).get j=J X/\X.nc (E j) a/\a<w.heap.size/\¬ jN (Ren.E 0 aW E) fm a):=λ{j X a} hj ha=>by
  rcases I3 hj with ⟨k,B,g1,g2,g3⟩ | hj
  ·subst g3;rw[SB.I4,← g2,hρ] at ha;exact .inl ⟨k,B,g1,g2,rfl,ha,h2.rq k B a g1 ha (hro k B g1)⟩
  ·obtain⟨q1,q2,q3⟩:=old hj;rw[hEo j q1] at ha;exact .inr ⟨hj,ha,h.glt q2 ha,q3 a ha⟩
 refine⟨λj X a hj ha=> ?_,λj j' X X' a hj ha hj' ha' hr=> ?_,λj X hj=> ?_,λj X a hj ha hr=> ?_,⟨hx.os.trans h.ext.os,hx.tape.trans h.ext.tape,hx.output.trans h.ext.output,c4 h.ext.size hx.size,λi hi hm=>(hx.block i (d! hi h.ext.size) (λhmi=> ?_)).trans (h.ext.block i hi hm)⟩,
  ⟨c4 h.cx.1 (d_ _ _),λk hk=>(hEo k (d! hk h.cx.1)).trans (h.cx.2 k hk)⟩,λD hD=> ?_⟩
 ·rcases hg hj ha with ⟨k,B,g1,g2,rfl,g4,_⟩ | ⟨hj,ha,hl,hm⟩
  ·obtain⟨o,ho,hbo⟩:=h2.p7 k B a g1 g4;refine⟨o,ho,cq.aW ?_⟩;have:(λk=>sC nx E E2 (Fa n aW nx k))=E2:=funext hρ;rw[this];exact hbo
  ·obtain⟨q1,q2,_⟩:=old hj;obtain⟨o,ho,hbo⟩:=h.p7 j X a q2 ha;exact⟨o,by rw[hx.block _ hl hm];exact ho,hbo.congr hEo (SB.agl (Mem.Xt hw q2) a)⟩
 ·rcases hg hj ha with ⟨k,B,g1,g2,g3,g4,g5⟩ | ⟨hj,ha,hl,hm⟩<;>rcases hg hj' ha' with ⟨k',B',g1',g2',g3',g4',g5'⟩ | ⟨hj',ha',hl',hm'⟩
  ·rw[← g2,← g2',h2.qq k k' B B' a g1 g4 g1' g4' (.inl (hro k B g1))]
  ·rcases g5 with g5 | g5
   ·exact absurd g5 hm'
   ·omega
  ·rcases g5' with g5 | g5
   ·exact absurd g5 hm
   ·omega
  ·exact h.qq j j' X X' a (old hj).2.1 ha (old hj').2.1 ha' hr
 ·rcases I3 hj with ⟨k,B,g1,g2,_⟩ | hj
  ·rw[← g2];unfold Fa;split
   ·rename_i hk;have:=KY hrl hk;omega
   ·have:=h2.lt k B g1;omega
  ·have:=(old hj).1;omega
 ·rcases hg hj ha with ⟨k,B,_,_,_,_,g5⟩ | ⟨hj,ha,_,_⟩
  ·rcases g5 with g5 | g5
   ·obtain⟨k1,Y,_,q2,q3,q4⟩:=hMa _ g5;exact h.rq k1 Y a q2 q3 q4
   ·exact .inr (c4 h.ext.size g5)
  ·exact h.rq j X a (old hj).2.1 ha hr
 ·obtain⟨k1,Y,_,q2,q3,q4⟩:=hMa _ hmi;rcases h.rq k1 Y i q2 q3 q4 with h' | h'
  ·exact hm h'
  ·omega
 ·have hd:=h.kp D hD;rw[hx.block _ (Array.getElem?_eq_some_iff.1 hd).1 (λhmD=> ?_)]
  ·exact hd
  ·obtain⟨k1,Y,_,q2,q3,q4⟩:=hMa _ hmD;obtain⟨o,ho,hbo⟩:=h.p7 k1 Y D q2 q3;rw[hd] at ho;exact hbo.tZ _ (Option.some.inj ho).symm
def agU (n:Nat):Mem->Bool
 | []=>H
 | e::r=>Nat.blt e.1 n&&agU n r
theorem Tf {n:Nat}: ∀ {m:Mem} {k:Nat} {B:SB},agU n m=H->m.get k=J B->k<n
 | [],_,_,_,h=>by cases h
 | e::r,k,B,hb,h=>by
   simp only[agU,R,a!] at hb;by_cases he:e.1=k
   ·exact he▸ hb.1
   ·rw[Mem.get,p_ he] at h;exact Tf hb.2 h
def mg.ok (c:mg)(x:c.G):Bool:=agU c.n (c.mem x)&&Mem.wf c.n (c.mem x)&&SV.lY c.n (c.args x)
theorem jT {P:Program}{f:FuncId}{fn:Func}(hf:P.funcs[f]?=J fn) (hn:(fn.name== "runtime.NumGoroutine")=I) (hb:fn.body.isSome=H)  (c:mg)
  (h: ∀ x,c.pre x->∃ cfg,Good P cfg/\c.ok x=H/\au (lZ P (calling P cfg n) [] Ny (cfg.bU f) cfg.rounds fn (c.args x) (c.mem x) c.n (c.fit x))):aq P f (dI c):=by
 intro args m nx K hk hwf hargs Γ E w hs;obtain⟨x,hpre,hk⟩:=hk;obtain⟨cfg,hgood,hok,hrun⟩:=h x hpre;simp only[mg.ok,R] at hok;obtain⟨⟨hlt,hwm⟩,hwa⟩:=hok;obtain⟨ren1,_,hk1,ha⟩:=rZ hk;obtain⟨aW,hle,hk2,hm⟩:=lW hk1;obtain⟨hb0,hi⟩:=hm aW (Ren.le_refl _);revert hk2;cases hrl:QC nx aW with
 | false=>exact λh=>h.elim
 | true =>
   intro hk2;obtain⟨gm,hform⟩:=hs.ayn hb0 hi (λkh B' hg=>Tf hlt hg);have hc:=kC hgood hf hn hb hrun hwm hwa hform;rw[ha aW E hle] at hc;refine mY hf hn hb (hc.mono ?_);rintro e w' ⟨v,rfl,E1,u,m1,nx1,g1,g2,g3,g4,g5⟩;refine⟨v,rfl,?_⟩;cases u with
   | none=>exact g5.elim
   | some u' =>
     obtain⟨ts,m2,ht,g4,g5⟩:=zk g5 g4;split at g5
     case h_2=>exact g5.elim
     rename_i u;have g3: ∀ z,J u=J z->v=z.val E1:=λz hz=>by cases hz;obtain⟨v0,q1,q2,_⟩:=ht.get 0 u rfl;simp at q1;subst q1;rw[g3 _ rfl,q2]
     obtain⟨u0,back,y2,hk3⟩:=ng.meet g5 hk2;revert y2;cases anL u0 u with
     | true=>exact λh=>h.elim
     | false =>
     intro y2;obtain⟨r1,_,z1,za⟩:=rZ y2;obtain⟨r2,hle2,_,zm⟩:=lW z1;obtain⟨zb,zi⟩:=zm r2 (Ren.le_refl _);revert hk3;cases hbk:G6 c.N back with
     | false=>exact λh=>h.elim
     | true =>
       intro hk3;have ht:=g4.told rfl zb zi (λkh B' h=>(F6 hbk h).1);have hE2: ∀ k,k<c.n->Ren.E c.n r2 E1 k=Ren.E 0 aW E k:=λk hk=>(Ren.Lr hk).trans (g1 k hk);obtain⟨hρ,hfin⟩:=hs.back hwf hb0 hrl ht hE2 (λk B h=>(F6 hbk h).2);refine⟨_,J (u0.ak8 (Fa c.n aW nx)),_,_,λk hk=>by simp[sC,hk],d_ _ _,λz hz=> ?_,hfin,hk3⟩;cases hz;rw[SV.abd,show(λk=>sC nx E (Ren.E c.n r2 E1) (Fa c.n aW nx k))=Ren.E c.n r2 E1 from funext hρ,g3 u rfl]
       have:=za r2 E1 hle2;simp only[SV.vals,List.cons.injEq,and_true] at this;exact this.symm
end
end Sx
section
open Go Sx
set_option maxRecDepth 20000
structure Wy where
 root:h_
 n:Nat
 f:Nat->h_
 z:Bool
 o:Nat
 c:Nat
 u:Nat
def Wy.sb (w:Wy)(key u:Nat)(e:SV):SB:=.cells [.str I w.root,.cT key 1 w.z w.o 0 w.n w.c,.int .i64 I u,e] 4 188
def Wy.view (w:Wy):SB:=.view w.z w.o w.n [.str w.f]
structure Wy.Ok (w:Wy):Prop where
 n:w.n<=200
 f: ∀ i,i<w.n->(w.f i).length<=1000
 u:w.u<=w.n
def DW (w:Wy)(h:h_):Bool:=M ((w.u:Int)<(w.n:Int))&&(M (bg (w.f w.u)=h)&&bM (w.f w.u))
def aAN (u:Nat):SB:=.cells [.int .i64 I u,.iface 30 (.int .i64 H 10)] 2 186
def aAO (k:Nat):SV:=.iface 184 (.ptr k H 0)
def aAM (w:Wy):ng:=.ret (.dr [jm,.bool H I]) [(0,w.sb 1 w.u (aAO 2)),(2,aAN w.u)]
def aBH (w:Wy)(h:h_):ng:=.fork (DW w h) λb=>match b with
 | true=>.ret (.dr [(getD (w.f w.u)).sv,.bool H H]) [(0,w.sb 1 (w.u+1) .cj)]
 | false=>aAM w
def aCu (q:h_->Prop)(Fg:Wy->h_->ng):mg :={G:=Wy×h_,n:=2,N:=3,pre:=λx=>x.1.Ok/\q x.2,args:=λx=>[.ptr 0 H 0,.str I x.2],mem:=λx=>[(0,x.1.sb 1 x.1.u .cj),(1,x.1.view)],Fg:=λx=>Fg x.1 x.2}
def abN:mg:=aCu (λ_=>True) aBH
noncomputable def runM (cfg:iG)(f:Nat)(fn:Func)(c:mg)(x:c.G):VC:=lZ O (calling O cfg 20) [] Ny (cfg.bU f) cfg.rounds fn (c.args x) (c.mem x) c.n (c.fit x)
def preB (p s:h_):Bool:=M (p.length<=s.length)&&M (s.take p.length=p)
def Nd.again (x:Nd):Nd:={k:=x.k,p:=x.p,v:=x.v,r:=fun(i:Nat)=>[x.r 0,x.r 1,x.r 2,x.r 3,x.r 4,x.r 5,x.r 6,x.r 7,x.r 8,x.r 9,x.r 10,x.r 11,x.r 12,x.r 13,x.r 14,x.r 15].getD i []}
def kq (x:Nd):List SV:=.int .i64 I x.k::.str I x.p::.str I x.v::Qy x.r
def zeroCells:List SV:=[.int .i64 H 0,.str H [],.str H [],.str H [],.str H [],.str H [],.str H [],.str H [],.str H [],.str H [],.str H [],.str H [],.str H [],.str H [],.str H [],.str H [],.str H [],.str H [],.str H []]
section
variable (n : Nat) (s : h_) (v : SV) (z : Nd) (B : SB) (x : Wy × h_) (y : Nat-> Nat)
abbrev Ug:=NI x.1.u
abbrev Z0:=Bk (DW x.1 x.2) False (aT (∀(a:Nat->Nat),SV.val a v=SV.val a jm) (Er I) (Er 4) (Er x.1.root) (aC (Er x.1.z) (Er x.1.o) bA (Er x.1.n) (Er x.1.c)) (Er (Ug x)) bA (Sr B) True)
abbrev rJ:=SV.val y (SV.agg (kq z))
abbrev rG:=SV.val y (Nd.sv z)
abbrev i9:=Er H
abbrev arq:=SV.cT 1 1 x.1.z x.1.o 0 x.1.n x.1.c
abbrev rH:=NI (aB n)
abbrev aqg:=aY (dD (Ug x)) (gK (∀(a:Nat->Nat),rJ (getD (x.1.f (dR (Ug x)))) a=rG (getD (x.1.f x.1.u)) a) i9 (bH 4 (SB.cells (fz (aA x.1.root) (arq x) (bF (rH x.1.u)) SV.cj W) 4 188) (fz (aA x.1.root) (arq x) (bF (Ug x+1)) SV.cj W) 188)) False (DW x.1 x.2)
abbrev Ii:=x.1.f (dR (Ug x))
abbrev PJ:=NI x.1.u
abbrev PV:=dB (Wy.sb x.1 1 x.1.u SV.cj)
abbrev uN:=fk 9223372036854775808 s
end
theorem atj (x:Wy×h_):VC.holds (runM N1 157 ct abN x)=((fun(a:SV)=>(fun(b:SB)=>dM (NI x.1.n) (PJ x) (Z0 a b x) (az (cw x.1.n (PJ x)) (cQ x.1.o (fO x.1.n (PJ x))) (True/\ofQ [Ii x]) (aX (Z0 a b x) (az (cw x.1.n (PJ x)) (cQ x.1.o (fO x.1.n (PJ x))) (aY (uN (Ii x)/\bS (Ii x)) (az (dB (Wy.view x.1)) (PV x) (PV x) (aqg x)) (az (dB (Wy.view x.1)) (PV x) (PV x) (Z0 a b x)) (bM (Ii x))) (aC (dB (Wy.view x.1)) (PV x) (PV x) (uN (Ii x)/\bS (Ii x)) (Bk (bM (Ii x)) (aqg x) (Z0 a b x)))) (ew (qw [Ii x]) x.2)))) (SB.cells (eC (bF (PJ x)) (SV.iface 30 (bq 10))) 2 186)) lI):=by kernel_rfl
theorem zh (a:h_):flat [a]=a:=by simp[flat]
theorem azM {a:h_}(h:a.length<=1099511627776):ofQ [a]:=⟨by rw[zh];omega,by simp⟩
attribute [local irreducible] bg bM getD
theorem afj {x:Wy×h_}(h:x.1.Ok):au (runM N1 157 ct abN x):=by
 refine au.j7 (atj x) (by delta Fk Bk I6 Ix Sr Er NI fu cQ eC bF bq aj bH aC az dK dM dD gK aA fz aY cw aX aB bA aT dR bS aG dB fk kO tu lI ew fO qw Ug Z0 rJ rG i9 arq rH aqg Ii PJ PV uN;exact rfl) ?_;dsimp only;obtain⟨w,t⟩:=x;have h:w.Ok:=h;have hu:=h.u;have hn:=h.n;simp only[Int.toNat_natCast,ec,zh];by_cases h1:(w.u:Int)<w.n
 ·have hf:=h.f w.u (by omega);have d1:M ((w.n:Int)<=w.u)=false:=l_ (by omega);have hq:ofQ [w.f w.u]:=azM (by omega);cases h2:M (bg (w.f w.u)=t)<;>cases h3:bM (w.f w.u)
  all_goals
   have ht:DW w t=(M ((w.u:Int)<w.n)&&(M (bg (w.f w.u)=t)&&bM (w.f w.u))):=rfl;rw[k_ h1,h2,h3] at ht;simp only[d1,ht,bn,bl,c5,Bool.and_true,V,Z,false_imp_iff,forall_const,true_and,and_true,hq]
   repeat' first
    | omega
    | exact aa.refl _
    | refine L ?_ ?_
    | exact λ_=>rfl
    | rfl
    | exact trivial
    | fail
 ·have d1:M ((w.n:Int)<=w.u)=true:=k_ (by omega);have ht:DW w t=false:=by rw[DW,l_ h1];rfl
  simp only[d1,ht,V,Z,false_imp_iff,forall_const,true_and,and_true]
  repeat' first
   | omega
   | exact aa.refl _
   | refine L ?_ ?_
   | exact λ_=>rfl
   | rfl
   | exact trivial
   | fail
theorem avY:aq O 157 (dI abN) :=jT (n:=20) Tryz.func157 (by kernel_rfl) (by kernel_rfl) abN λx hx=>⟨N1,adk,rfl,afj hx.1⟩
noncomputable def agN:List (FuncId×PT):=(157,dI abN)::(151,bZ wk)::OZ
theorem adW:aR O (λf=>av f agN):=.cons avY (de _) (.cons agv (bK _) Et)
end
section
open Go Sx
set_option maxRecDepth 20000
section
attribute [local irreducible] bg bM getD cS cH af DW
end
def Wy.on (w:Wy)(u:Nat):Wy:={w with u:=u}
structure Wh where
 y:Nd
 p:h_
 u:Nat
 b:Bool
 v:h_
def Nd.Good (x:Nd):Prop:=(x.k=2->x.p≠[])/\Fits x
def By (st:Sx.St)(i:Nat):Nat:=match slot st.tmps i with
 | some (.ptr k _ _)=>k
 | _=>0
theorem sW {s:h_}(h:bM s=H):aZ (getD s)=true:=by unfold bM Oo at h;simp only[R] at h;exact h.2.1
theorem SJ {t:h_}(h:cS t=H):aZ (getD t)=true:=by rw[AI,R,R] at h;exact sW h.2.1
end
section
open Go Sx
set_option maxRecDepth 20000
structure Sp where
 fr:h_
 to:h_
 n:Nat
 f:Nat->h_
 z:Bool
 o:Nat
 c:Nat
 ad:h_->Bool
 ag:h_->Int
structure Sp.Ok (w:Sp):Prop where
 n:w.n<=200
 f: ∀ i,i<w.n->(w.f i).length<=1000
 a: ∀ h,w.ad h=H->0<=w.ag h/\w.ag h<w.n
 fr:w.fr.length<=1000
 to:w.to.length<=1000
structure Wk where
 ud:h_->Bool
 us:h_->Int
 ns:List h_
 lk:Nat
 fs:List (h_×h_)
def Wk.used (s:Wk)(h:h_):Int:=dflt (s.ud h) (s.us h)
structure Wk.Small (s:Wk):Prop where
 u: ∀ h,0<=s.used h/\s.used h<=1000
 ns:s.ns.length<=1000
 lk:s.lk<=1000
 fs:s.fs.length<=1000
def Sp.at (w:Sp)(h:h_):h_:=w.f (w.ag h).toNat
def gF (w:Sp)(h:h_):Bool:=w.ad h&&bM (w.at h)
def Wk.take (w:Sp)(s:Wk)(h:h_):Wk:={s with ud:=kQ s.ud h,us:=qh s.us h (s.used h+1),ns:=if s.used h=0 then s.ns++[w.at h] else s.ns}
def xW (l:List h_):bh:=.str λi=>l.getD i []
def nj (l:List (h_×h_)):bh:=.str λi=>(l.getD i ([],[])).1
def nk (l:List (h_×h_)):bh:=.str λi=>(l.getD i ([],[])).2
def amc (w:Sp)(s:Wk)(kn kf c1 c2:Nat):SB:=.cells [.str I w.fr,.str I w.to,.func (.func 50) [] [.ptr 4 H 0,.ptr 6 H 0],.map 1,.bY kn 1 H 0 s.ns.length c1,.int .i64 I s.lk,.bY kf 2 H 0 s.fs.length c2] 7 92
def Nb (s:Wk):SB:=.fmap s.ud (.int .i64 s.us) Q
def mQ (s:Wk)(c1:Nat):SB:=.rows H s.ns.length [xW s.ns] I (c1*1) 9
def kD (s:Wk)(c2:Nat):SB:=.rows H s.fs.length [nj s.fs,nk s.fs] I (c2*2) 50
def Sp.own (w:Sp):Mem:=[(4,.cells [.map 5] 1 90),(5,.fmap w.ad (.int .i64 w.ag) Q),(6,.cells [.cT 7 1 w.z w.o 0 w.n w.c] 1 29)]
def Sp.view (w:Sp):SB:=.view w.z w.o w.n [.str w.f]
structure G0 where
 w:Sp
 s:Wk
 c1:Nat
 c2:Nat
def G0.mem (g:G0):Mem:=[(0,amc g.w g.s 2 3 g.c1 g.c2),(1,Nb g.s),(2,mQ g.s g.c1),(3,kD g.s g.c2)]++g.w.own++[(7,g.w.view)]
def Sp.back (w:Sp)(s:Wk)(c1 c2:Nat):Mem:=[(0,amc w s 8 9 c1 c2),(1,Nb s),(8,mQ s c1),(9,kD s c2)]++w.own
def aAb (v:SV)(w:Sp)(s:Wk):ng:=.all (Nat×Nat) λc=>.req (s.ns.length<=c.1/\s.fs.length<=c.2) (.ret v (w.back s c.1 c.2))
def afg (f:SV->SV):ng:=.all (h_×h_) λy=>.ret (f (.iface 87 (.ptr 10 H 0))) [(10,.cells [.str I y.1,.str I y.2] 2 207)]
def snC (A:Type)(args:A->List SV)(pre:G0->A->Prop)(Fg:G0->A->ng):mg :={G:=G0×A,n:=8,N:=11,pre:=λx=>x.1.w.Ok/\x.1.s.Small/\(x.1.s.ns.length<=x.1.c1/\x.1.s.fs.length<=x.1.c2)/\pre x.1 x.2,args:=λx=>.ptr 0 H 0::args x.2,mem:=λx=>x.1.mem,Fg:=λx=>Fg x.1 x.2}
def ai7 (g:G0)(h:h_):ng:=.fork (gF g.w h) λb=>match b with
 | true=>aAb (.dr [(getD (g.w.at h)).sv,.cj]) g.w (g.s.take g.w h)
 | false=>afg λv=>.dr [jm,v]
def Jg:mg:=snC h_ (λh=>[.str I h]) (λ_ _=>True) ai7
def alv (g:G0)(t:h_):ng:=.fork (cS t) λb=>match b with
 | true=>aAb (.dr [(getD t).sv,.cj]) g.w g.s
 | false=>.fork (cH t) λb=>match b with
   | true=>ai7 g (af t)
   | false=>afg λv=>.dr [jm,v]
def Ad:mg:=snC h_ (λt=>[.str I t]) (λ_ t=>t.length<9223372036854775808) alv
def hasB (fr to p:h_):Bool:=!Op.bytesLess p (ak fr)&&(an p (ak to)||decide (p=ak to))
def dj (fr to p:h_):Bool:=(an p (ak to)||decide (p=ak to))&&(!Op.bytesLess p (ak fr)||preB p (ak fr))
def oZ (p:h_):Bool:=M ((p.length:Int)%2=0)&&ig p
def agX (p:h_):fC:=.fork (oZ p) λb=>match b with
 | true=>.ret (.dr [.str I (cC p),.bool H H])
 | false=>.ret (.dr [.str H [],.bool H I])
def Np:List SV->Option (Prop×SV)
 | [.agg [.str I fr,.str I to],.str I p]=>J (fr.length<=1000/\to.length<=1000,.bool I (hasB fr to p))
 | _=>Q
def EB:List SV->Option (Prop×SV)
 | [.agg [.str I fr,.str I to],.str I p]=>J (fr.length<=1000/\to.length<=1000,.bool I (dj fr to p))
 | _=>Q
def wz:List SV->Option (Prop×fC)
 | [.str I p]=>J (p.length<1099511627776,agX p)
 | _=>Q
noncomputable def mX:List (FuncId×PT):=(58,aI qJ)::(170,aI AS)::agN
theorem gT:aR O (λf=>av f mX):=.cons ZF (aE _) (.cons Tn (aE _) adW)
noncomputable def y7:iG:={bQ with cO:=λf=>av f mX}
theorem Ov:Sx.Good O y7:=.of bI gT aO
section
variable (n : Nat) (s t u : h_) (p q : Prop) (z : Nat × Nat) (v : SV) (B : SB) (x : G0 × h_) (g : Bool) (f : Sp) (y : Wk) (h o : List (h_ × h_)) (E F : UInt8) (A : h_ × h_) (C : h_-> Bool) (D : h_-> Int)
abbrev C2:h_×h_->Prop:=λ_=>False
abbrev jn:=x.1.s
abbrev vC:=SB.cells (eC (aA A.1) (aA A.2)) 2 207
abbrev iQ:=x.1.w
abbrev zH:=∀(a:Nat->Nat),SV.val a v=SV.val a jm
abbrev Iq:=eY 1 (SV.map 5) W 90
abbrev x6:=x.1.c2
abbrev uj:=x.1.c1
abbrev lp:h_:=E::F::s
abbrev ahr:=SV.str H (110::lp (lp (lp (lp (ff 58) 114 101) 104 101) 32 116) 111 116)
abbrev ahx:=SV.str H (110::lp (lp (lp (ff 58) 100 101) 110 111) 111 32)
abbrev aaq:List h_:=if Wk.used (jn x) x.2=0 then(jn x).ns++[Sp.at (iQ x) x.2] else(jn x).ns
abbrev cD:=a_ y.fs
abbrev oJ:=cD (jn x)
abbrev eO:=SB.fmap C (iO.int IntKind.i64 D) Q
abbrev sL:=eO (iQ x).ad (iQ x).ag
abbrev aiC:=dflt ((iQ x).ad x.2) ((iQ x).ag x.2)
abbrev TY:=(iQ x).f (dR (aiC x))
abbrev tr:=(iQ x).n
abbrev TZ:=eY 1 (SV.cT 7 1 (iQ x).z (iQ x).o 0 (tr x) (iQ x).c) W 29
abbrev eX:=NI y.lk
abbrev rV:=eX (jn x)
abbrev gy:=aa B (Nb y)
abbrev aq1:=gy (eO (kQ (jn x).ud x.2) (qh (jn x).us x.2 (dflt ((jn x).ud x.2) ((jn x).us x.2)+1))) (Wk.take (iQ x) (jn x) x.2)
abbrev ahR:=dflt ((jn x).ud x.2) ((jn x).us x.2)
abbrev rW:=(iQ x).fr
abbrev rX:=(iQ x).to
abbrev ahZ:=Wk.take (iQ x) (jn x) x.2
abbrev mM:=a_ (jn x).ns
abbrev jK:List bh:=[nj h,nk o]
abbrev bG:=n*2
abbrev Uj:=bN (oJ x) (bG (x6 x)) 50 (jK (jn x).fs (jn x).fs)
abbrev FV:=a_ (aaq x)
abbrev IW:=fF (FV x) z.1 (oJ x) z.2
abbrev Um:=aj bA (Er (oJ x)) (x6 x=z.2)
abbrev mD:=getD (Sp.at f s)
abbrev arS:=∀(a:Nat->Nat),rJ (getD (TY x)) a=rG (mD x.2 (iQ x)) a
abbrev Up:=bN (mM x) (aF (uj x)) 9 [xW (jn x).ns]
abbrev gz:=aa B (kD y n)
abbrev ar2:=aC (gz z.2 (Uj x) (ahZ x)) (Sr Iq) (Sr (sL x)) (Sr (TZ x)) True
abbrev gu:=aa B (mQ y n)
abbrev jY:=Bk (gF f s) p q
abbrev jZ:=Er 7
abbrev Dp:=gb (dj s t u)
abbrev uP:=an s (ak t)
abbrev ju:=ai v (gb g)
end
theorem awD (fr to p:h_):VC.holds (jd y7 43 cB [.agg [.str I fr,.str I to],.str I p] (.ret (.bool I (hasB fr to p))))=(cE (bS fr) (bS to/\ju (SV.bool (I&&I) (uP p to||ew p (ak to))) (hasB fr to p)) (ju fR (hasB fr to p)) (uP p fr)):=by kernel_rfl
theorem al7 (fr to p:h_):VC.holds (jd y7 42 cy [.agg [.str I fr,.str I to],.str I p] (.ret (.bool I (dj fr to p))))=(cE (bS to) (ai fR (Dp fr to p)) (cE (bS fr) (ai nM (Dp fr to p)) (dM (bB p) (sA fr) (aj nT (0<=bB p) (bB p<=sA fr)/\ai (SV.bool (uv&&I) (ew (bT (ak fr) Q (cc 13) 0 (bB p)) p)) (Dp fr to p)) (ai fR (Dp fr to p))) (uP p fr)) (uP p to||ew p (ak to))):=by kernel_rfl
theorem awE (p:h_):VC.holds (jd y7 130 b_ [.str I p] (agX p))=(cE (zS p) (bP jl (iI (cC p)) jl jl (oZ p)) (cE (dA p) (bP jl (iI (cC p)) jl jl (oZ p)) (bS p/\bP (iI (cC p)) (iI (cC p)) (iI (cC p)) jl (oZ p)) (ig p)) (cJ (bB p%2) 0)):=by kernel_rfl
theorem atr (x:G0×h_):VC.holds (runM y7 83 cL Jg x)=((fun(a:SV)=>aX (jY x.2 (∃(a:Nat×Nat),hJ (IW a x)) (∃(b:h_×h_),gK (zH a) bA (bH 2 (vC b) (eC ahr (aA x.2)) 207)) (iQ x)) (az (cw (tr x) (aiC x)) (cQ (iQ x).o (fO (tr x) (aiC x))) (uN (TY x)/\bS (TY x)) (Bk (bM (TY x)) (bE (ahR x) 0 (aj (gL (mM x) (mM x) 2 (mM x) 16 (mM x)) (Er (aF (uj x))) (∀(a:Nat),aJ (aB (mM x)) a (aY (dD (ahR x)) (∃(b:Nat×Nat),cI (IW b x) (arS x) jZ (Er (rW x)) (Er (rX x)) bA (aT bA (fN (aB (mM x)) (FV x) a b.1) True (Er (rV x)) (Um b x) True (aq1 x) (eZ (aB (mM x)) (aF a) (λa=>dg a (mM x) a (mM x) (aU a (jn x).ns) (TY x)) (mQ (ahZ x) b.1) 9) (ar2 b x))) (Exists C2) (gF (iQ x) x.2)))) (aY (dD (ahR x)) (∃(a:Nat×Nat),cI (IW a x) (arS x) jZ (Er (rW x)) (Er (rX x)) bA (aT bA (fN (mM x) (FV x) (uj x) a.1) True (Er (rV x)) (Um a x) True (aq1 x) (gu a.1 (Up x) (ahZ x)) (ar2 a x))) (Exists C2) (gF (iQ x) x.2))) (jY x.2 (∃(a:Nat×Nat),hJ (IW a x)) (∃(b:h_×h_),gK (zH a) bA (bH 2 (vC b) (eC ahx (aA x.2)) 207)) (iQ x)))) ((iQ x).ad x.2)) lI):=by kernel_rfl
theorem EO {l l' a:Bool}(h:a=b):ai (.bool l a) (.bool l' b):=by subst h;exact λ_=>rfl
theorem aBw (h:(!b)=I):b=true:=by cases b with
 | true=>rfl
 | false=>cases h
theorem aBx (h:(!b)=H):b=false:=by cases b with
 | false=>rfl
 | true=>cases h
theorem ajY (fr to p:h_)(h1:fr.length<=1000)(h2:to.length<=1000):au (jd y7 43 cB [.agg [.str I fr,.str I to],.str I p] (.ret (.bool I (hasB fr to p)))):=by
 refine au.j7 (awD fr to p) (by delta Bk fR gb aX bS cE ew uP ju;exact rfl) ?_;refine⟨by omega,λh=>⟨by omega,EO ?_⟩,λh=>EO ?_⟩
 ·rw[hasB,h];rfl
 ·rw[hasB,h];rfl
theorem Zi (fr to p:h_)(h1:fr.length<=1000)(h2:to.length<=1000):au (jd y7 42 cy [.agg [.str I fr,.str I to],.str I p] (.ret (.bool I (dj fr to p)))):=by
 refine au.j7 (al7 fr to p) (by delta Fk Bk NI gO bx bB aj dM fR nT uv cc gb aX nM bS cE sA ew Dp uP;exact rfl) ?_;refine⟨by omega,λh=>EO ?_,λh=>⟨by omega,λg=>EO ?_,λg=>⟨λl=>⟨⟨by omega,by omega,i_ l⟩,EO ?_⟩,λl=>EO ?_⟩⟩⟩
 ·have h:(an p (ak to)||decide (p=ak to))=false:=aBx h;rw[dj,h];rfl
 all_goals
  have h:(an p (ak to)||decide (p=ak to))=true:=aBw h;rw[dj,h,g]
 ·rfl
 ·have l:M (p.length<=(ak fr).length)=true:=k_ (by have:=i_ l;omega);rw[preB,l];rfl
 ·have l:M (p.length<=(ak fr).length)=false:=l_ (by have:=j_ l;omega);rw[preB,l];rfl
theorem aes (p:h_)(hp:p.length<1099511627776):au (jd y7 130 b_ [.str I p] (agX p)):=by
 refine au.j7 (awE p) (by delta Bk NI fu bx bB cP aj fQ cU aA fR dU cJ bP dA aX zS pZ jl bS gI cE iI;exact rfl) ?_;have S: ∀ v:SV,ai v v:=λ_ _=>rfl;have e:oZ p=(M ((p.length:Int)%2=0)&&ig p):=rfl;cases h1:M ((p.length:Int)%2=0)<;>cases h2:ig p
 all_goals
  rw[h1,h2] at e;simp only[e,bn,bl,Bool.true_and,c6,V,Z,false_imp_iff,forall_const,true_and,and_true,S];omega
theorem aou:aq O 43 (aI Np):=by
 refine fh (ee (n:=20) Tryz.func43 (by kernel_rfl) (by kernel_rfl) ?_);intro args p a h hp;unfold Np at h;split at h
 ·cases h;exact⟨_,Ov,rfl,rfl,ajY _ _ _ hp.1 hp.2⟩
 ·cases h
theorem Zj:aq O 42 (aI EB):=by
 refine fh (ee (n:=20) Tryz.func42 (by kernel_rfl) (by kernel_rfl) ?_);intro args p a h hp;unfold EB at h;split at h
 ·cases h;exact⟨_,Ov,rfl,rfl,Zi _ _ _ hp.1 hp.2⟩
 ·cases h
theorem agY:aq O 130 (bZ wz):=by
 refine ee (n:=20) Tryz.func130 (by kernel_rfl) (by kernel_rfl) ?_;intro args p a h hp;unfold wz at h;split at h
 ·cases h;exact⟨_,Ov,rfl,λb=>by cases b<;>exact rfl,aes _ hp⟩
 ·cases h
theorem tM {z:Bool}{n':Nat}{cs cs':List bh}{tot tot':Nat}(hn:n=n')(ht:tot=tot')(hl:cs.length=cs'.length)
  (h: ∀(k:Nat) (c c':bh),cs[k]?=J c->cs'[k]?=J c'->∀ i,i<n->∀ E,(c'.at i).val E=(c.at i).val E):aa (.rows z n cs I tot ty) (.rows z n' cs' I tot' ty):=by
 subst hn;subst ht;refine aa.of rfl rfl λhno=>⟨hno,λE o ⟨c,fr,h1,h2,h3,h4,h5⟩=>⟨c,fr,h1,h2,by rw[← hl];exact h3,h4,λi k col hi hk=> ?_⟩,id⟩
 have hk0:k<cs.length:=by rw[hl];exact(List.getElem?_eq_some_iff.1 hk).1
 rw[h k _ col (c8 hk0) hk i hi E,← hl];exact h5 i k _ hi (c8 hk0)
theorem DR {α:Type}(l:List α)(x d:α)(i:Nat)(h:i<l.length+1):(l++[x]).getD i d=if i<l.length then l.getD i d else [x].getD (i-l.length) d:=by
 simp only[List.getD_eq_getElem?_getD];by_cases h1:i<l.length
 ·rw[o_ h1,List.getElem?_append_left h1]
 ·rw[p_ h1,List.getElem?_append_right (by omega)]
theorem Wz {l:List h_}{x:h_}{c:Nat}:aa (.rows H (l.length+1) [.str λj=>if j<l.length then l.getD j [] else l9 [x] (j-l.length)] I (c*1) ty) (.rows H (l++[x]).length [xW (l++[x])] I (c*1) ty):=by
 refine tM (by simp) rfl rfl λk c c' h1 h2 i hi E=> ?_;cases k with
 | zero =>simp only[List.getElem?_cons_zero,Option.some.injEq] at h1 h2;subst h1;subst h2;simp only[xW,bh.at,SV.val,DR l x [] i hi];rfl
 | succ k=>simp at h1
theorem xS {a b:h_}:aa (SB.cells [SV.str H a,SV.str I b] 2 ty) (SB.cells [SV.str I (a,b).1,SV.str I (a,b).2] 2 ty):=aa.cells (λ_=>rfl) rfl
theorem atW.zero (E:Nat->Nat):SV.val E (SV.agg [SV.int .i64 H 0,SV.str H [],SV.str H [],SV.str H [],SV.str H [],SV.str H [],SV.str H [],SV.str H [],SV.str H [],SV.str H [],SV.str H [],SV.str H [],SV.str H [],SV.str H [],SV.str H [],SV.str H [],SV.str H [],SV.str H [],SV.str H []])=SV.val E jm:=rfl
section
attribute [local irreducible] bM getD
theorem Xa {x:G0×h_}(hw:x.1.w.Ok)(hs:x.1.s.Small)(hc:x.1.s.ns.length<=x.1.c1/\x.1.s.fs.length<=x.1.c2):au (runM y7 83 cL Jg x):=by
 refine au.j7 (atr x) (by delta Fk Bk I6 Ix Sr Er NI fu aJ cQ aF eC bq aj bH aC az bE dK dD gK aA eY fz dy aY cw aX bN bJ aB b8 gZ cv bA br cI nG fN eZ dg fF aT dR ff bS aG fk aU kO tu lI hJ fO gL rJ rG uN C2 jn vC iQ zH Iq x6 uj lp ahr ahx aaq cD oJ eO sL aiC TY tr TZ eX rV gy aq1 ahR rW rX ahZ mM jK bG Uj FV IW Um mD arS Up gz ar2 gu jY jZ;exact rfl) ?_;obtain⟨⟨w,s,c1,c2⟩,t⟩:=x;dsimp only at hw hs hc ⊢;have hu:=hs.u t;have hn:=hs.ns;have eu:dflt (s.ud t) (s.us t)=s.used t:=rfl;have el:gF w t=(w.ad t&&bM (w.f (w.ag t).toNat)):=rfl;have ea:w.at t=w.f (w.ag t).toNat:=rfl;obtain⟨hc1,hc2⟩:=hc;have ez:=atW.zero;simp only[eu,ec];cases hA:w.ad t with
 | false =>rw[hA] at el;simp only[el,c6,bl,V,Z,false_imp_iff,forall_const,true_and,and_true];exact⟨(_,_),ez,xS⟩
 | true =>
   obtain⟨b1,b2⟩:=hw.a t hA;have hf:=hw.f (w.ag t).toNat (by omega);rw[hA] at el;have ed:dflt H (w.ag t)=w.ag t:=rfl;simp only[ed,bn,V,false_imp_iff,forall_const,true_and];refine⟨⟨b1,b2⟩,by omega,⟨by omega,by omega⟩,λhB=> ?_,λhB=> ?_⟩
   ·rw[hB] at el;simp only[el,Bool.and_self,Z,false_imp_iff,forall_const,and_true];refine⟨λh0=>⟨⟨Nat.le_refl _,by omega,by omega⟩,λc hcc=>⟨by omega,?_⟩⟩,λh0=>⟨by omega,?_⟩⟩
    ·have h0:=i_ h0;rw[o_ h0,List.length_append];have h1:(Wk.take w s t).ns=s.ns++[w.f (w.ag t).toNat]:=by show(if s.used t=0 then _ else _)=_;rw[o_ h0];rfl
     have hns:aa (.rows H (s.ns.length+1) [.str λj=>if j<s.ns.length then s.ns.getD j [] else l9 [w.f (w.ag t).toNat] (j-s.ns.length)] I (c*1) 9) (mQ (Wk.take w s t) c):=by unfold mQ;rw[h1];exact Wz
     have hl:s.ns.length+[w.at t].length<=c:=hcc;refine⟨(c,c2),?_⟩
     repeat' first
      | assumption
      | exact xS
      | exact aa.refl _
      | refine L ?_ ?_
      | exact λ_=>rfl
      | rfl
      | omega
      | exact trivial
      | fail
    ·have h0:=j_ h0;rw[p_ h0];have h1:(Wk.take w s t).ns=s.ns:=by show(if s.used t=0 then _ else _)=_;rw[p_ h0]
     have hns:aa (.rows H s.ns.length [xW s.ns] I (c1*1) 9) (mQ (Wk.take w s t) c1):=by unfold mQ;rw[h1];exact aa.refl _
     refine⟨(c1,c2),?_⟩
     repeat' first
      | assumption
      | exact xS
      | exact aa.refl _
      | refine L ?_ ?_
      | exact λ_=>rfl
      | rfl
      | omega
      | exact trivial
      | fail
   ·rw[hB] at el;simp only[el,c5,V,false_imp_iff,forall_const,true_and];exact⟨(_,_),ez,xS,trivial⟩
end
theorem alx:aq O 83 (dI Jg) :=jT (n:=20) Tryz.func83 (by kernel_rfl) (by kernel_rfl) Jg λx hx=>⟨y7,Ov,rfl,Xa hx.1 hx.2.1 hx.2.2.1⟩
noncomputable def V8:List (FuncId×PT):=(83,dI Jg)::(43,aI Np)::(42,aI EB)::(130,bZ wz)::mX
theorem Kx:aR O (λf=>av f V8):=.cons alx (de _) (.cons aou (aE _) (.cons Zj (aE _) (.cons agY (bK _) gT)))
noncomputable def aga:iG:={bQ with cO:=λf=>av f V8}
theorem azd:Sx.Good O aga:=.of bI Kx aO
end
section
open Go Sx
set_option maxRecDepth 20000
section
variable (n : Nat) (y : Nat × Nat) (v : SV) (f g : Nat-> h_) (B : SB) (x : G0 × h_) (h o : Sp) (z : List (h_ × h_))
abbrev wX:=Sr B/\True
abbrev ug:=af x.2
abbrev ahj:=SV.str H (lp (lp (lp (ff 58) 101 102) 32 114) 110 111)
abbrev nt:=getD x.2
abbrev Mf:List h_:=if Wk.used (jn x) (ug x)=0 then(jn x).ns++[Sp.at (iQ x) (ug x)] else(jn x).ns
abbrev Qd:=SB.view (iQ x).z (iQ x).o (tr x) (bJ (iQ x).f W)
abbrev aaw:=eO (kQ (jn x).ud x.2) (qh (jn x).us x.2 (Wk.used (jn x) x.2+1))
abbrev aaM:=eO (jn x).ud (jn x).us
abbrev Qk:=Wk.take (iQ x) (jn x) (ug x)
abbrev arj:=∃(a:h_×h_),gK (zH v) bA (bH 2 (vC a) (eC ahj (aA x.2)) 207)
abbrev gD:=bJ f (bJ g W)
abbrev jg:=List.getD z n (W,W)
abbrev Mx:=bN (oJ x) (bG y.2) 50 (gD (λa=>(jg a (jn x).fs).1) (λa=>(jg a (jn x).fs).2))
abbrev aaW:=cY (FV x) (aF y.1) (λa=>aU a (aaq x)) 9
abbrev Qn:=fF (a_ (Mf x)) y.1 (oJ x) y.2
abbrev Qr:=fF (mM x) y.1 (oJ x) y.2
abbrev aiP:=gK (Sp.Ok (iQ x)) (Wk.Small (jn x)) (fF (mM x) (uj x) (oJ x) (x6 x))
abbrev rL:=h.c=o.c
end
theorem afC (x:G0×h_):VC.holds (runM aga 132 b! Ad x)=((fun(a:SV)=>(fun(b:SB)=>aY (yC x.2) (Bk (cS x.2) (∃(a:Nat×Nat),Qr a x/\aT (∀(a:Nat->Nat),rJ (nt x) a=rG (nt x) a) jZ (Er (rW x)) (Er (rX x)) bA bA (aj bA (Er (mM x)) (uj x=a.1)) True (aT (Er (rV x)) (Um a x) True (Sr (Nb (jn x))) (gu a.1 (Up x) (jn x)) (gz a.2 (Uj x) (jn x)) (Sr Iq) (Sr (sL x)) (wX b))) (Bk (cH x.2) (jY (ug x) (∃(a:Nat×Nat),Qn a x/\aT (∀(a:Nat->Nat),rJ (nt x) a=rG (mD (ug x) (iQ x)) a) jZ (Er (rW x)) (Er (rX x)) bA bA (fN (mM x) (a_ (Mf x)) (uj x) a.1) True (aT (Er (rV x)) (Um a x) True (gy (aaM x) (Qk x)) (gu a.1 (Up x) (Qk x)) (gz a.2 (Uj x) (Qk x)) (Sr Iq) (Sr (sL x)) (wX b))) (Exists C2) (iQ x)) (Exists C2))) (aY (cW x.2) (∃(c:G0×h_),cK (aiP c) bA (ug x=c.2) jZ (rW x=rW c) (aT (rX x=rX c) bA bA (fN (mM x) (mM c) (uj x) (uj c)) True (rV x=rV c) (fN (oJ x) (oJ c) (x6 x) (x6 c)) True (aT (gy (aaM x) (jn c)) (gu (uj c) (Up x) (jn c)) (gz (x6 c) (Uj x) (jn c)) kL (aa (sL x) (sL c)) kL (aC ((iQ x).z=(iQ c).z) ((iQ x).o=(iQ c).o) bA (tr x=tr c) (rL (iQ x) (iQ c))) (aa (Qd x) (Qd c)) (jY c.2 (∀(a:Nat×Nat),IW a c->Bk (cS x.2) (∃(d:Nat×Nat),aj (Qr d x) (∀(a:Nat->Nat),rJ (mD c.2 (iQ c)) a=rG (nt x) a) (aT jZ (rW c=rW x) (rX c=rX x) bA bA (fN (FV c) (mM x) a.1 d.1) True (rV c=rV x) (aT (nG (oJ c) (oJ x) (ur a d)) True (gy (aaw c) (jn x)) (gu d.1 (aaW a c) (jn x)) (gz d.2 (Mx a c) (jn x)) (Sr Iq) (aa (sL c) (sL x)) (aa (TZ c) b) True))) (Bk (cH x.2) (jY (ug x) (∃(d:Nat×Nat),aj (Qn d x) (∀(a:Nat->Nat),rJ (mD c.2 (iQ c)) a=rG (mD (ug x) (iQ x)) a) (aT jZ (rW c=rW x) (rX c=rX x) bA bA (fN (FV c) (a_ (Mf x)) a.1 d.1) True (rV c=rV x) (aT (nG (oJ c) (oJ x) (ur a d)) True (gy (aaw c) (Qk x)) (gu d.1 (aaW a c) (Qk x)) (gz d.2 (Mx a c) (Qk x)) (Sr Iq) (aa (sL c) (sL x)) (aa (TZ c) b) True))) (Exists C2) (iQ x)) (Exists C2))) (∀(b:h_×h_),Bk (cS x.2) (∃(a:Nat×Nat),hJ (Qr a x)) (Bk (cH x.2) (jY (ug x) (∃(a:Nat×Nat),hJ (Qn a x)) (∃(c:h_×h_),cX (zH a) bA True (vC b) (vC c)) (iQ x)) (∃(c:h_×h_),cX (zH a) bA True (vC b) (vC c)))) (iQ c))))) (Bk (cS x.2) (∃(a:Nat×Nat),hJ (Qr a x)) (Bk (cH x.2) (jY (ug x) (∃(a:Nat×Nat),hJ (Qn a x)) (arj a x) (iQ x)) (arj a x))) (cH x.2)) (cS x.2)) (TZ x)) lI):=by kernel_rfl
section
attribute [local irreducible] bM getD cS cH af gF
theorem Q0 {x:G0×h_}(hw:x.1.w.Ok)(hs:x.1.s.Small)(hc:x.1.s.ns.length<=x.1.c1/\x.1.s.fs.length<=x.1.c2)(ht:x.2.length<9223372036854775808) :
  au (runM aga 132 b! Ad x):=by
 refine au.j7 (afC x) (by delta Bk Sr Er NI fu aF eC bq aj bH aC az gK aA eY fz dy cW aY bN bJ cY bA br nG fN cK kL fF aT cX ff aG aU kO tu lI hJ yC ur rJ rG C2 jn vC iQ zH Iq x6 uj lp aaq cD oJ eO sL tr TZ eX rV gy rW rX mM jK bG Uj FV IW Um mD Up gz gu jY jZ wX ug ahj nt Mf Qd aaw aaM Qk arj gD jg Mx aaW Qn Qr aiP rL;exact rfl) ?_;obtain⟨⟨w,s,c1,c2⟩,t⟩:=x;dsimp only at hw hs hc ht ⊢;have hr:Rel 9223372036854775808 t:=⟨.inl ht,ht⟩
 have ez:=atW.zero;have done: ∀ {p q:Nat},s.ns.length<=c1->s.fs.length<=c2->p=c1->q=c2->s.ns.length<=p/\s.fs.length<=q:=λa b c d=>by subst c;subst d;exact⟨a,b⟩
 cases h1:cS t<;>cases h2:cH t<;>cases h3:gF w (af t)
 all_goals simp only[hr,ht,V,Z,false_imp_iff,forall_const,true_and,and_true]
 all_goals first
  | exact⟨(_,_),ez,xS⟩
  | refine⟨(⟨w,s,c1,c2⟩,af t),?_⟩
  | refine⟨(c1,c2),?_⟩
 all_goals simp only[h3,hw,hs,hc,V,Z,false_imp_iff,forall_const,true_and,and_true]
 all_goals
  repeat' first
   | exact aa.refl _
   | refine L ?_ ?_
   | exact λ_=>rfl
   | (intro (y:h_×h_);exact⟨y,ez,aa.refl _⟩)
   | (intro (y:Nat×Nat) hy;refine⟨y,hy,?_⟩)
   | rfl
   | exact trivial
   | fail
end
end
section
open Go Sx
set_option maxRecDepth 20000
theorem abx:aq O 132 (dI Ad) :=jT (n:=20) (fn:=b!) Tryz.func132 (by kernel_rfl) (by kernel_rfl) Ad λx hx=>⟨aga,azd,rfl,Q0 hx.1 hx.2.1 hx.2.2.1 hx.2.2.2⟩
def ki (x:Nd)(p:h_)(i:Nat):h_:=if x.k=3 then cat (cat p x.p) [UInt8.ofNat i] else cat p x.p
def p5 (w:Sp)(x:Nd)(p:h_):Bool:=!decide (x.v=[])&&(hasB w.fr w.to (cat p x.p)&&oZ (cat p x.p))
def Wk.p4 (w:Sp)(s:Wk)(x:Nd)(p:h_):Wk:={s with lk:=s.lk+1,fs:=if p5 w x p=H then s.fs++[(cC (cat p x.p),x.v)] else s.fs}
def pM (w:Sp)(s:Wk)(t:h_):Option (Nd×Wk):=if cS t=H then J (getD t,s)else if(cH t&&gF w (af t))=H then J (getD (w.at (af t)),s.take w (af t))else Q
def lK (w:Sp)(T:Wk->Nd->h_->Option Wk)(x:Nd)(p:h_)(i:Nat)(s:Wk):Option Wk :=
 if x.r i=[] then J s else bif dj w.fr w.to (ki x p i)then(match pM w s (x.r i)with
  | none=>Q
  | some (y,s')=>T s' y (ki x p i))else J s
def eE (w:Sp)(T:Wk->Nd->h_->Option Wk)(x:Nd)(p:h_):Nat->Wk->Option Wk
 | 0,s=>J s
 | i+1,s=>match eE w T x p i s with
   | none=>Q
   | some s'=>lK w T x p i s'
def qy (w:Sp):Nat->Wk->Nd->h_->Option Wk
 | 0,_,_,_=>Q
 | m+1,s,x,p=>if 400<=s.lk then Q else eE w (qy w m) x p 16 (s.p4 w x p)
def lX (w:Sp)(m:Nat)(s:Wk)(x:Nd)(p:h_):Bool:=(qy w m s x p).isSome
def nO (w:Sp)(m:Nat)(s:Wk)(x:Nd)(p:h_):Wk:=match qy w m s x p with
 | some s'=>s'
 | none=>s
structure Wk.Fit (s:Wk)(k:Nat):Prop where
 u: ∀ h,0<=s.used h/\s.used h<=k
 ns:s.ns.length<=k
 fs:s.fs.length<=s.lk
 lk:s.lk<=400
def abQ (m:Nat):mg:=snC (Nd×h_) (λy=>[y.1.sv,.str I y.2]) (λg y=>g.s.Fit (g.s.lk+1)/\401<=g.s.lk+m/\y.1.xJ/\y.2.length<=13*g.s.lk) λg y=>.fork (lX g.w m g.s y.1 y.2) λb=>match b with
 | true=>aAb .cj g.w (nO g.w m g.s y.1 y.2)
 | false=>afg λv=>v
def ai0 (st:Sx.St):List Nat:=match st.m.get 0 with
 | some (.cells [_,_,_,_,.bY kn _ _ _ _ _,_,.bY kf _ _ _ _ _] _ _)=>[kn,kf]
 | _=>[]
def auV (g:G0)(x:Nd)(p:h_):aN :={α:=Nat,pre:=λ_ c2=>(g.s.p4 g.w x p).fs.length<=c2,nF:=λ_ _=>0,fresh:=1,slots:=λ_ _=>[],mem:=λst c2=>[(0,amc g.w (g.s.p4 g.w x p) 2 st.nx g.c1 c2),(st.nx,kD (g.s.p4 g.w x p) c2)],drop:=λ_=>[3]}
def amr (m:Nat)(g:G0)(x:Nd)(p:h_):aN :=
 {α:=Nat×Wk×Nat×Nat,pre:=λ_ y=>y.1<=16/\eE g.w (qy g.w m) x p y.1 (g.s.p4 g.w x p)=J y.2.1/\y.2.1.ns.length<=y.2.2.1/\y.2.1.fs.length<=y.2.2.2,nF:=λ_ y=>16-y.1,fresh:=2,slots:=λ_ y=>[(10,.int .i64 I y.1)],
  mem:=λst y=>[(0,amc g.w y.2.1 st.nx (st.nx+1) y.2.2.1 y.2.2.2),(1,Nb y.2.1),(st.nx,mQ y.2.1 y.2.2.1),(st.nx+1,kD y.2.1 y.2.2.2)],drop:=ai0}
def azp (x:Nd)(p:h_)(i:Nat):aN :={α:=Unit,pre:=λ_ _=>True,nF:=λ_ _=>0,fresh:=0,slots:=λ_ _=>[(7,.str I (ki x p i))],mem:=λ_ _=>[]}
def YM (x:Nd)(p:h_)(st:Sx.St):Option tP:=match slot st.tmps 10 with
 | some (.int _ _ i)=>J (one (azp x p i.toNat))
 | _=>Q
noncomputable def V9 (m:Nat):List (FuncId×PT):=(84,dI (abQ m))::(132,dI Ad)::V8
noncomputable def anD (m:Nat)(g:G0)(x:Nd)(p:h_):iG:={bQ with cO:=λf=>av f (V9 m),bU:=λf=>if f=171 then [(1,always (amr m g x p)),(105007,YM x p)] else if f=84 then [(104009,always (auV g x p))] else []}
abbrev Rw:=h_×h_
def cg:h_->h_->Nat
 | a::r,b::s=>if a=b then cg r s+1 else 0
 | _,_=>0
def eV (k:Nat)(l:List Rw):List Rw:=l.map λr=>(r.1.drop k,r.2)
def qt (i:Nat)(p:h_):Bool:=match p with
 | []=>I
 | b::_=>decide (b.toNat=i)
def jz (i:Nat)(l:List Rw):List Rw:=l.filter λr=>qt i r.1
def bz (l:List Rw)(i:Nat):List Rw:=match l with
 | []=>[]
 | [_]=>[]
 | r::s::t=>if 0<cg r.1 ((s::t).getLastD r).1 then(if i=0 then eV (cg r.1 ((s::t).getLastD r).1) (r::s::t)else [])else eV 1 (jz i (r::s::t))
def nv (ref:List Rw->h_)(l:List Rw):Nd:=match l with
 | []=>iL
 | [r]=>⟨1,r.1,r.2,bX⟩
 | r::s::t=>if 0<cg r.1 ((s::t).getLastD r).1 then⟨2,r.1.take (cg r.1 ((s::t).getLastD r).1),[],cV (ref (bz (r::s::t) 0))⟩
   else⟨3,[],if r.1=[] then r.2 else [],iq λi=>ref (bz (r::s::t) i)⟩
def gR:Nat->List Rw->Nd
 | 0,_=>iL
 | m+1,l=>nv (λl'=>if l'=[] then [] else j5 (eM (gR m l'))) l
def ctext (m:Nat)(l:List Rw):h_:=eM (gR m l)
def dH:Nat->List Rw->List h_
 | 0,_=>[]
 | m+1,l=>(bf 16).flatMap λi=>if bz l i=[] then [] else(if(ctext m (bz l i)).length<32 then [] else [ctext m (bz l i)])++dH m (bz l i)
def jy (m:Nat)(l:List Rw):List h_:=ctext m l::dH m l
def rowsOf (l:List (h_×h_)):List Rw:=l.map λe=>(ak e.1,e.2)
def cG (fr to:h_)(l:List (h_×h_)):List (h_×h_):=l.filter λe=>hasB fr to (ak e.1)
def xE (l:List Rw):Prop:=l.Pairwise λa b=>an a.1 b.1=H
def n9 (fr to p:h_)(l:List Rw):List (h_×h_):=(l.filter λr=>hasB fr to (cat p r.1)).map λr=>(cC (cat p r.1),r.2)
def Ki (k:h_):Bool:=!decide (k=[])&&M ((k.length:Int)<=6)
def EX (v:h_):Bool:=!decide (v=[])&&M ((v.length:Int)<=80)
def qC (f g:Nat->h_)(i:Nat):Bool:=Ki (f i)&&(EX (g i)&&(M (i=0)||an (f (i-1)) (f i)))
def Yg (n:Nat)(f g:Nat->h_):Bool:=(bf n).all (qC f g)
def iT (n:Nat)(f g:Nat->h_):Int:=bif Yg n f g then(if(40:Int)<(n:Int)then 12 else 0)else 1
def aQ (n:Nat)(f g:Nat->h_):List Rw:=(bf n).map λi=>(f i,g i)
def RN (z:Bool)(l:List Rw)(c:Nat)(ro:Bool):SB:=.rows z l.length [nj l,nk l] ro (c*2) 174
def dE:List bh:=[.str λ_=>[],.str λ_=>[]]
def UH:List E6:=[.of (.slice dE)]
def fX (z:Bool)(o c n:Nat)(f g:Nat->h_)(key:Option Nat):Seen:=⟨key,z,o,n,c,[.str f,.str g]⟩
noncomputable def am4 (n:Nat)(f g:Nat->h_):iG:={bQ with cO:=λf=>av f mX,bU:=λh=>if h=62 then [(2,always (U2 7 n (qC f g)))] else []}
theorem ayE (n:Nat)(f g:Nat->h_):Sx.Good O (am4 n f g):=.of bI gT aO
def Fl (f g:Nat->h_)(i:Nat):Bool:=!decide ((20:Int)<((f i).length:Int))&& !decide ((100:Int)<((g i).length:Int))
def Hx (n:Nat)(f g:Nat->h_):Bool:=M ((n:Int)<=45)&&(bf n).all (Fl f g)
structure U0 (n:Nat)(t:Nat->Bool)(i:Nat):Prop where
 up:iC n t i
 le:i<=46
noncomputable def at1 (n:Nat)(t:Nat->Bool):aN :={α:=Nat,pre:=λ_ i=>U0 n t i,nF:=λ_ i=>n-i,fresh:=0,slots:=λ_ i=>[(3,.int .i64 I i)],mem:=λ_ _=>[]}
noncomputable def anc (n:Nat)(f g:Nat->h_):iG:={bQ with cO:=λf=>av f mX,bU:=λh=>if h=19 then [(2,always (at1 n (Fl f g)))] else []}
theorem ayI (n:Nat)(f g:Nat->h_):Sx.Good O (anc n f g):=.of bI gT aO
noncomputable def afO (t1 t2 n:Nat)(f g:Nat->h_):aN :=
 {α:=Nat×Nat,pre:=λ_ x=>x.1<=n/\x.1<=x.2,nF:=λ_ x=>n-x.1,fresh:=1,slots:=λst x=>[(t1,.int .i64 I x.1),(t2,.bY st.nx 2 I 0 x.1 x.2)],
  mem:=λst x=>[(st.nx,.rows I x.1 [.str f,.str g] I (x.2*2) 174)]}
noncomputable def anv (n:Nat)(f g:Nat->h_):iG:={bQ with cO:=λf=>av f mX,bU:=λh=>if h=64 then [(3,always (afO 11 3 n (λi=>ak (f i)) g))] else []}
theorem ay2 (n:Nat)(f g:Nat->h_):Sx.Good O (anv n f g):=.of bI gT aO
noncomputable def anG (n k:Nat)(f g:Nat->h_):iG:={bQ with cO:=λf=>av f mX,bU:=λh=>if h=102 then [(3,always (afO 13 5 n (λi=>(f i).drop k) g))] else []}
theorem azb (n k:Nat)(f g:Nat->h_):Sx.Good O (anG n k f g):=.of bI gT aO
def QM (l:List Rw):fC:=.all Nat λc=>.req (l.length<=c) (.new (λk=>.bY k 2 I 0 l.length c) (RN I l c I))
def QV (a b:h_)(i:Nat):Bool:=M (ah a i=ah b i)
noncomputable def am6 (a b:h_):iG:={bQ with cO:=λf=>av f mX,bU:=λh=>if h=100 then [(3,always (U2 13 (min a.length b.length) (QV a b)))] else []}
theorem ayG (a b:h_):Sx.Good O (am6 a b):=.of bI gT aO
noncomputable def axW (i:Nat)(l:List Rw):aN :=
 {α:=Nat×Nat,pre:=λ_ x=>x.1<=l.length/\(jz i (l.take x.1)).length<=x.2,nF:=λ_ x=>l.length-x.1,fresh:=1,slots:=λst x=>[(10,.int .i64 I x.1),(5,.bY st.nx 2 H 0 (jz i (l.take x.1)).length x.2)],
  mem:=λst x=>[(st.nx,RN H (jz i (l.take x.1)) x.2 I)]}
noncomputable def am7 (i:Nat)(l:List Rw):iG:={bQ with cO:=λf=>av f mX,bU:=λh=>if h=103 then [(3,always (axW i l))] else []}
theorem ayH (i:Nat)(l:List Rw):Sx.Good O (am7 i l):=.of bI gT aO
def anS:mg :=
 {G:=List Rw×Nat×Nat,n:=2,N:=3,pre:=λx=>x.1.length<=1000,args:=λx=>[.bY 0 2 I 0 x.1.length x.2.1,.func (.func 104) [] [.ptr 1 H 0]],
  mem:=λx=>[(0,RN I x.1 x.2.1 H),(1,.cells [.int .i64 I x.2.2] 1 3)],
  Fg:=λx=>.all Nat λc=>.req ((jz x.2.2 x.1).length<=c) (.ret (.bY 2 2 H 0 (jz x.2.2 x.1).length c) [(1,.cells [.int .i64 I x.2.2] 1 3),(2,RN H (jz x.2.2 x.1) c I)])}
end
end Go.Proofs.YtoibaecagklkaaaGreatDoor
