/-
  Node: the hashes that a node refers to: the contract.
-/
import Derived.Test.YtoibaecagklkaaaGreatDoorMo
import Derived.Test.YtoibaecagklkaaaGreatDoorMn
open And renaming intro->L
open Bool renaming and_eq_true->O,false->C,false_eq_true->an,true->F,true_eq_false->a_
open Decidable renaming decide->I
open Go.IntKind renaming i64->Q
open Go.Op renaming bytesLess->V
open Go.Operand renaming tmp->W
open Go.Proofs.Tryz renaming f111->a!,f128->c5,f157->bf,f158->b_,f159->b!,prog->M
open List renaming getElem?_cons_succ->c_,getElem?_map->ct,map_cons->c!
open Nat renaming blt->S,blt_eq->T,le_add_right->d_,le_trans->cy,lt_of_lt_of_le->d!,mul_one->cR,not_lt_zero->Z,zero_le->c4
open Option renaming none->J,some->H
namespace Go.Proofs.YtoibaecagklkaaaGreatDoor
open Go Sx
variable {a base i n:Nat}{r:Nat->List UInt8}{E ρ:Nat->Nat}{t t':Ren->VC}
section
open Go Sx
set_option maxRecDepth 20000
theorem Ib (h:aQ (r i)=F)(j:Nat)(hj:j<aV r i+1):(if j<aV r i then cU r i j else bT [ai (r i)] (j - aV r i))=cU r (i+1) j:=by
 show _=(bif aQ (r i)then(if j=aV r i then ai (r i)else cU r i j)else cU r i j)
 rw[h];simp only[cond_true];by_cases e:j<aV r i
 ·rw[if_pos e,if_neg (by omega)]
 ·have e:j=aV r i:=by omega
  subst e;rw[if_neg (by omega),if_pos rfl,Nat.sub_self];rfl
theorem ug (h:aQ (r i)=F):aV r (i+1)=aV r i+1:=by rw[aV,h];rfl
theorem eK (h:aQ (r i)=C):aV r (i+1)=aV r i/\∀ j,cU r (i+1) j=cU r i j:=by
 refine⟨by rw[aV,h];rfl,λj=> ?_⟩;show(bif aQ (r i)then(if j=aV r i then ai (r i)else cU r i j)else cU r i j)=_
 rw[h];rfl
theorem FW {x:Nd}(hp:Fits x):az (gG (Nj x) 128 c5 [x.sv] (zT x)):=by
 refine az.of_eq (VL x) ?_;have ev:=sY (pZ x);rw[ev];refine⟨AU hp,λa=>⟨λb=> ?_,λ_ _=>rfl⟩,λa R=>⟨⟨(0,0),⟨c4 _,Nat.le_refl _⟩,rfl,rfl,rfl,rfl,aa.refl _,aa.refl _,aa.refl _,trivial⟩,λg hg=>⟨λc=> ?_,λc=> ?_⟩⟩⟩
 ·rw[b] at a;cases a
 ·have c:=of_decide_eq_true c;have ei:g.1<16:=by omega
  rw[Int.toNat_natCast,tH x.r ei];have hf:=hp g.1 ei;have hn:=vt x.r g.1;have hg2:=hg.2;have hs:aX x=true:=by simpa using a
  refine⟨by omega,λd=> ?_,λd=> ?_⟩
  ·have d: ¬ x.r g.1=[]:=by simpa using d
   refine⟨rfl,hf,λe=> ?_,λe=>⟨⟨.inl hf,hf⟩,λf=> ?_,λf=> ?_⟩⟩
   ·refine⟨⟨by omega,trivial,by omega,by omega⟩,by omega,λcap hcap=>⟨by omega,(g.1+1,cap),⟨⟨by show g.1+1<=16;omega,?_⟩,by show 16 - (g.1+1)<_;omega⟩,by show(g.1:Int)+1=((g.1+1:Nat):Int);omega,rfl,⟨rfl,(ug e).symm,rfl⟩,trivial,?_,aa.refl _,aa.refl _,aa.refl _,trivial⟩⟩
    ·show aV x.r (g.1+1)<=cap;rw[ug e];exact hcap
    ·exact Sx.aa.sS (ug e).symm (cR cap) λj hj=>Ib e j hj
   ·have hk:=sq f;have hil:=m6 f;refine⟨El (pZ (getD (x.r g.1))) (Gq hk.1 (by omega) hil),rfl,⟨by omega,trivial,by omega,by omega⟩,by omega,λcap hcap=>⟨by omega,(g.1+1,cap),⟨⟨by show g.1+1<=16;omega,?_⟩,by show 16 - (g.1+1)<_;omega⟩,by show(g.1:Int)+1=((g.1+1:Nat):Int);omega,rfl,⟨rfl,(eK e).1.symm,rfl⟩,trivial,?_,aa.refl _,aa.refl _,aa.refl _,trivial⟩⟩
    ·show aV x.r (g.1+1)<=cap;rw[(eK e).1];exact hcap
    ·exact Sx.aa.sS (eK e).1.symm (cR cap) λj _=>((eK e).2 j).symm
   ·refine⟨Em (by decide),rfl,⟨by omega,trivial,by omega,by omega⟩,by omega,λcap hcap=>⟨by omega,(g.1+1,cap),⟨⟨by show g.1+1<=16;omega,?_⟩,by show 16 - (g.1+1)<_;omega⟩,by show(g.1:Int)+1=((g.1+1:Nat):Int);omega,rfl,⟨rfl,(eK e).1.symm,rfl⟩,trivial,?_,aa.refl _,aa.refl _,aa.refl _,trivial⟩⟩
    ·show aV x.r (g.1+1)<=cap;rw[(eK e).1];exact hcap
    ·exact Sx.aa.sS (eK e).1.symm (cR cap) λj _=>((eK e).2 j).symm
  ·have d:x.r g.1=[]:=by simpa using d
   have e:aQ (x.r g.1)=false:=by rw[d];rfl
   refine⟨by omega,(g.1+1,g.2),⟨⟨by show g.1+1<=16;omega,?_⟩,by show 16 - (g.1+1)<_;omega⟩,by show(g.1:Int)+1=((g.1+1:Nat):Int);omega,rfl,⟨rfl,(eK e).1.symm,rfl⟩,trivial,?_,aa.refl _,aa.refl _,aa.refl _,trivial⟩
   ·show aV x.r (g.1+1)<=g.2;rw[(eK e).1];exact hg2
   ·exact Sx.aa.sS (eK e).1.symm rfl λj _=>((eK e).2 j).symm
 ·have c:=of_decide_eq_false c;have hg1:=hg.1;have e:g.1=16:=by omega
  have hg2:=hg.2;rw[e] at hg2 ⊢;exact⟨λ_=>⟨g.2,hg2,aa.refl _,λ_=>rfl⟩,λh=>by rw[h] at a;cases a⟩
theorem Pu:av M 128 (cw (sI λx=>H (Fits x,zT x))):=by
 refine dW (n:=20) (fn:=c5) Tryz.func128 (by kernel_rfl) (by kernel_rfl) ?_;intro args p a h hp;obtain⟨x,hx,hg⟩:=BL h;subst hx;injection hg with hg;injection hg with h1 h2;subst h1;subst h2;refine⟨Nj x,aam x,rfl,λb=> ?_,FW hp⟩;cases b with
 | false=>exact rfl
 | true =>
   intro c;refine⟨rfl,rfl,λk=>by simp[SV.wf,T],λE E' k k' h=> ?_⟩;cases hn:aV x.r 16 with
   | zero=>rfl
   | succ n =>rw[hn] at h;have hk:E k=E' k':=h rfl;simp[SV.val,hk]
end
namespace Sx
open Go
noncomputable section
mutual
def SV.aJ (ρ:Nat->Nat):SV->SV
 | .ptr k l o=>.ptr (ρ k) l o
 | .k6 k w i j=>.k6 (ρ k) w i j
 | .oP k b n i=>.oP (ρ k) b n i
 | .slc k o n l c=>.slc (ρ k) o n l c
 | .bx k w z i n c=>.bx (ρ k) w z i n c
 | .bH k w z o i n c=>.bH (ρ k) w z o i n c
 | .iI k w o i j=>.iI (ρ k) w o i j
 | .map k=>.map (ρ k)
 | .yield k=>.yield (ρ k)
 | .agg cs=>.agg (SV.jY ρ cs)
 | .aO vs=>.aO (SV.jY ρ vs)
 | .iface t v=>.iface t (v.aJ ρ)
 | .func fn a b=>.func fn (SV.jY ρ a) (SV.jY ρ b)
 | .int k l n=>.int k l n
 | .bool l b=>.bool l b
 | .str l s=>.str l s
 | .bW=>.bW
 | .aP=>.aP
 | .ay=>.ay
 | .fE=>.fE
 | .fI=>.fI
 | .raw v=>.raw v
 | .fP k a o=>.fP (ρ k) a o
 | .b7 k w z a i n c=>.b7 (ρ k) w z a i n c
 | .nv k w a i j=>.nv (ρ k) w a i j
def SV.jY (ρ:Nat->Nat):List SV->List SV
 | []=>[]
 | x::r=>x.aJ ρ::SV.jY ρ r
end
mutual
theorem SV.iP (ρ E:Nat->Nat):(v:SV)->(v.aJ ρ).val E=v.val (λk=>E (ρ k))
 | .agg cs=>by simp only[SV.aJ,SV.val,SV.rB ρ E cs]
 | .aO cs=>by simp only[SV.aJ,SV.val,SV.rB ρ E cs]
 | .iface t v=>by simp only[SV.aJ,SV.val,SV.iP ρ E v]
 | .func fn a b=>by simp only[SV.aJ,SV.val,SV.rB ρ E a,SV.rB ρ E b]
 | .ptr .. =>rfl
 | .k6 .. =>rfl
 | .oP .. =>rfl
 | .slc .. =>rfl
 | .bx .. =>rfl
 | .bH .. =>rfl
 | .iI .. =>rfl
 | .map .. =>rfl
 | .yield .. =>rfl
 | .int .. =>rfl
 | .bool .. =>rfl
 | .str .. =>rfl
 | .bW=>rfl
 | .aP=>rfl
 | .ay=>rfl
 | .fE=>rfl
 | .fI=>rfl
 | .raw .. =>rfl
 | .fP .. =>rfl
 | .b7 .. =>rfl
 | .nv .. =>rfl
theorem SV.rB (ρ E:Nat->Nat):(l:List SV)->SV.vals E (SV.jY ρ l)=SV.vals (λk=>E (ρ k)) l
 | []=>rfl
 | x::r=>by simp only[SV.jY,SV.vals,SV.iP ρ E x,SV.rB ρ E r]
end
theorem SV.mD : ∀ {l:List SV} {i:Nat} {u:SV},(SV.jY ρ l)[i]?=H u->∃ v,l[i]?=H v/\u=v.aJ ρ
 | [],i,u,h=>by simp[SV.jY] at h
 | x::r,0,u,h=>by simp[SV.jY] at h;exact⟨x,rfl,h.symm⟩
 | x::r,i+1,u,h=>by simp only[SV.jY,c_] at h;obtain⟨v,h1,h2⟩:=SV.mD h;exact⟨v,by simpa using h1,h2⟩
def HP (ρ:Nat->Nat):List (Nat×SV×SV)->List (Nat×SV×SV)
 | []=>[]
 | e::r=>(e.1,e.2.1.aJ ρ,e.2.2.aJ ρ)::HP ρ r
theorem AP (ρ E:Nat->Nat): ∀ es:List (Nat×SV×SV),ey E (HP ρ es)=ey (λk=>E (ρ k)) es
 | []=>rfl
 | e::r=>by have:=AP ρ E r;simp only[ey,HP,c!] at this ⊢;rw[SV.iP,SV.iP,this]
def ak.aJ (ρ:Nat->Nat):ak->ak
 | .ref k f=>.ref (ρ k) f
 | .b7 k w z f n c=>.b7 (ρ k) w z f n c
 | c=>c
theorem ak.iP (ρ E:Nat->Nat)(c:ak)(i:Nat):((c.aJ ρ).at i).val E=(c.at i).val E:=by cases c<;>rfl
def ak.jY (ρ:Nat->Nat):List ak->List ak
 | []=>[]
 | c::r=>c.aJ ρ::ak.jY ρ r
def b9.aJ (ρ:Nat->Nat):b9->b9
 | .ref k f=>.ref (ρ k) f
 | c=>c
theorem b9.On : ∀ {l:List b9},ak.jY ρ (l.map (b9.at a))=(l.map (b9.aJ ρ)).map (b9.at a)
 | []=>rfl
 | c::r=>by simp only[c!,ak.jY,b9.On];congr 1;cases c<;>rfl
theorem ak.vW : ∀ {l:List ak},(ak.jY ρ l).length=l.length
 | []=>rfl
 | c::r=>by simp only[ak.jY,List.length_cons,ak.vW]
theorem ak.mD : ∀ {l:List ak} {k:Nat} {c:ak},(ak.jY ρ l)[k]?=H c->∃ c0,l[k]?=H c0/\c=c0.aJ ρ
 | [],_,_,h=>by cases h
 | x::r,0,_,h=>by simp[ak.jY] at h;exact⟨x,rfl,h.symm⟩
 | x::r,k+1,_,h=>by simp only[ak.jY,c_] at h;simpa using ak.mD h
theorem ak.U8 : ∀ {l:List ak} {k:Nat} {v:SV},((ak.jY ρ l).map (ak.at a))[k]?=H v->∃ u,(l.map (ak.at a))[k]?=H u/\v.val E=u.val E:=λ{l k v} h=>by
 rw[ct] at h;cases hc:(ak.jY ρ l)[k]? with
 | none=>rw[hc] at h;cases h
 | some c =>rw[hc] at h;injection h with h;subst h;obtain⟨c0,h1,rfl⟩:=ak.mD hc;exact⟨c0.at a,by rw[ct,h1];rfl,ak.iP ρ E c0 a⟩
def aC.aJ (ρ:Nat->Nat):aC->aC
 | .ref k f=>.ref (ρ k) f
 | c=>c
theorem aC.iP (ρ:Nat->Nat)(c:aC)(s:List UInt8):(c.aJ ρ).val s=c.val s:=by cases c<;>rfl
def SB.aJ (ρ:Nat->Nat):SB->SB
 | .cells cs tot ty=>.cells (SV.jY ρ cs) tot ty
 | .rows z n ax ro tot ty=>.rows z n (ak.jY ρ ax) ro tot ty
 | .view z o n ax=>.view z o n (ak.jY ρ ax)
 | .map es c=>.map (HP ρ es) c
 | .Wr (H k) a b c=>.Wr (H (ρ k)) a b c
 | .dV D cs tot ty ro=>.dV D (ak.jY ρ cs) tot ty ro
 | .dG D n ax ro=>.dG D n (ax.map (b9.aJ ρ)) ro
 | .fmap d c p=>.fmap d (c.aJ ρ) p
 | B=>B
theorem SB.Mm (ρ:Nat->Nat)(B:SB):(B.aJ ρ).ro=B.ro:=by
 cases B<;>try rfl
 rename_i mp _ _ _;cases mp<;>rfl
theorem SB.vV (ρ:Nat->Nat)(B:SB)(b a:Nat):(B.aJ ρ).gb b a↔B.gb b a:=by
 cases B<;>try exact Iff.rfl
 rename_i mp _ _ _;cases mp<;>exact Iff.rfl
theorem bF.Om {E':Nat->Nat}{z:Bool}{o:Nat}{ax:List ak}{ob:Obj}(h:bF E' (.view z o n ax) ob):bF E (.view z o n (ak.jY ρ ax)) ob:=by obtain⟨c,ty,fr,h1,h2⟩:=h;refine⟨c,ty,fr,h1,λi k col hi hk=> ?_⟩;obtain⟨c0,g1,rfl⟩:=ak.mD hk;rw[ak.vW,ak.iP,h2 i k c0 hi g1,SV.val_congr (E:=E) (nx:=0) (λk hk=>absurd hk (Z _)) _ (ak.Dq i 0 c0)]
theorem bF.aJ {B:SB}{o:Obj}(h:bF (λk=>E (ρ k)) (B.el a) o):bF E ((B.aJ ρ).el a) o:=by
 cases B with
 | cells cs tot ty =>obtain⟨c,fr,h1,h2,h3,h4⟩:=h;refine⟨c,fr,h1,h2,λi u hu=> ?_,h4⟩;obtain⟨v,g1,g2⟩:=SV.mD hu;subst g2;rw[SV.iP];exact h3 i v g1
 | map es c =>have h:o=.map (ey _ es).toArray c:=h;show o=.map (ey E (HP ρ es)).toArray c;rw[AP,h]
 | Wr mp a b c =>
   cases mp with
   | none=>exact h
   | some k=>exact h
 | rows z n ax ro tot ty =>obtain⟨c,fr,h1,h2,h3,h4,h5⟩:=h;refine⟨c,fr,h1,h2,by rw[ak.vW];exact h3,h4,λi k col hi hk=> ?_⟩;obtain⟨c0,g1,rfl⟩:=ak.mD hk;rw[ak.vW,ak.iP,h5 i k c0 hi g1,SV.val_congr (E:=E) (nx:=0) (λk hk=>absurd hk (Z _)) _ (ak.Dq i 0 c0)]
 | view z o n ax=>exact bF.Om h
 | loop=>exact h
 | fmap d c p =>obtain⟨es,cl,h1,h2⟩:=h;exact⟨es,cl,h1,⟨h2.st,h2.ks,λs hs=>by rw[aC.iP];exact h2.has s hs,h2.no,h2.pd⟩⟩
 | dV D cs tot ty ro =>
   obtain⟨c,fr,h1,h2,h3,h4⟩:=h;refine⟨c,fr,h1,h2,λi u hu=> ?_,h4⟩;obtain⟨v,g1,g2⟩:=ak.U8 (E:=E) hu;have hv:v.wf 0=true:=by
    rw[ct] at g1;cases hc:cs[i]? with
    | none=>rw[hc] at g1;cases g1
    | some c0=>rw[hc] at g1;injection g1 with g1;subst g1;exact ak.Dq a 0 c0
   rw[h3 i v g1,g2];exact congrArg H (SV.val_congr (nx:=0) (λk hk=>absurd hk (Z _)) v hv)
 | dG D n ax ro =>have:=bF.Om (ρ:=ρ) (E:=E) h;rw[b9.On] at this;exact this
def kT (base:Nat):List SV->List SV->Ren->(Ren->VC)->VC
 | [],[],aJ,t=>t aJ
 | h::hs,u::us,aJ,t=>rE base aJ h u (λaJ=>kT base hs us aJ t)
 | _,_,_,_=>.fail "call: so many arguments"
theorem jy {base:Nat}: ∀ {hs us:List SV} {aJ:Ren} {t:Ren->VC},(kT base hs us aJ t).holds ->
  ∃ ren',aJ.le ren'/\(t ren').holds/\∀ ren'' (E:Nat->Nat),ren'.le ren''->SV.vals (Ren.E base ren'' E) hs=SV.vals E us
 | [],[],aJ,t,h=>⟨aJ,Ren.le_refl _,h,λ_ _ _=>rfl⟩
 | h::hs,u::us,aJ,t,hh=>by simp only[kT] at hh;obtain⟨r1,h1,h2,h3⟩:=pY hh;obtain⟨r2,g1,g2,g3⟩:=jy h2;exact⟨r2,Ren.le_trans h1 g1,g2,λr'' E hle=>by simp only[SV.vals];rw[h3 r'' E (Ren.le_trans g1 hle),g3 r'' E hle]⟩
 | [],_::_,_,_,h=>h.elim
 | _::_,[],_,_,h=>h.elim
theorem dF {aJ:Ren}{kh k1:Nat}(ht: ∀ r,(t r).holds->(t' r).holds)(h:(dH base aJ kh k1 t).holds):(dH base aJ kh k1 t').holds:=by
 unfold dH at h ⊢;revert h;cases S kh base with
 | true =>
   by_cases e:kh=k1
   ·simp only[if_pos e];exact ht _
   ·simp only[if_neg e];exact id
 | false =>
   cases aJ.get kh with
   | none=>exact ht _
   | some k =>
     by_cases e:k=k1
     ·simp only[if_pos e];exact ht _
     ·simp only[if_neg e];exact id
theorem nL {base:Nat}: ∀ {a b:List SV} {aJ:Ren} {t t':Ren->VC},(∀ r,(t r).holds->(t' r).holds)->(jz base a b aJ t).holds->(jz base a b aJ t').holds
 | a,b,aJ,t,t',ht,h=>by
   revert h;unfold jz;split
   ·exact ht _
   ·exact dF (t:=λr=>.and (jP _ _) (jz base _ _ r t)) (λr h=>L h.1 (nL ht h.2))
   ·exact id
theorem nK {aJ:Ren}{a b:SV}(ht: ∀ r,(t r).holds->(t' r).holds):(kU base aJ a b t).holds->(kU base aJ a b t').holds:=by
 unfold kU
 split<;>first
  | exact ht _
  | exact λh=>L h.1 (ht _ h.2)
  | exact dF ht
  | exact dF (t:=λr=>.and (jP _ _) (t r)) (λr h=>L h.1 (ht r h.2))
  | exact dF (t:=λr=>.and (.and _ _) (t r)) (λr h=>L h.1 (ht r h.2))
  | exact dF (t:=λr=>.and (.and _ _) (.and _ (t r))) (λr h=>L h.1 (L h.2.1 (ht r h.2.2)))
  | exact dF (t:=λr=>.and (jP _ _) (.and (jP _ _) (t r))) (λr h=>L h.1 (L h.2.1 (ht r h.2.2)))
  | (split<;>first
    | exact id
    | exact λh=>L h.1 (ht _ h.2)
    | exact dF (t:=λr=>.and (jP _ _) (t r)) (λr h=>L h.1 (ht r h.2))
    | exact dF (t:=λr=>.and (.and _ _) (t r)) (λr h=>L h.1 (ht r h.2))
    | exact dF (t:=λr=>.and (.and _ _) (.and _ (t r))) (λr h=>L h.1 (L h.2.1 (ht r h.2.2)))
    | exact dF (t:=λr=>.and (jP _ _) (.and (jP _ _) (.and (jP _ _) (.and (jP _ _) (t r))))) (λr h=>L h.1 (L h.2.1 (L h.2.2.1 (L h.2.2.2.1 (ht r h.2.2.2.2)))))
    | exact nL (λ_ h=>nL ht h))
theorem gY {base:Nat}: ∀ {a b:List SV} {aJ:Ren} {t t':Ren->VC},(∀ r,(t r).holds->(t' r).holds)->(iq base a b aJ t).holds->(iq base a b aJ t').holds
 | [],[],_,_,_,ht,h=>ht _ h
 | _::_,_::_,_,_,_,ht,h=>nK (λ_ h=>gY ht h) h
 | [],_::_,_,_,_,_,h=>h.elim
 | _::_,[],_,_,_,_,h=>h.elim
theorem zj {aJ:Ren}{a b:SV}(ht: ∀ r,(t r).holds->(t' r).holds)(h:(rE base aJ a b t).holds):(rE base aJ a b t').holds:=by
 unfold rE at h ⊢;split at h
 ·exact gY ht h
 ·exact gY ht h
 ·split at h
  ·rename_i e;rw[if_pos e];split at h
   ·exact gY ht h
   ·exact nK ht h
  ·exact h.elim
 ·exact nK ht h
theorem nJ {base:Nat}: ∀ {a b:List SV} {aJ:Ren} {t t':Ren->VC},(∀ r,(t r).holds->(t' r).holds)->(kT base a b aJ t).holds->(kT base a b aJ t').holds
 | [],[],_,_,_,ht,h=>ht _ h
 | _::_,_::_,_,_,_,ht,h=>zj (λ_ h=>nJ ht h) h
 | [],_::_,_,_,_,_,h=>h.elim
 | _::_,[],_,_,_,_,h=>h.elim
theorem gB {base:Nat}{m:Mem}: ∀ {l:List (Nat×SB)} {used:List Nat} {aJ:Ren} {t t':Ren->VC},(∀ r,(t r).holds->(t' r).holds)->(fk base m l used aJ t).holds->(fk base m l used aJ t').holds
 | [],_,_,_,_,ht,h=>ht _ h
 | (k0,B0)::r,used,aJ,t,t',ht,h=>by
   simp only[fk] at h ⊢;revert h;cases dD base aJ k0 with
   | none =>
     cases B0.wf base with
     | true=>cases B0.jn with
       | true=>exact λh=>L h.1 (gB ht h.2)
       | false=>exact λh=>L h.1 (gB ht h.2)
     | false=>exact id
   | some k1 =>
     by_cases hu:used.contains k1=F
     ·simp only[if_pos hu];exact id
     ·simp only[if_neg hu];cases m.get k1 with
      | none=>exact id
      | some B =>
        cases B0.wf base with
        | true=>exact λh=>L h.1 (gB ht h.2)
        | false =>
          cases B0<;>try exact id
          cases B<;>try exact id
          rename_i cs' tot' ty' cs tot ty;by_cases e:ty'=ty
          ·simp only[if_pos e];exact λh=>L h.1 (gY (λ_ h=>gB ht h) h.2)
          ·simp only[if_neg e];exact id
inductive gj:Type 1 where
 | ret (v:SV) (back:Mem)
 | fork (b:Bool) (f:Bool->gj)
 | all (α:Type) (f:α->gj)
 | req (p:Prop) (a:gj)
def gj.qO (g:SV->Mem->VC):gj->VC
 | .ret v back=>g v back
 | .fork b f=>Sx.fork b λc=>(f c).qO g
 | .all α f=>.all α λx=>(f x).qO g
 | .req p a=>.imp p (a.qO g)
def gj.ask (g:SV->Mem->VC):gj->VC
 | .ret v back=>g v back
 | .fork b f=>Sx.fork b λc=>(f c).ask g
 | .all α f=>.ex α λx=>(f x).ask g
 | .req p a=>.and (.atom p) (a.ask g)
theorem gj.meet {g h:SV->Mem->VC}: ∀ {a:gj},(a.ask g).holds->(a.qO h).holds->∃ v back,(g v back).holds/\(h v back).holds
 | .ret v back,h1,h2=>⟨v,back,h1,h2⟩
 | .fork b f,h1,h2=>by simp only[gj.ask,gj.qO,cH] at h1 h2;exact gj.meet h1 h2
 | .all α f,⟨x,h1⟩,h2=>gj.meet h1 (h2 x)
 | .req p a,⟨h0,h1⟩,h2=>gj.meet h1 (h2 h0)
theorem gj.lQ {g h:SV->Mem->VC}(hg: ∀ v m,(g v m).holds->(h v m).holds): ∀ {a:gj},(a.qO g).holds->(a.qO h).holds
 | .ret v back,h1=>hg _ _ h1
 | .fork b f,h1=>by simp only[gj.qO,cH] at h1 ⊢;exact gj.lQ hg h1
 | .all α f,h1=>λx=>gj.lQ hg (h1 x)
 | .req p a,h1=>λh0=>gj.lQ hg (h1 h0)
structure gD where
 G:Type
 n:Nat
 N:Nat
 pre:G->Prop
 args:G->List SV
 mem:G->Mem
 uT:G->gj
 gh:SV->Mem->List Gh:=λ_ _=>[]
def jF (n:Nat)(aJ:Ren)(nx k:Nat):Nat:=match S k n,aJ.get k with
 | true,H k1=>k1
 | _,_=>nx+k
def Dc (ρ:Nat->Nat):Mem->Mem
 | []=>[]
 | e::r=>(ρ e.1,e.2.aJ ρ)::Dc ρ r
def mF (aJ:Ren):Mem->List Nat
 | []=>[]
 | e::r=>match e.2.ro,aJ.get e.1 with
   | false,H k1=>k1::mF aJ r
   | _,_=>mF aJ r
def zg (nx:Nat):Ren->Bool
 | []=>F
 | e::r=>S e.2 nx&&zg nx r
def rT (N:Nat):Mem->Bool
 | []=>F
 | e::r=>S e.1 N&&(!e.2.ro)&&rT N r
def SV.X8 (ρ:Nat->Nat)(v:SV):SV:=match v.wf 0&& !v.hint with
 | true=>v
 | false=>v.aJ ρ
theorem SV.Js (ρ E:Nat->Nat)(v:SV):(v.X8 ρ).val E=v.val (λk=>E (ρ k)):=by
 unfold SV.X8;split
 ·rename_i h;rw[O] at h;exact SV.val_congr (nx:=0) (λk hk=>absurd hk (Z _)) v h.1
 ·exact SV.iP ρ E v
def SV.Ol (ρ:Nat->Nat):List SV->List SV
 | []=>[]
 | v::r=>v.X8 ρ::SV.Ol ρ r
theorem SV.EF (ρ E:Nat->Nat): ∀ l:List SV,SV.vals E (SV.Ol ρ l)=SV.vals (λk=>E (ρ k)) l
 | []=>rfl
 | v::r=>by simp only[SV.Ol,SV.vals,SV.Js,SV.EF ρ E r]
def SV.Qw (ρ:Nat->Nat):SV->SV
 | .aO vs=>.aO (SV.Ol ρ vs)
 | v=>v.X8 ρ
theorem SV.Jt (ρ E:Nat->Nat)(v:SV):(v.Qw ρ).val E=v.val (λk=>E (ρ k)):=by
 unfold SV.Qw;split
 ·simp only[SV.val,SV.EF]
 ·exact SV.Js ρ E _
def YV:SV->SV->Bool
 | .bool F a,.bool F b=>a !=b
 | .int _ F a,.int _ F b=>!decide (a=b)
 | .ay,.iface .. =>F
 | .iface ..,.ay=>F
 | .bW,.ptr .. =>F
 | .ptr ..,.bW=>F
 | _,_=>C
def SL:List SV->List SV->Bool
 | a::r,b::s=>match YV a b with
   | true=>F
   | false=>SL r s
 | _,_=>C
def SM:SV->SV->Bool
 | .aO a,.aO b=>SL a b
 | a,b=>YV a b
def cF (c:gD):PT:=λargs m nx K=>.ex c.G λx=>.and (.atom (c.pre x)) (kT 0 (c.args x) args [] λaJ=>fk 0 m (c.mem x) [] aJ λaJ=>match zg nx aJ with
 | true=>(c.uT x).qO λv back=>(match rT c.N back with
   | true=>K (v.Qw (jF c.n aJ nx)) (Dc (jF c.n aJ nx) back++j8 (mF aJ (c.mem x)) m) (nx+c.N)
   | false=>.fail "call: blocks that are handed back")
 | false=>.fail "call: keys")
theorem cc (c:gD):aT (cF c):=by
 intro args m nx K K' hK h;obtain⟨x,h1,h2⟩:=h;refine⟨x,h1,nJ (λaJ h=>gB (λaJ h=> ?_) h) h2⟩;cases hr:zg nx aJ with
 | false=>simp only[hr] at h;exact h.elim
 | true =>
   simp only[hr] at h ⊢;refine gj.lQ (λv back=> ?_) h;cases rT c.N back with
   | false=>exact id
   | true=>exact hK _ _ _
def gD.fit (c:gD)(x:c.G):SV->Mem->Nat->VC:=λv m _=>Ry (c.gh v m) [H v] m λvs m=>match vs with
 | [H v]=>(c.uT x).ask λu back=>(match SM u v with
   | true=>.fail "call: another way"
   | false=>kT c.n [u] [v] [] λaJ=>fk c.n m back [] aJ λ_=>.tt)
 | _=>.fail "call: no value"
theorem x9 {nx:Nat}: ∀ {aJ:Ren} {k k1:Nat},zg nx aJ=F->aJ.get k=H k1->k1<nx
 | [],_,_,_,h=>by cases h
 | e::r,k,k1,hb,h=>by
   simp only[zg,O,T] at hb;by_cases he:e.1=k
   ·rw[Ren.get,if_pos he] at h;injection h with h;subst h;exact hb.1
   ·rw[Ren.get,if_neg he] at h;exact x9 hb.2 h
theorem tT {N:Nat}: ∀ {m:Mem} {k:Nat} {B:SB},rT N m=F->m.get k=H B->k<N/\B.ro=C
 | [],_,_,_,h=>by cases h
 | e::r,k,B,hb,h=>by
   simp only[rT,O,T,Bool.not_eq_true'] at hb;by_cases he:e.1=k
   ·rw[Mem.get,if_pos he] at h;injection h with h;subst h;exact⟨he▸ hb.1.1,hb.1.2⟩
   ·rw[Mem.get,if_neg he] at h;exact tT hb.2 h
theorem qV {ks:List Nat}: ∀ {m:Mem} {k:Nat} {B:SB},(j8 ks m).get k=H B->k∉ ks/\m.get k=H B
 | [],_,_,h=>by cases h
 | e::r,k,B,h=>by
   simp only[j8] at h;cases hc:ks.contains e.1 with
   | true =>rw[hc] at h;obtain⟨h1,h2⟩:=qV h;refine⟨h1,?_⟩;rw[Mem.get,if_neg (λx=>h1 (by rw[← x];simpa using hc))];exact h2
   | false =>
     rw[hc] at h;by_cases he:e.1=k
     ·simp only[Mem.get,he,if_true] at h ⊢;refine⟨λhk=> ?_,h⟩;have:ks.contains e.1=true:=by rw[he];simpa using hk
      rw[hc] at this;cases this
     ·simp only[Mem.get,he,if_false] at h ⊢;exact qV h
theorem vU {ρ:Nat->Nat}{m1:Mem}: ∀ {m2:Mem} {j:Nat} {X:SB},(Dc ρ m2++m1).get j=H X->(∃ k B,m2.get k=H B/\ρ k=j/\X=B.aJ ρ)∨m1.get j=H X
 | [],_,_,h=>.inr h
 | e::r,j,X,h=>by
   simp only[Dc,List.cons_append] at h;rcases Mem.fW h with ⟨h1,h2⟩ | ⟨hne,h⟩
   ·exact .inl ⟨e.1,e.2,by rw[Mem.get,if_pos rfl],h1.symm,h2⟩
   ·rcases vU h with ⟨k,B,g1,g2,g3⟩ | h
    ·refine .inl ⟨k,B,?_,g2,g3⟩;rw[Mem.get,if_neg (λx=>hne (by rw[← g2,x]))];exact g1
    ·exact .inr h
theorem Cm {aJ:Ren}: ∀ {fm:Mem} {k k1:Nat} {B:SB},fm.get k=H B->B.ro=C->aJ.get k=H k1->k1∈ mF aJ fm
 | [],_,_,_,h,_,_=>by cases h
 | e::r,k,k1,B,h,hr,hk=>by
   rcases Mem.fW (k0:=e.1) (B0:=e.2) h with ⟨h1,h2⟩ | ⟨hne,h⟩
   ·subst h1;subst h2;simp only[mF,hr,hk];exact List.mem_cons_self ..
   ·have:=Cm h hr hk;simp only[mF];split
    ·exact List.mem_cons_of_mem _ this
    ·exact this
theorem Oj {aJ:Ren}{k:Nat}:dD 0 aJ k=aJ.get k:=by
 have:S k 0=false:=by cases h:S k 0 with
  | false=>rfl
  | true=>rw[T] at h;omega
 simp[dD,this]
def iV (E:Nat->Nat)(fm:Mem)(b:Nat):Prop:=∃ k B,fm.get k=H B/\B.gb (E k) b/\B.ro=C
theorem aN.Z6 {Γ E m nx w}(h:aN Γ E m nx w){fm:Mem}{aJ:Ren}(hb: ∀ kh B',fm.get kh=H B'->Ak 0 m [] aJ kh B')
  (hi: ∀ kh kh' B B' k1,fm.get kh=H B->(∃ b a,B.gb b a)->fm.get kh'=H B'->(∃ b a,B'.gb b a)->dD 0 aJ kh=H k1->dD 0 aJ kh'=H k1->kh=kh') (hlt: ∀ kh B',fm.get kh=H B'->kh<n) :
  ∃ gm,aN (br.at w (iV (Ren.E 0 aJ E) fm) h.Lb gm) (Ren.E 0 aJ E) fm n w:=by
 have hE: ∀ kh k1,dD 0 aJ kh=H k1->Ren.E 0 aJ E kh=E k1:=λkh k1 hr=>by simp[Ren.E,hr]
 have hg: ∀ {kh B' a},fm.get kh=H B'->B'.gb (Ren.E 0 aJ E kh) a->∃ k1 B,dD 0 aJ kh=H k1/\m.get k1=H B/\B.gb (E k1) a/\(∀ E1 o,bF E1 (B.el a) o->bF (Ren.E 0 aJ E1) (B'.el a) o)/\(B'.ro=C->B.ro=C):=λ{kh B' a} hg ha=>by obtain⟨k1,B,g1,_,g3,g4,g5,g6⟩:=hb kh B' hg _ a ha;exact⟨k1,B,g1,g3,by rw[← hE kh k1 g1];exact g4,g5,g6⟩
 refine⟨λp hp ⟨k,B,g1,g2,g3⟩=> ?_,λkh B' a hk ha=> ?_,λkh kh' B B' a hk ha hk' ha' hr=> ?_,hlt,λkh B' a hg hn hro=>.inl ⟨kh,B',hg,hn,hro⟩,Ext.refl _ _,⟨c4 _,λk hk=>absurd hk (Z _)⟩,λD hD=>by cases hD⟩
 ·obtain⟨k1,X,_,q3,q4,_,q6⟩:=hg g1 g2;exact h.N7 q3 q4 (q6 g3) p hp rfl
 ·obtain⟨k1,X,_,q3,q4,q5,_⟩:=hg hk ha;obtain⟨o,ho,hbo⟩:=h.iC k1 X a q3 q4;exact⟨o,ho,q5 E o hbo⟩
 ·obtain⟨k1,X,g1,g3,g5,_,g7⟩:=hg hk ha;obtain⟨k1',X',g1',g3',g5',_,g7'⟩:=hg hk' ha';have:=h.iS k1 k1' X X' a g3 g5 g3' g5' (hr.imp g7 g7');subst this;exact hi kh kh' B B' k1 hk ⟨_,_,ha⟩ hk' ⟨_,_,ha'⟩ g1 g1'
theorem aN.told {Γ:br}(hΓ:Γ.tg=0){E m nx w}(h:aN Γ E m nx w){N:Nat}{aJ:Ren}{m2:Mem}(hb: ∀ kh B',m2.get kh=H B'->Ak n m [] aJ kh B')
  (hi: ∀ kh kh' B B' k1,m2.get kh=H B->(∃ b a,B.gb b a)->m2.get kh'=H B'->(∃ b a,B'.gb b a)->dD n aJ kh=H k1->dD n aJ kh'=H k1->kh=kh') (hlt: ∀ kh B',m2.get kh=H B'->kh<N) :
  aN Γ (Ren.E n aJ E) m2 N w:=by
 have hE: ∀ kh k1,dD n aJ kh=H k1->Ren.E n aJ E kh=E k1:=λkh k1 hr=>by simp[Ren.E,hr]
 have hg: ∀ {kh B' a},m2.get kh=H B'->B'.gb (Ren.E n aJ E kh) a->∃ k1 B,dD n aJ kh=H k1/\m.get k1=H B/\B.gb (E k1) a/\(∀ E1 o,bF E1 (B.el a) o->bF (Ren.E n aJ E1) (B'.el a) o)/\(B'.ro=C->B.ro=C):=λ{kh B' a} hg ha=>by obtain⟨k1,B,g1,_,g3,g4,g5,g6⟩:=hb kh B' hg _ a ha;exact⟨k1,B,g1,g3,by rw[← hE kh k1 g1];exact g4,g5,g6⟩
 refine⟨λkh B' a hk ha=> ?_,λkh kh' B B' a hk ha hk' ha' hr=> ?_,hlt,λkh B' a hk ha hro=> ?_,h.ext,⟨by rw[hΓ];exact c4 _,λk hk=>by rw[hΓ] at hk;omega⟩,h.kp⟩
 ·obtain⟨k1,X,_,q3,q4,q5,_⟩:=hg hk ha;obtain⟨o,ho,hbo⟩:=h.iC k1 X a q3 q4;exact⟨o,ho,q5 E o hbo⟩
 ·obtain⟨k1,X,g1,g3,g5,_,g7⟩:=hg hk ha;obtain⟨k1',X',g1',g3',g5',_,g7'⟩:=hg hk' ha';have:=h.iS k1 k1' X X' a g3 g5 g3' g5' (hr.imp g7 g7');subst this;exact hi kh kh' B B' k1 hk ⟨_,_,ha⟩ hk' ⟨_,_,ha'⟩ g1 g1'
 ·obtain⟨k1,X,_,g3,g5,_,g7⟩:=hg hk ha;exact h.jl k1 X a g3 g5 (g7 hro)
def jH (nx:Nat)(E E2:Nat->Nat)(j:Nat):Nat:=if j<nx then E j else E2 (j - nx)
theorem aN.back {Γ E m nx w}(h:aN Γ E m nx w)(hw:Mem.wf nx m=F){fm:Mem}{N:Nat}{aJ:Ren}(hb: ∀ kh B',fm.get kh=H B'->Ak 0 m [] aJ kh B')(hrl:zg nx aJ=F)
  {E2:Nat->Nat} {m2:Mem} {w':World} {gl gm} (h2:aN (br.at w (iV (Ren.E 0 aJ E) fm) gl gm) E2 m2 N w') (hE2: ∀ k,k<n->E2 k=Ren.E 0 aJ E k) (hro: ∀ k B,m2.get k=H B->B.ro=C) :
  (∀ k,jH nx E E2 (jF n aJ nx k)=E2 k) /\
  aN Γ (jH nx E E2) (Dc (jF n aJ nx) m2++j8 (mF aJ fm) m) (nx+N) w':=by
 have hρ: ∀ k,jH nx E E2 (jF n aJ nx k)=E2 k:=λk=>by
  unfold jF jH;split
  ·rename_i k1 hk hg;have:=x9 hrl hg;simp only[this,if_true];rw[hE2 k (by simpa [T] using hk)];simp[Ren.E,Oj,hg]
  ·simp only[show ¬ nx+k<nx by omega,if_false,Nat.add_sub_cancel_left]
 refine⟨hρ,?_⟩;have hMa: ∀ b,iV (Ren.E 0 aJ E) fm b->∃ k1 X,k1∈ mF aJ fm/\m.get k1=H X/\X.gb (E k1) b/\X.ro=false:=λb ⟨k,B,g1,g2,g3⟩=>by
  obtain⟨k1,X,q1,_,q3,q4,_,q6⟩:=hb k B g1 _ b g2;refine⟨k1,X,Cm g1 g3 (by rw[← Oj];exact q1),q3,?_,q6 g3⟩;have:Ren.E 0 aJ E k=E k1:=by simp[Ren.E,q1]
  rw[← this];exact q4
 have hx:Sx.Ext (iV (Ren.E 0 aJ E) fm) w w':=h2.ext;have hEo: ∀ j,j<nx->jH nx E E2 j=E j:=λj hj=>by simp[jH,hj]
 have old: ∀ {j X},(j8 (mF aJ fm) m).get j=H X->j<nx/\m.get j=H X/\∀ a,X.gb (E j) a->¬ iV (Ren.E 0 aJ E) fm a:=λ{j X} hj=>by obtain⟨h1,h3⟩:=qV hj;refine⟨h.lt _ _ h3,h3,λa ha hm=> ?_⟩;obtain⟨k1,Y,q1,q2,q3,q4⟩:=hMa _ hm;have:=h.iS j k1 X Y a h3 ha q2 q3 (.inr q4);subst this;exact h1 q1
 have hg: ∀ {j X a},(Dc (jF n aJ nx) m2++j8 (mF aJ fm) m).get j=H X->X.gb (jH nx E E2 j) a ->
   (∃ k B,m2.get k=H B/\jF n aJ nx k=j/\X=B.aJ (jF n aJ nx)/\B.gb (E2 k) a/\(iV (Ren.E 0 aJ E) fm a∨w.heap.size<=a))∨((j8 (mF aJ fm) m).get j=H X/\X.gb (E j) a/\a<w.heap.size/\¬ iV (Ren.E 0 aJ E) fm a):=λ{j X a} hj ha=>by
  rcases vU hj with ⟨k,B,g1,g2,g3⟩ | hj
  ·subst g3;rw[SB.vV,← g2,hρ] at ha;exact .inl ⟨k,B,g1,g2,rfl,ha,h2.jl k B a g1 ha (hro k B g1)⟩
  ·obtain⟨q1,q2,q3⟩:=old hj;rw[hEo j q1] at ha;exact .inr ⟨hj,ha,h.Y0 q2 ha,q3 a ha⟩
 refine⟨λj X a hj ha=> ?_,λj j' X X' a hj ha hj' ha' hr=> ?_,λj X hj=> ?_,λj X a hj ha hr=> ?_,⟨hx.os.trans h.ext.os,hx.tape.trans h.ext.tape,hx.output.trans h.ext.output,cy h.ext.size hx.size,λi hi hm=>(hx.block i (d! hi h.ext.size) (λhmi=> ?_)).trans (h.ext.block i hi hm)⟩,
  ⟨cy h.cx.1 (d_ _ _),λk hk=>(hEo k (d! hk h.cx.1)).trans (h.cx.2 k hk)⟩,λD hD=> ?_⟩
 ·rcases hg hj ha with ⟨k,B,g1,g2,rfl,g4,_⟩ | ⟨hj,ha,hl,hm⟩
  ·obtain⟨o,ho,hbo⟩:=h2.iC k B a g1 g4;refine⟨o,ho,bF.aJ ?_⟩;have:(λk=>jH nx E E2 (jF n aJ nx k))=E2:=funext hρ;rw[this];exact hbo
  ·obtain⟨q1,q2,_⟩:=old hj;obtain⟨o,ho,hbo⟩:=h.iC j X a q2 ha;exact⟨o,by rw[hx.block _ hl hm];exact ho,hbo.congr hEo (SB.Nw (Mem.G7 hw q2) a)⟩
 ·rcases hg hj ha with ⟨k,B,g1,g2,g3,g4,g5⟩ | ⟨hj,ha,hl,hm⟩<;>rcases hg hj' ha' with ⟨k',B',g1',g2',g3',g4',g5'⟩ | ⟨hj',ha',hl',hm'⟩
  ·rw[← g2,← g2',h2.iS k k' B B' a g1 g4 g1' g4' (.inl (hro k B g1))]
  ·rcases g5 with g5 | g5
   ·exact absurd g5 hm'
   ·omega
  ·rcases g5' with g5 | g5
   ·exact absurd g5 hm
   ·omega
  ·exact h.iS j j' X X' a (old hj).2.1 ha (old hj').2.1 ha' hr
 ·rcases vU hj with ⟨k,B,g1,g2,_⟩ | hj
  ·rw[← g2];unfold jF;split
   ·rename_i hk;have:=x9 hrl hk;omega
   ·have:=h2.lt k B g1;omega
  ·have:=(old hj).1;omega
 ·rcases hg hj ha with ⟨k,B,_,_,_,_,g5⟩ | ⟨hj,ha,_,_⟩
  ·rcases g5 with g5 | g5
   ·obtain⟨k1,Y,_,q2,q3,q4⟩:=hMa _ g5;exact h.jl k1 Y a q2 q3 q4
   ·exact .inr (cy h.ext.size g5)
  ·exact h.jl j X a (old hj).2.1 ha hr
 ·obtain⟨k1,Y,_,q2,q3,q4⟩:=hMa _ hmi;rcases h.jl k1 Y i q2 q3 q4 with h' | h'
  ·exact hm h'
  ·omega
 ·have hd:=h.kp D hD;rw[hx.block _ (Array.getElem?_eq_some_iff.1 hd).1 (λhmD=> ?_)]
  ·exact hd
  ·obtain⟨k1,Y,_,q2,q3,q4⟩:=hMa _ hmD;obtain⟨o,ho,hbo⟩:=h.iC k1 Y D q2 q3;rw[hd] at ho;exact hbo.kO _ (Option.some.inj ho).symm
def N1 (n:Nat):Mem->Bool
 | []=>F
 | e::r=>S e.1 n&&N1 n r
theorem Eg {n:Nat}: ∀ {m:Mem} {k:Nat} {B:SB},N1 n m=F->m.get k=H B->k<n
 | [],_,_,_,h=>by cases h
 | e::r,k,B,hb,h=>by
   simp only[N1,O,T] at hb;by_cases he:e.1=k
   ·exact he▸ hb.1
   ·rw[Mem.get,if_neg he] at h;exact Eg hb.2 h
def gD.ok (c:gD)(x:c.G):Bool:=N1 c.n (c.mem x)&&Mem.wf c.n (c.mem x)&&SV.fO c.n (c.args x)
theorem fH {P:Program}{f:FuncId}{fn:Func}(hf:P.funcs[f]?=H fn) (hn:(fn.name== "runtime.NumGoroutine")=C) (hb:fn.body.isSome=F)  (c:gD)
  (h: ∀ x,c.pre x->∃ cfg,Good P cfg/\c.ok x=F/\az (fN P (calling P cfg n) [] Aa (cfg.bD f) cfg.rounds fn (c.args x) (c.mem x) c.n (c.fit x))):av P f (cF c):=by
 intro args m nx K hk hwf hargs Γ E w hs;obtain⟨x,hpre,hk⟩:=hk;obtain⟨cfg,hgood,hok,hrun⟩:=h x hpre;simp only[gD.ok,O] at hok;obtain⟨⟨hlt,hwm⟩,hwa⟩:=hok;obtain⟨ren1,_,hk1,ha⟩:=jy hk;obtain⟨aJ,hle,hk2,hm⟩:=fJ hk1;obtain⟨hb0,hi⟩:=hm aJ (Ren.le_refl _);revert hk2;cases hrl:zg nx aJ with
 | false=>exact λh=>h.elim
 | true =>
   intro hk2;obtain⟨gm,hform⟩:=hs.Z6 hb0 hi (λkh B' hg=>Eg hlt hg);have hc:=fc hgood hf hn hb hrun hwm hwa hform;rw[ha aJ E hle] at hc;refine gy hf hn hb (hc.mono ?_);rintro e w' ⟨v,rfl,E1,u,m1,nx1,g1,g2,g3,g4,g5⟩;refine⟨v,rfl,?_⟩;cases u with
   | none=>exact g5.elim
   | some u' =>
     obtain⟨ts,m2,ht,g4,g5⟩:=n6 g5 g4;split at g5
     case h_2=>exact g5.elim
     rename_i u;have g3: ∀ z,H u=H z->v=z.val E1:=λz hz=>by injection hz with hz;subst hz;obtain⟨v0,q1,q2,_⟩:=ht.get 0 u rfl;simp at q1;subst q1;rw[g3 _ rfl,q2]
     obtain⟨u0,back,y2,hk3⟩:=gj.meet g5 hk2;revert y2;cases SM u0 u with
     | true=>exact λh=>h.elim
     | false =>
     intro y2;obtain⟨r1,_,z1,za⟩:=jy y2;obtain⟨r2,hle2,_,zm⟩:=fJ z1;obtain⟨zb,zi⟩:=zm r2 (Ren.le_refl _);revert hk3;cases hbk:rT c.N back with
     | false=>exact λh=>h.elim
     | true =>
       intro hk3;have ht:=g4.told rfl zb zi (λkh B' h=>(tT hbk h).1);have hE2: ∀ k,k<c.n->Ren.E c.n r2 E1 k=Ren.E 0 aJ E k:=λk hk=>(Ren.yJ hk).trans (g1 k hk);obtain⟨hρ,hfin⟩:=hs.back hwf hb0 hrl ht hE2 (λk B h=>(tT hbk h).2);refine⟨_,H (u0.Qw (jF c.n aJ nx)),_,_,λk hk=>by simp[jH,hk],d_ _ _,λz hz=> ?_,hfin,hk3⟩;injection hz with hz;subst hz;rw[SV.Jt,show(λk=>jH nx E (Ren.E c.n r2 E1) (jF c.n aJ nx k))=Ren.E c.n r2 E1 from funext hρ,g3 u rfl]
       have:=za r2 E1 hle2;simp only[SV.vals,List.cons.injEq,and_true] at this;exact this.symm
end
end Sx
section
open Go Sx
set_option maxRecDepth 20000
structure Wy where
 root:List UInt8
 n:Nat
 f:Nat->List UInt8
 z:Bool
 o:Nat
 c:Nat
 u:Nat
def Wy.sb (w:Wy)(key u:Nat)(e:SV):SB:=.cells [.str C w.root,.bH key 1 w.z w.o 0 w.n w.c,.int .i64 C u,e] 4 188
def Wy.view (w:Wy):SB:=.view w.z w.o w.n [.str w.f]
structure Wy.Ok (w:Wy):Prop where
 n:w.n<=200
 f: ∀ i,i<w.n->(w.f i).length<=1000
 u:w.u<=w.n
def bU (w:Wy)(h:List UInt8):Bool:=I ((w.u:Int)<(w.n:Int))&&(I (aG (w.f w.u)=h)&&aY (w.f w.u))
def Wm (u:Nat):SB:=.cells [.int .i64 C u,.iface 30 (.int .i64 F 10)] 2 186
def lq (k:Nat):SV:=.iface 184 (.ptr k F 0)
def Wc (w:Wy):gj:=.ret (.aO [cW,.bool F C]) [(0,w.sb 1 w.u (lq 2)),(2,Wm w.u)]
def Zq (w:Wy)(h:List UInt8):gj:=.fork (bU w h) λb=>match b with
 | true=>.ret (.aO [(getD (w.f w.u)).sv,.bool F F]) [(0,w.sb 1 (w.u+1) .ay)]
 | false=>Wc w
def ac0 (q:List UInt8->Prop)(uT:Wy->List UInt8->gj):gD :={G:=Wy×List UInt8,n:=2,N:=3,pre:=λx=>x.1.Ok/\q x.2,args:=λx=>[.ptr 0 F 0,.str C x.2],mem:=λx=>[(0,x.1.sb 1 x.1.u .ay),(1,x.1.view)],uT:=λx=>uT x.1 x.2}
def J8:gD:=ac0 (λ_=>True) Zq
noncomputable def runM (cfg:fQ)(f:Nat)(fn:Func)(c:gD)(x:c.G):VC:=fN M (calling M cfg 20) [] Aa (cfg.bD f) cfg.rounds fn (c.args x) (c.mem x) c.n (c.fit x)
def W9 (w:Wy)(t:List UInt8):gj:=.fork (bp t) λb=>match b with
 | true=>.ret (.aO [(getD t).sv,.bool F F]) [(0,w.sb 1 w.u .ay)]
 | false=>.fork (aQ t) λb=>match b with
   | true=>Zq w (ai t)
   | false=>Wc w
def rO:gD:=ac0 (λt=>t.length<9223372036854775808) W9
def preB (p s:List UInt8):Bool:=I (p.length<=s.length)&&I (s.take p.length=p)
def bB (x:Nd)(p:List UInt8):List UInt8:=if x.k=3 then(if p≠[]/\ah p 0<16 then x.r (ah p 0).toNat else [])else if x.k=2 then(bif preB x.p p then x.r 0 else [])else []
def bN (x:Nd)(p:List UInt8):List UInt8:=if bB x p=[] then p else if x.k=3 then p.drop 1 else p.drop x.p.length
def dm (x:Nd)(p:List UInt8):Bool:=(I (x.k=1)&&I (x.p=p))||(I (x.k=3)&&(I (p=[])&& !decide (x.v=[])))
def fe (x:Nd)(p:List UInt8):List UInt8:=bif dm x p then x.v else []
def KK (x:Nd)(p:List UInt8):cO:=.ret (.agg [.bool C (dm x p),.str C (fe x p)])
def Nd.again (x:Nd):Nd:={k:=x.k,p:=x.p,v:=x.v,r:=fun(i:Nat)=>[x.r 0,x.r 1,x.r 2,x.r 3,x.r 4,x.r 5,x.r 6,x.r 7,x.r 8,x.r 9,x.r 10,x.r 11,x.r 12,x.r 13,x.r 14,x.r 15].getD i []}
def aU (x:Nd):List SV:=.int .i64 C x.k::.str C x.p::.str C x.v::bq x.r
def zeroCells:List SV:=[.int .i64 F 0,.str F [],.str F [],.str F [],.str F [],.str F [],.str F [],.str F [],.str F [],.str F [],.str F [],.str F [],.str F [],.str F [],.str F [],.str F [],.str F [],.str F [],.str F []]
def Vr (x:Nd)(p:List UInt8):cO:=.ret (.aO [.str C (bB x p),.str C (bN x p)])
theorem VT (x:Wy×List UInt8):VC.holds (runM nX 157 bf J8 x)=((λP0:SV=>((λP1:SB=>(((I ((x.1.n:Int)<=(x.1.u:Int))=F->(bU x.1 x.2=F->False)/\(bU x.1 x.2=C->(∀(u5:Nat->Nat),SV.val u5 P0=SV.val u5 cW)/\C=C/\(4:Nat)=(4:Nat)/\x.1.root=x.1.root/\(x.1.z=x.1.z/\x.1.o=x.1.o/\(0:Nat)=(0:Nat)/\x.1.n=x.1.n/\x.1.c=x.1.c)/\(x.1.u:Int)=(x.1.u:Int)/\(0:Nat)=(0:Nat)/\aa P1 P1/\True))/\(I ((x.1.n:Int)<=(x.1.u:Int))=C->(0<=(x.1.u:Int)/\(x.1.u:Int)<(x.1.n:Int))/\(x.1.o=x.1.o/\0+(x.1.u:Int).toNat<x.1.n)/\(True/\Qj [x.1.f (0+(x.1.u:Int).toNat)])/\((!decide (aG (flat [x.1.f (0+(x.1.u:Int).toNat)])=x.2))=F->(bU x.1 x.2=F->False)/\(bU x.1 x.2=C->(∀(u4:Nat->Nat),SV.val u4 P0=SV.val u4 cW)/\C=C/\(4:Nat)=(4:Nat)/\x.1.root=x.1.root/\(x.1.z=x.1.z/\x.1.o=x.1.o/\(0:Nat)=(0:Nat)/\x.1.n=x.1.n/\x.1.c=x.1.c)/\(x.1.u:Int)=(x.1.u:Int)/\(0:Nat)=(0:Nat)/\aa P1 P1/\True))/\((!decide (aG (flat [x.1.f (0+(x.1.u:Int).toNat)])=x.2))=C ->(0<=(x.1.u:Int)/\(x.1.u:Int)<(x.1.n:Int))/\(x.1.o=x.1.o/\0+(x.1.u:Int).toNat<x.1.n)/\(((x.1.f (0+(x.1.u:Int).toNat)).length<=9223372036854775808/\(x.1.f (0+(x.1.u:Int).toNat)).length<1099511627776)/\(aY (x.1.f (0+(x.1.u:Int).toNat))=F->H x.1.view=H x.1.view/\H (x.1.sb 1 x.1.u SV.ay)=H (x.1.sb 1 x.1.u SV.ay)/\H (x.1.sb 1 x.1.u SV.ay)=H (x.1.sb 1 x.1.u SV.ay)/\I6 ((x.1.u:Int)+1)/\(bU x.1 x.2=F->(∀(u3:Nat->Nat),SV.val u3 (SV.agg (aU (getD (x.1.f (0+(x.1.u:Int).toNat)))))=SV.val u3 (getD (x.1.f x.1.u)).sv)/\F=F/\aa (SB.cells [SV.str C x.1.root,SV.bH 1 1 x.1.z x.1.o 0 x.1.n x.1.c,SV.int .i64 C ((x.1.u:Int)+1),SV.ay] 4 188) (SB.cells [SV.str C x.1.root,SV.bH 1 1 x.1.z x.1.o 0 x.1.n x.1.c,SV.int .i64 C (↑(x.1.u+1):Int),SV.ay] 4 188)/\True)/\(bU x.1 x.2=C->False))/\(aY (x.1.f (0+(x.1.u:Int).toNat))=C ->H x.1.view=H x.1.view/\H (x.1.sb 1 x.1.u SV.ay)=H (x.1.sb 1 x.1.u SV.ay)/\H (x.1.sb 1 x.1.u SV.ay)=H (x.1.sb 1 x.1.u SV.ay)/\(bU x.1 x.2=F->False)/\(bU x.1 x.2=C->(∀(u2:Nat->Nat),SV.val u2 P0=SV.val u2 cW)/\C=C/\(4:Nat)=(4:Nat)/\x.1.root=x.1.root/\(x.1.z=x.1.z/\x.1.o=x.1.o/\(0:Nat)=(0:Nat)/\x.1.n=x.1.n/\x.1.c=x.1.c)/\(x.1.u:Int)=(x.1.u:Int)/\(0:Nat)=(0:Nat)/\aa P1 P1/\True)))/\H x.1.view=H x.1.view/\H (x.1.sb 1 x.1.u SV.ay)=H (x.1.sb 1 x.1.u SV.ay)/\H (x.1.sb 1 x.1.u SV.ay)=H (x.1.sb 1 x.1.u SV.ay)/\((x.1.f (0+(x.1.u:Int).toNat)).length<=9223372036854775808/\(x.1.f (0+(x.1.u:Int).toNat)).length<1099511627776)/\(aY (x.1.f (0+(x.1.u:Int).toNat))=F->I6 ((x.1.u:Int)+1)/\(bU x.1 x.2=F->(∀(u1:Nat ->Nat),SV.val u1 (SV.agg (aU (getD (x.1.f (0+(x.1.u:Int).toNat)))))=SV.val u1 (getD (x.1.f x.1.u)).sv)/\F=F/\aa (SB.cells [SV.str C x.1.root,SV.bH 1 1 x.1.z x.1.o 0 x.1.n x.1.c,SV.int .i64 C ((x.1.u:Int)+1),SV.ay] 4 188) (SB.cells [SV.str C x.1.root,SV.bH 1 1 x.1.z x.1.o 0 x.1.n x.1.c,SV.int .i64 C (↑(x.1.u+1):Int),SV.ay] 4 188)/\True)/\(bU x.1 x.2=C->False))/\(aY (x.1.f (0+(x.1.u:Int).toNat))=C->(bU x.1 x.2=F->False)/\(bU x.1 x.2=C->(∀(u0:Nat->Nat),SV.val u0 P0=SV.val u0 cW)/\C=C/\(4:Nat)=(4:Nat)/\x.1.root=x.1.root/\(x.1.z=x.1.z/\x.1.o=x.1.o/\(0:Nat)=(0:Nat)/\x.1.n=x.1.n/\x.1.c=x.1.c)/\(x.1.u:Int)=(x.1.u:Int)/\(0:Nat)=(0:Nat)/\aa P1 P1/\True))))))) (SB.cells [SV.int .i64 C (x.1.u:Int),SV.iface 30 (SV.int .i64 F 10)] 2 186))) (SV.agg (SV.int .i64 F 0::SV.str F []::SV.str F []::E6))):=by kernel_rfl
theorem VS (x:Nd)(p:List UInt8):VC.holds (gG nX 158 b_ [x.sv,.str C p] (Vr x p))=((λP0:SV=>(((I (x.k=3)=F->((!decide (p=[]))=F->((0:Int)<=(0:Int)/\0<(p.length:Int))/\((-9223372036854775808:Int)<=ah p 0/\ah p 0<=9223372036854775807)/\(I (ah p 0<16)=F->((0:Int)<=(0:Int)/\0<(p.length:Int))/\(0<=ah p 0/\ah p 0<16)/\(ah p 0).toNat<16/\((0:Int)<=(1:Int)/\1<=(p.length:Int)/\(p.length:Int)<=(p.length:Int))/\(I (bT (cK x.r []) (ah p 0).toNat=[])=F->af (SV.aO [SV.str F [],SV.str C p]) P0)/\(I (bT (cK x.r []) (ah p 0).toNat=[])=C->af (SV.aO [SV.str C (bT (cK x.r []) (ah p 0).toNat),SV.str (C&&F&&C) (bO p (H (Operand.const (Value.int Q 1))) J 1 (p.length:Int))]) P0))/\(I (ah p 0<16)=C ->af (SV.aO [SV.str F [],SV.str C p]) P0))/\((!decide (p=[]))=C->af (SV.aO [SV.str F [],SV.str C p]) P0))/\(I (x.k=3)=C->(I (x.k=2)=F->(I ((x.p.length:Int)<=(p.length:Int))=F->((0:Int)<=(0:Int)/\0<=(x.p.length:Int)/\(x.p.length:Int)<=(p.length:Int))/\((!decide (bO p J (H (W 13)) 0 (x.p.length:Int)=x.p))=F->af (SV.aO [SV.str F [],SV.str C p]) P0)/\((!decide (bO p J (H (W 13)) 0 (x.p.length:Int)=x.p))=C->(0<=(x.p.length:Int)/\(x.p.length:Int)<=(p.length:Int)/\(p.length:Int)<=(p.length:Int))/\(I (x.r 0=[])=F->af (SV.aO [SV.str F [],SV.str C p]) P0)/\(I (x.r 0=[])=C->af (SV.aO [SV.str C (x.r 0),SV.str (C&&C&&C) (bO p (H (W 13)) J (x.p.length:Int) (p.length:Int))]) P0)))/\(I ((x.p.length:Int)<=(p.length:Int))=C->af (SV.aO [SV.str F [],SV.str C p]) P0))/\(I (x.k=2)=C->af (SV.aO [SV.str F [],SV.str C p]) P0))))) (SV.aO [SV.str C (bB x p),SV.str C (bN x p)])):=by kernel_rfl
theorem Kk (x:Nd)(p:List UInt8):VC.holds (gG nX 111 a! [x.sv,.str C p] (KK x p))=((λP0:SV=>(((I (x.k=1)=F->(I (x.p=p)=F->af (SV.agg [SV.bool F F,SV.str C x.v]) P0)/\(I (x.p=p)=C->(I (x.k=3)=F->(I (p=[])=F->((!decide (x.v=[]))=F->af (SV.agg [SV.bool F F,SV.str C x.v]) P0)/\((!decide (x.v=[]))=C->af (SV.agg [SV.bool F C,SV.str F []]) P0))/\(I (p=[])=C->af (SV.agg [SV.bool F C,SV.str F []]) P0))/\(I (x.k=3)=C->af (SV.agg [SV.bool F C,SV.str F []]) P0)))/\(I (x.k=1)=C->(I (x.k=3)=F->(I (p=[])=F->((!decide (x.v=[]))=F->af (SV.agg [SV.bool F F,SV.str C x.v]) P0)/\((!decide (x.v=[]))=C->af (SV.agg [SV.bool F C,SV.str F []]) P0))/\(I (p=[])=C->af (SV.agg [SV.bool F C,SV.str F []]) P0))/\(I (x.k=3)=C->af (SV.agg [SV.bool F C,SV.str F []]) P0))))) (SV.agg [SV.bool C (dm x p),SV.str C (fe x p)])):=by kernel_rfl
theorem pP {a b c d:List UInt8}{l1 l2 l3 l4:Bool}(h1:a=c)(h2:b=d):af (.aO [.str l1 a,.str l2 b]) (.aO [.str l3 c,.str l4 d]):=by subst h1;subst h2;exact λ_=>rfl
theorem MD (x:Nd)(p:List UInt8):az (gG nX 158 b_ [x.sv,.str C p] (Vr x p)):=by
 refine az.of_eq (VS x p) ?_;dsimp only;have hb:=dM p 0;refine⟨λh3=>⟨λhp=> ?_,λhp=> ?_⟩,λh3=>⟨λh2=>⟨λhl=> ?_,λhl=> ?_⟩,λh2=> ?_⟩⟩
 ·have h3:=of_decide_eq_true h3;have hp:p≠[]:=by simpa using hp
  have hl:=List.length_pos_iff.2 hp;refine⟨by omega,by omega,λh16=> ?_,λh16=> ?_⟩
  ·have h16:=of_decide_eq_true h16;have hi:(ah p 0).toNat<16:=by omega
   rw[tH x.r hi];have er:bB x p=x.r (ah p 0).toNat:=by rw[bB,if_pos h3,if_pos ⟨hp,h16⟩]
   refine⟨by omega,by omega,hi,by omega,λh0=>pP ?_ ?_,λh0=>pP er.symm ?_⟩
   ·rw[er];exact(of_decide_eq_true h0).symm
   ·rw[bN,er,if_pos (of_decide_eq_true h0)]
   ·rw[bN,er,if_neg (of_decide_eq_false h0),if_pos h3];rfl
  ·have er:bB x p=[]:=by rw[bB,if_pos h3,if_neg (λh=>of_decide_eq_false h16 h.2)]
   exact pP er.symm (by rw[bN,if_pos er])
 ·have h3:=of_decide_eq_true h3;have hp:p=[]:=by simpa using hp
  have er:bB x p=[]:=by rw[bB,if_pos h3,if_neg (λh=>h.1 hp)]
  exact pP er.symm (by rw[bN,if_pos er])
 ·have h3:=of_decide_eq_false h3;have h2:=of_decide_eq_true h2;have hl:=of_decide_eq_true hl;have ep:bO p J (H (W 13)) 0 (x.p.length:Int)=p.take x.p.length:=rfl;rw[ep];have hd:I (x.p.length<=p.length)=true:=decide_eq_true (by omega);refine⟨by omega,λhq=> ?_,λhq=>⟨by omega,λh0=> ?_,λh0=> ?_⟩⟩
  ·have hq:I (p.take x.p.length=x.p)=false:=by simpa using hq
   have er:bB x p=[]:=by rw[bB,if_neg h3,if_pos h2,preB,hd,hq];rfl
   exact pP er.symm (by rw[bN,if_pos er])
  ·have hq:I (p.take x.p.length=x.p)=true:=by simpa using hq
   have er:bB x p=x.r 0:=by rw[bB,if_neg h3,if_pos h2,preB,hd,hq];rfl
   have h0:=of_decide_eq_true h0;exact pP (by rw[er,h0]) (by rw[bN,er,if_pos h0])
  ·have hq:I (p.take x.p.length=x.p)=true:=by simpa using hq
   have er:bB x p=x.r 0:=by rw[bB,if_neg h3,if_pos h2,preB,hd,hq];rfl
   have h0:=of_decide_eq_false h0;exact pP er.symm (by rw[bN,er,if_neg h0,if_neg h3];rfl)
 ·have h3:=of_decide_eq_false h3;have h2:=of_decide_eq_true h2;have hl: ¬ x.p.length<=p.length:=by have:=of_decide_eq_false hl;omega
  have er:bB x p=[]:=by rw[bB,if_neg h3,if_pos h2,preB,decide_eq_false hl];rfl
  exact pP er.symm (by rw[bN,if_pos er])
 ·have h3:=of_decide_eq_false h3;have h2:=of_decide_eq_false h2;have er:bB x p=[]:=by rw[bB,if_neg h3,if_neg h2]
  exact pP er.symm (by rw[bN,if_pos er])
theorem CW (x:Nd)(p:List UInt8):az (gG nX 111 a! [x.sv,.str C p] (KK x p)):=by
 refine az.of_eq (Kk x p) ?_;dsimp only;have hv:fe x p=bif dm x p then x.v else []:=rfl
 have hb:dm x p=((I (x.k=1)&&I (x.p=p))||(I (x.k=3)&&(I (p=[])&& !decide (x.v=[])))):=rfl;rw[hv,hb];generalize I (x.k=1)=a;generalize I (x.p=p)=b;generalize I (x.k=3)=c;generalize I (p=[])=d;generalize I (x.v=[])=e;have s0:af (.agg [.bool F F,.str C x.v]) (.agg [.bool C F,.str C x.v]):=λ_=>rfl;have s1:af (.agg [.bool F C,.str F []]) (.agg [.bool C C,.str C []]):=λ_=>rfl;cases a<;>cases b<;>cases c<;>cases d<;>cases e<;>simp[s0,s1]
def Cw:List SV->Option (Prop×cO)
 | [.agg l,.str C p]=>(match Gp l with
   | some x=>H (True,Vr x p)
   | none=>J)
 | _=>J
def xh:List SV->Option (Prop×cO)
 | [.agg l,.str C p]=>(match Gp l with
   | some x=>H (True,KK x p)
   | none=>J)
 | _=>J
theorem Yg:av M 158 (cw Cw):=by
 refine dW (n:=20) (fn:=b_) Tryz.func158 (by kernel_rfl) (by kernel_rfl) ?_;intro args p a h hp;unfold Cw at h;split at h
 ·split at h
  ·rename_i x hx;injection h with h;injection h with h1 h2;subst h1;subst h2;rw[pI hx];exact⟨nX,A2,rfl,rfl,MD _ _⟩
  ·cases h
 ·cases h
theorem KM:av M 111 (cw xh):=by
 refine dW (n:=20) (fn:=a!) Tryz.func111 (by kernel_rfl) (by kernel_rfl) ?_;intro args p a h hp;unfold xh at h;split at h
 ·split at h
  ·rename_i x hx;injection h with h;injection h with h1 h2;subst h1;subst h2;rw[pI hx];exact⟨nX,A2,rfl,rfl,CW _ _⟩
  ·cases h
 ·cases h
theorem n5 (a:List UInt8):flat [a]=a:=by simp[flat]
theorem abe {a:List UInt8}(h:a.length<=1099511627776):Qj [a]:=⟨by rw[n5];omega,by simp⟩
attribute [local irreducible] aG aY getD
theorem MG {x:Wy×List UInt8}(h:x.1.Ok):az (runM nX 157 bf J8 x):=by
 refine az.of_eq (VT x) ?_;dsimp only;obtain⟨w,t⟩:=x;have h:w.Ok:=h;have hu:=h.u;have hn:=h.n;simp only[Int.toNat_natCast,Nat.zero_add,n5];by_cases h1:(w.u:Int)<w.n
 ·have hf:=h.f w.u (by omega);have d1:I ((w.n:Int)<=w.u)=false:=decide_eq_false (by omega);have hq:Qj [w.f w.u]:=abe (by omega);cases h2:I (aG (w.f w.u)=t)<;>cases h3:aY (w.f w.u)
  all_goals
   have ht:bU w t=(I ((w.u:Int)<w.n)&&(I (aG (w.f w.u)=t)&&aY (w.f w.u))):=rfl;rw[decide_eq_true h1,h2,h3] at ht;simp only[d1,ht,Bool.not_true,Bool.not_false,Bool.and_false,Bool.and_true,an,a_,false_imp_iff,forall_const,true_and,and_true,hq]
   repeat' first
    | omega
    | exact aa.refl _
    | refine L ?_ ?_
    | exact λ_=>rfl
    | rfl
    | exact trivial
    | fail
 ·have d1:I ((w.n:Int)<=w.u)=true:=decide_eq_true (by omega);have ht:bU w t=false:=by rw[bU,decide_eq_false h1];rfl
  simp only[d1,ht,an,a_,false_imp_iff,forall_const,true_and,and_true]
  repeat' first
   | omega
   | exact aa.refl _
   | refine L ?_ ?_
   | exact λ_=>rfl
   | rfl
   | exact trivial
   | fail
theorem Yi:av M 157 (cF J8) :=fH (n:=20) (fn:=bf) Tryz.func157 (by kernel_rfl) (by kernel_rfl) J8 λx hx=>⟨nX,A2,rfl,MG hx.1⟩
noncomputable def z6:List (FuncId×PT):=(157,cF J8)::(151,cw vu)::By
theorem uu:bt M (λf=>aD f z6):=.cons Yi (cc _) (.cons NM (b6 _) sB)
noncomputable def Fs:fQ:={cv with cQ:=λf=>aD f z6}
theorem Xe:Sx.Good M Fs:=.of bX uu bw
end
section
open Go Sx
set_option maxRecDepth 20000
theorem MU (x:Wy×List UInt8):VC.holds (runM Fs 159 b! rO x)=((λP0:SV=>((λP1:(Wy×List UInt8)->SB=>((λP2:SB=>((Rel 9223372036854775808 x.2/\(bp x.2=F->(bp x.2=F->(∀(u8:Nat->Nat),SV.val u8 (SV.agg (aU (getD x.2)))=SV.val u8 (getD x.2).sv)/\F=F/\aa (x.1.sb 1 x.1.u SV.ay) (x.1.sb 1 x.1.u SV.ay)/\True)/\(bp x.2=C->(aQ x.2=F->(bU x.1 (ai x.2)=F->(∀(u7:Nat->Nat),SV.val u7 (SV.agg (aU (getD x.2)))=SV.val u7 (getD (x.1.f x.1.u)).sv)/\F=F/\aa (SB.cells [SV.str C x.1.root,SV.bH 1 1 x.1.z x.1.o 0 x.1.n x.1.c,SV.int .i64 C (x.1.u:Int),SV.ay] 4 188) (SB.cells [SV.str C x.1.root,SV.bH 1 1 x.1.z x.1.o 0 x.1.n x.1.c,SV.int .i64 C (↑(x.1.u+1):Int),SV.ay] 4 188)/\True)/\(bU x.1 (ai x.2)=C->False))/\(aQ x.2=C->False)))/\(bp x.2=C->x.2.length<9223372036854775808/\(aQ x.2=F->∃(u6:Wy×List UInt8),(u6.1.Ok/\True)/\(0:Nat)=(0:Nat)/\ai x.2=u6.2/\(4:Nat)=(4:Nat)/\x.1.root=u6.1.root/\(x.1.z=u6.1.z/\x.1.o=u6.1.o/\(0:Nat)=(0:Nat)/\x.1.n=u6.1.n/\x.1.c=u6.1.c) /\(x.1.u:Int)=(u6.1.u:Int)/\aa (SB.view x.1.z x.1.o x.1.n [ak.str x.1.f]) (SB.view u6.1.z u6.1.o u6.1.n [ak.str u6.1.f])/\(bU u6.1 u6.2=F->(bp x.2=F->(∀(u5:Nat->Nat),SV.val u5 (SV.agg (aU (getD (u6.1.f u6.1.u))))=SV.val u5 (getD x.2).sv)/\F=F/\aa (P1 u6) (SB.cells [SV.str C x.1.root,SV.bH 1 1 x.1.z x.1.o 0 x.1.n x.1.c,SV.int .i64 C (x.1.u:Int),SV.ay] 4 188)/\True)/\(bp x.2=C->(aQ x.2=F->(bU x.1 (ai x.2)=F->(∀(u4:Nat->Nat),SV.val u4 (SV.agg (aU (getD (u6.1.f u6.1.u))))=SV.val u4 (getD (x.1.f x.1.u)).sv)/\F=F/\aa (P1 u6) (SB.cells [SV.str C x.1.root,SV.bH 1 1 x.1.z x.1.o 0 x.1.n x.1.c,SV.int .i64 C (↑(x.1.u+1):Int),SV.ay] 4 188)/\True)/\(bU x.1 (ai x.2)=C->False))/\(aQ x.2=C->False)))/\(bU u6.1 u6.2=C->(bp x.2=F->False)/\(bp x.2=C->(aQ x.2=F->(bU x.1 (ai x.2)=F->False)/\(bU x.1 (ai x.2)=C->(∀(u3:Nat ->Nat),SV.val u3 P0=SV.val u3 cW)/\C=C/\(4:Nat)=(4:Nat)/\u6.1.root=x.1.root/\(u6.1.z=x.1.z/\u6.1.o=x.1.o/\(0:Nat)=(0:Nat)/\u6.1.n=x.1.n/\u6.1.c=x.1.c)/\(u6.1.u:Int)=(x.1.u:Int)/\(0:Nat)=(0:Nat)/\aa (SB.cells [SV.int .i64 C (u6.1.u:Int),SV.iface 30 (SV.int .i64 F 10)] 2 186) P2/\True))/\(aQ x.2=C->(∀(u2:Nat->Nat),SV.val u2 P0=SV.val u2 cW)/\C=C/\(4:Nat)=(4:Nat)/\u6.1.root=x.1.root/\(u6.1.z=x.1.z/\u6.1.o=x.1.o/\(0:Nat)=(0:Nat)/\u6.1.n=x.1.n/\u6.1.c=x.1.c)/\(u6.1.u:Int)=(x.1.u:Int)/\(0:Nat)=(0:Nat)/\aa (SB.cells [SV.int .i64 C (u6.1.u:Int),SV.iface 30 (SV.int .i64 F 10)] 2 186) P2/\True))))/\(aQ x.2=C->(bp x.2=F->False)/\(bp x.2=C->(aQ x.2=F->(bU x.1 (ai x.2)=F->False)/\(bU x.1 (ai x.2)=C->(∀(u1:Nat->Nat),SV.val u1 P0=SV.val u1 cW)/\C=C/\(4:Nat)=(4:Nat)/\x.1.root=x.1.root/\(x.1.z=x.1.z/\x.1.o=x.1.o/\(0:Nat)=(0:Nat)/\x.1.n=x.1.n /\x.1.c=x.1.c)/\(x.1.u:Int)=(x.1.u:Int)/\(0:Nat)=(0:Nat)/\aa P2 P2/\True))/\(aQ x.2=C->(∀(u0:Nat->Nat),SV.val u0 P0=SV.val u0 cW)/\C=C/\(4:Nat)=(4:Nat)/\x.1.root=x.1.root/\(x.1.z=x.1.z/\x.1.o=x.1.o/\(0:Nat)=(0:Nat)/\x.1.n=x.1.n/\x.1.c=x.1.c)/\(x.1.u:Int)=(x.1.u:Int)/\(0:Nat)=(0:Nat)/\aa P2 P2/\True))))))) (SB.cells [SV.int .i64 C (x.1.u:Int),SV.iface 30 (SV.int .i64 F 10)] 2 186))) (fun(u6:Wy×List UInt8)=>(SB.cells [SV.str C u6.1.root,SV.bH (jF 2 (jq 0 (Mem.put 3 (SB.cells (aM P0.cells 0 cW.cells) 19 138) [((3:Nat),SB.cells P0.cells 19 138),((2:Nat),SB.cells P0.cells 19 138),((0:Nat),x.1.sb 1 x.1.u SV.ay),((1:Nat),x.1.view)]) u6.1.view x.1.view [((1:Nat),(1:Nat)),((0:Nat),(0:Nat))]) 4 1) 1 u6.1.z u6.1.o 0 u6.1.n u6.1.c,SV.int .i64 C (↑(u6.1.u+1):Int),SV.ay] 4 188)))) (SV.agg (SV.int .i64 F 0::SV.str F []::SV.str F []::E6))):=by kernel_rfl
section
attribute [local irreducible] aG aY getD bp aQ ai bU
theorem FP {x:Wy×List UInt8}(h:x.1.Ok)(ht:x.2.length<9223372036854775808):az (runM Fs 159 b! rO x):=by
 refine az.of_eq (MU x) ?_;dsimp only;obtain⟨w,t⟩:=x;have h:w.Ok:=h;have ht:t.length<9223372036854775808:=ht;have hr:Rel 9223372036854775808 t:=⟨.inl ht,ht⟩
 cases h1:bp t<;>cases h2:aQ t<;>cases h3:bU w (ai t)
 all_goals simp only[hr,ht,an,a_,false_imp_iff,forall_const,true_and,and_true]
 all_goals try refine⟨(w,ai t),h,?_⟩
 all_goals try dsimp only
 all_goals try simp only[h3,an,a_,false_imp_iff,forall_const,true_and,and_true]
 all_goals
  repeat' first
   | exact aa.refl _
   | refine L ?_ ?_
   | exact λ_=>rfl
   | rfl
   | exact trivial
   | fail
end
theorem Ph:av M 159 (cF rO) :=fH (n:=20) (fn:=b!) Tryz.func159 (by kernel_rfl) (by kernel_rfl) rO λx hx=>⟨Fs,Xe,rfl,FP hx.1 hx.2⟩
def th (w:Wy)(t:List UInt8):Option (Nd×Nat):=if bp t=F then H (getD t,w.u)else if(aQ t&&bU w (ai t))=F then H (getD (w.f w.u),w.u+1)else J
def Wy.on (w:Wy)(u:Nat):Wy:={w with u:=u}
def zF (w:Wy):Nat->Nd->List UInt8->Nat->Option (Nd×List UInt8×Nat)
 | 0,_,_,_=>J
 | m+1,x,p,u=>if bB x p=[] then H (x,p,u)else match th (w.on u) (bB x p)with
   | none=>J
   | some (y,u')=>zF w m y (bN x p) u'
def c8 (w:Wy)(p:List UInt8):Option (Nd×List UInt8×Nat):=bif bU (w.on 0) w.root then zF w (p.length+1) (getD (w.f 0)) p 1 else J
def eI (w:Wy)(p:List UInt8):Option (Nd×List UInt8):=if 40<w.n then J else match c8 w p with
 | some (y,q,u)=>if u<w.n then J else H (y,q)
 | none=>J
def pvB (r:Option (Nd×List UInt8)):Bool:=match r with
 | some (y,q)=>dm y q
 | none=>C
def pvV (r:Option (Nd×List UInt8)):List UInt8:=match r with
 | some (y,q)=>fe y q
 | none=>[]
def V6 (w:Wy)(key:List UInt8):cO:=.fork (eI w (aj key)).isSome λb=>match b with
 | true=>.ret (.aO [.agg [.bool C (pvB (eI w (aj key))),.str C (pvV (eI w (aj key)))],.int .i64 F 0])
 | false=>.ret (.aO [.agg [.bool F C,.str F []],.int .i64 F 10])
structure Wh where
 y:Nd
 p:List UInt8
 u:Nat
 b:Bool
 v:List UInt8
def Nd.Good (x:Nd):Prop:=(x.k=2->x.p≠[])/\Fits x
def qk (st:Sx.St)(i:Nat):Nat:=match slot st.tmps i with
 | some (.ptr k _ _)=>k
 | _=>0
def ack (st:Sx.St)(i:Nat):Nat:=match st.m.get (qk st i)with
 | some (.cells (.ptr k _ _::_) _ _)=>k
 | _=>0
def xU (ty:TypeId):Mem->Nat
 | []=>0
 | (k,.cells _ _ t)::r=>(match Nat.beq t ty with
   | true=>k
   | false=>xU ty r)
 | _::r=>xU ty r
def Zt (w:Wy)(kv:Nat)(st:Sx.St)(x:Wh)(e:SV):Mem:=[(qk st 4,.cells (aU x.y) 19 138),(qk st 2,.cells [.str C x.p] 1 9),(ack st 1,w.sb kv x.u e),(xU 58 st.m,.cells [.bool C x.b,.str C x.v] 2 58)]
def WH (w:Wy)(P:List UInt8):bg :={α:=Wh,pre:=λ_ x=>(∃ m,x.p.length<m/\c8 w P=zF w m x.y x.p x.u)/\x.y.Good/\x.u<=w.n,kY:=λ_ x=>x.p.length+1,fresh:=0,slots:=λ_ _=>[(5,.bool F F)],mem:=λst x=>Zt w 0 st x .ay}
def WI (w:Wy)(P:List UInt8):bg :={α:=Wh,pre:=λ_ _=>c8 w P=J,kY:=λ_ _=>0,fresh:=1,slots:=λ_ _=>[(5,.bool F C)],mem:=λst x=>Zt w 0 st x (lq st.nx)++[(st.nx,Wm x.u)]}
def Zp (st:Sx.St):Nat:=match slot st.tmps 5 with
 | some (.bool F C)=>1
 | _=>0
def ZQ (w:Wy)(P:List UInt8):kj:=⟨[0,1],Zp,λt=>match t with
 | 1=>WI w P
 | _=>WH w P⟩
noncomputable def NV:List (FuncId×PT):=(159,cF rO)::(158,cw Cw)::(111,cw xh)::(58,bh ot)::z6
theorem LB:bt M (λf=>aD f NV):=.cons Ph (cc _) (.cons Yg (b6 _) (.cons KM (b6 _) (.cons BO (aS _) uu)))
noncomputable def Su (w:Wy)(key:List UInt8):fQ:={cv with cQ:=λf=>aD f NV,bD:=λf=>if f=156 then [(1,λst=>match Zp st with
 | 1=>J
 | _=>H (ZQ w (aj key)))] else []}
theorem aay (w:Wy)(key:List UInt8):Sx.Good M (Su w key):=.of bX LB bw
def dK (w:Wy)(key:Option Nat):Seen:=⟨key,w.z,w.o,w.n,w.c,[.str w.f]⟩
def shW:List tq:=[.of .one,.of .one,.of (.slice [.str λ_=>[]])]
theorem lP {s:List UInt8}(h:aY s=F):aX (getD s)=true:=by unfold aY C1 at h;simp only[O] at h;exact h.2.1
theorem DQ {t:List UInt8}(h:bp t=F):aX (getD t)=true:=by rw[xx,O,O] at h;exact lP h.2.1
end
section
open Go Sx
set_option maxRecDepth 20000
structure Sp where
 fr:List UInt8
 to:List UInt8
 n:Nat
 f:Nat->List UInt8
 z:Bool
 o:Nat
 c:Nat
 ad:List UInt8->Bool
 ag:List UInt8->Int
structure Sp.Ok (w:Sp):Prop where
 n:w.n<=200
 f: ∀ i,i<w.n->(w.f i).length<=1000
 a: ∀ h,w.ad h=F->0<=w.ag h/\w.ag h<w.n
 fr:w.fr.length<=1000
 to:w.to.length<=1000
structure Wk where
 ud:List UInt8->Bool
 us:List UInt8->Int
 ns:List (List UInt8)
 lk:Nat
 fs:List (List UInt8×List UInt8)
def Wk.used (s:Wk)(h:List UInt8):Int:=dflt (s.ud h) (s.us h)
structure Wk.Small (s:Wk):Prop where
 u: ∀ h,0<=s.used h/\s.used h<=1000
 ns:s.ns.length<=1000
 lk:s.lk<=1000
 fs:s.fs.length<=1000
def Sp.at (w:Sp)(h:List UInt8):List UInt8:=w.f (w.ag h).toNat
def bJ (w:Sp)(h:List UInt8):Bool:=w.ad h&&aY (w.at h)
def Wk.take (w:Sp)(s:Wk)(h:List UInt8):Wk:={s with ud:=dN s.ud h,us:=fK s.us h (s.used h+1),ns:=if s.used h=0 then s.ns++[w.at h] else s.ns}
def jc (l:List (List UInt8)):ak:=.str λi=>l.getD i []
def bY (l:List (List UInt8×List UInt8)):ak:=.str λi=>(l.getD i ([],[])).1
def bZ (l:List (List UInt8×List UInt8)):ak:=.str λi=>(l.getD i ([],[])).2
def Kq (w:Sp)(s:Wk)(kn kf c1 c2:Nat):SB:=.cells [.str C w.fr,.str C w.to,.func (.func 50) [] [.ptr 4 F 0,.ptr 6 F 0],.map 1,.bx kn 1 F 0 s.ns.length c1,.int .i64 C s.lk,.bx kf 2 F 0 s.fs.length c2] 7 92
def eU (s:Wk):SB:=.fmap s.ud (.int .i64 s.us) J
def dU (s:Wk)(c1:Nat):SB:=.rows F s.ns.length [jc s.ns] C (c1*1) 9
def dy (s:Wk)(c2:Nat):SB:=.rows F s.fs.length [bY s.fs,bZ s.fs] C (c2*2) 50
def Sp.own (w:Sp):Mem:=[(4,.cells [.map 5] 1 90),(5,.fmap w.ad (.int .i64 w.ag) J),(6,.cells [.bH 7 1 w.z w.o 0 w.n w.c] 1 29)]
def Sp.view (w:Sp):SB:=.view w.z w.o w.n [.str w.f]
structure yK where
 w:Sp
 s:Wk
 c1:Nat
 c2:Nat
def yK.mem (g:yK):Mem:=[(0,Kq g.w g.s 2 3 g.c1 g.c2),(1,eU g.s),(2,dU g.s g.c1),(3,dy g.s g.c2)]++g.w.own++[(7,g.w.view)]
def Sp.back (w:Sp)(s:Wk)(c1 c2:Nat):Mem:=[(0,Kq w s 8 9 c1 c2),(1,eU s),(8,dU s c1),(9,dy s c2)]++w.own
def aby (v:SV)(w:Sp)(s:Wk):gj:=.all (Nat×Nat) λc=>.req (s.ns.length<=c.1/\s.fs.length<=c.2) (.ret v (w.back s c.1 c.2))
def MA (f:SV->SV):gj:=.all (List UInt8×List UInt8) λy=>.ret (f (.iface 87 (.ptr 10 F 0))) [(10,.cells [.str C y.1,.str C y.2] 2 207)]
def snC (A:Type)(args:A->List SV)(pre:yK->A->Prop)(uT:yK->A->gj):gD :={G:=yK×A,n:=8,N:=11,pre:=λx=>x.1.w.Ok/\x.1.s.Small/\(x.1.s.ns.length<=x.1.c1/\x.1.s.fs.length<=x.1.c2)/\pre x.1 x.2,args:=λx=>.ptr 0 F 0::args x.2,mem:=λx=>x.1.mem,uT:=λx=>uT x.1 x.2}
def Ox (g:yK)(h:List UInt8):gj:=.fork (bJ g.w h) λb=>match b with
 | true=>aby (.aO [(getD (g.w.at h)).sv,.ay]) g.w (g.s.take g.w h)
 | false=>MA λv=>.aO [cW,v]
def wk:gD:=snC (List UInt8) (λh=>[.str C h]) (λ_ _=>True) Ox
def QM (g:yK)(t:List UInt8):gj:=.fork (bp t) λb=>match b with
 | true=>aby (.aO [(getD t).sv,.ay]) g.w g.s
 | false=>.fork (aQ t) λb=>match b with
   | true=>Ox g (ai t)
   | false=>MA λv=>.aO [cW,v]
def oH:gD:=snC (List UInt8) (λt=>[.str C t]) (λ_ t=>t.length<9223372036854775808) QM
def hasB (fr to p:List UInt8):Bool:=!Op.bytesLess p (aj fr)&&(V p (aj to)||decide (p=aj to))
def bK (fr to p:List UInt8):Bool:=(V p (aj to)||decide (p=aj to))&&(!Op.bytesLess p (aj fr)||preB p (aj fr))
def k8 (p:List UInt8):Bool:=I ((p.length:Int)% 2=0)&&ij p
def Ux (p:List UInt8):cO:=.fork (k8 p) λb=>match b with
 | true=>.ret (.aO [.str C (bl p),.bool F F])
 | false=>.ret (.aO [.str F [],.bool F C])
def zS:List SV->Option (Prop×SV)
 | [.agg [.str C fr,.str C to],.str C p]=>H (fr.length<=1000/\to.length<=1000,.bool C (hasB fr to p))
 | _=>J
def sG:List SV->Option (Prop×SV)
 | [.agg [.str C fr,.str C to],.str C p]=>H (fr.length<=1000/\to.length<=1000,.bool C (bK fr to p))
 | _=>J
def vK:List SV->Option (Prop×cO)
 | [.str C p]=>H (p.length<1099511627776,Ux p)
 | _=>J
noncomputable def fY:List (FuncId×PT):=(58,bh ot)::(170,bh pL)::z6
theorem cZ:bt M (λf=>aD f fY):=.cons BO (aS _) (.cons Ep (aS _) uu)
noncomputable def nY:fQ:={cv with cQ:=λf=>aD f fY}
theorem A4:Sx.Good M nY:=.of bX cZ bw
theorem YA (fr to p:List UInt8):VC.holds (gG nY 43 Tryz.f43 [.agg [.str C fr,.str C to],.str C p] (.ret (.bool C (hasB fr to p))))=((fr.length<1099511627776/\((!Op.bytesLess p (aj fr))=F->to.length<1099511627776/\af (SV.bool (C&&C) (V p (aj to)||decide (p=aj to))) (SV.bool C (hasB fr to p)))/\((!Op.bytesLess p (aj fr))=C->af (SV.bool F C) (SV.bool C (hasB fr to p))))):=by kernel_rfl
theorem Rn (fr to p:List UInt8):VC.holds (gG nY 42 Tryz.f42 [.agg [.str C fr,.str C to],.str C p] (.ret (.bool C (bK fr to p))))=((to.length<1099511627776/\((!(V p (aj to)||decide (p=aj to)))=F->af (SV.bool F C) (SV.bool C (bK fr to p)))/\((!(V p (aj to)||decide (p=aj to)))=C->fr.length<1099511627776/\((!Op.bytesLess p (aj fr))=F->af (SV.bool F F) (SV.bool C (bK fr to p)))/\((!Op.bytesLess p (aj fr))=C->(I ((p.length:Int)<=(↑(aj fr).length:Int))=F->((0:Int)<=(0:Int)/\0<=(p.length:Int)/\(p.length:Int)<=(↑(aj fr).length:Int))/\af (SV.bool (C&&F&&C&&C) (I (bO (aj fr) J (H (W 13)) 0 (p.length:Int)=p))) (SV.bool C (bK fr to p)))/\(I ((p.length:Int)<=(↑(aj fr).length:Int))=C->af (SV.bool F C) (SV.bool C (bK fr to p))))))):=by kernel_rfl
theorem YB (p:List UInt8):VC.holds (gG nY 130 Tryz.f130 [.str C p] (Ux p))=(((0<=(p.length:Int)/\(p.length:Int)<=9223372036854775807/\(0:Int)<(2:Int))/\((!decide ((p.length:Int)% 2=(0:Int)))=F->(k8 p=F->af (SV.aO [SV.str F [],SV.bool F C]) (SV.aO [SV.str C (bl p),SV.bool F F]))/\(k8 p=C->af (SV.aO [SV.str F [],SV.bool F C]) (SV.aO [SV.str F [],SV.bool F C])))/\((!decide ((p.length:Int)% 2=(0:Int)))=C->p.length<1152921504606846976/\((!ij p)=F->(k8 p=F->af (SV.aO [SV.str F [],SV.bool F C]) (SV.aO [SV.str C (bl p),SV.bool F F]))/\(k8 p=C->af (SV.aO [SV.str F [],SV.bool F C]) (SV.aO [SV.str F [],SV.bool F C])))/\((!ij p)=C->p.length<1099511627776/\(k8 p=F->af (SV.aO [SV.str C (bl p),SV.bool F F]) (SV.aO [SV.str C (bl p),SV.bool F F]))/\(k8 p=C->af (SV.aO [SV.str C (bl p),SV.bool F F]) (SV.aO [SV.str F [],SV.bool F C])))))):=by kernel_rfl
theorem VZ (x:yK×List UInt8):VC.holds (runM nY 83 Tryz.f83 wk x)=((λP0:SV=>((((!x.1.w.ad x.2)=F->(bJ x.1.w x.2=F->∃(u13:Nat×Nat),((if x.1.s.used x.2=0 then x.1.s.ns++[x.1.w.at x.2] else x.1.s.ns).length<=u13.1/\x.1.s.fs.length<=u13.2)/\False)/\(bJ x.1.w x.2=C->∃(u12:List UInt8×List UInt8),(∀(u11:Nat->Nat),SV.val u11 P0=SV.val u11 cW)/\(0:Nat)=(0:Nat)/\aa (SB.cells [SV.str F [(110:UInt8),(111:UInt8),(116:UInt8),(32:UInt8),(116:UInt8),(104:UInt8),(101:UInt8),(114:UInt8),(101:UInt8),(58:UInt8)],SV.str C x.2] 2 207) (SB.cells [SV.str C u12.1,SV.str C u12.2] 2 207)/\True))/\((!x.1.w.ad x.2)=C->(0<=dflt (x.1.w.ad x.2) (x.1.w.ag x.2)/\dflt (x.1.w.ad x.2) (x.1.w.ag x.2)<(x.1.w.n:Int))/\(x.1.w.o=x.1.w.o/\0+(dflt (x.1.w.ad x.2) (x.1.w.ag x.2)).toNat<x.1.w.n)/\((x.1.w.f (0+(dflt (x.1.w.ad x.2) (x.1.w.ag x.2)).toNat)).length<=9223372036854775808/\(x.1.w.f (0+(dflt (x.1.w.ad x.2) (x.1.w.ag x.2)).toNat)).length<1099511627776)/\(aY (x.1.w.f (0+(dflt (x.1.w.ad x.2) (x.1.w.ag x.2)).toNat))=F ->(I (dflt (x.1.s.ud x.2) (x.1.s.us x.2)=0)=F->(0+x.1.s.ns.length<=x.1.s.ns.length/\True/\2*(x.1.s.ns.length+1)*16<=(281474976710656:Nat)/\x.1.s.ns.length+1<(9223372036854775808:Nat))/\x.1.c1*1=x.1.c1*1/\∀(u10:Nat),x.1.s.ns.length+1<=u10->I6 (dflt (x.1.s.ud x.2) (x.1.s.us x.2)+1)/\(bJ x.1.w x.2=F->∃(u9:Nat×Nat),((if x.1.s.used x.2=0 then x.1.s.ns++[x.1.w.at x.2] else x.1.s.ns).length<=u9.1/\x.1.s.fs.length<=u9.2)/\(∀(u8:Nat->Nat),SV.val u8 (SV.agg (aU (getD (x.1.w.f (0+(dflt (x.1.w.ad x.2) (x.1.w.ag x.2)).toNat)))))=SV.val u8 (getD (x.1.w.at x.2)).sv)/\(7:Nat)=(7:Nat)/\x.1.w.fr=x.1.w.fr/\x.1.w.to=x.1.w.to/\(0:Nat)=(0:Nat)/\(0:Nat)=(0:Nat)/\((0:Nat)=(0:Nat)/\x.1.s.ns.length+1=(if x.1.s.used x.2=0 then x.1.s.ns++[x.1.w.at x.2] else x.1.s.ns).length/\u10=u9.1)/\True/\(x.1.s.lk:Int)=(x.1.s.lk:Int)/\((0:Nat)=(0:Nat) /\x.1.s.fs.length=x.1.s.fs.length/\x.1.c2=u9.2)/\True/\aa (SB.fmap (dN x.1.s.ud x.2) (aC.int Q (fK x.1.s.us x.2 (dflt (x.1.s.ud x.2) (x.1.s.us x.2)+1))) J) (eU (Wk.take x.1.w x.1.s x.2))/\aa (SB.rows F (x.1.s.ns.length+1) [ak.str λu7=>if u7<x.1.s.ns.length then x.1.s.ns.getD u7 [] else bT [x.1.w.f (0+(dflt (x.1.w.ad x.2) (x.1.w.ag x.2)).toNat)] (u7 - x.1.s.ns.length)] C (u10*1) 9) (dU (Wk.take x.1.w x.1.s x.2) u9.1)/\aa (SB.rows F x.1.s.fs.length [bY x.1.s.fs,bZ x.1.s.fs] C (x.1.c2*2) 50) (dy (Wk.take x.1.w x.1.s x.2) u9.2)/\aa (SB.cells [SV.map 5] 1 90) (SB.cells [SV.map 5] 1 90)/\aa (SB.fmap x.1.w.ad (aC.int Q x.1.w.ag) J) (SB.fmap x.1.w.ad (aC.int Q x.1.w.ag) J)/\aa (SB.cells [SV.bH 7 1 x.1.w.z x.1.w.o 0 x.1.w.n x.1.w.c] 1 29) (SB.cells [SV.bH 7 1 x.1.w.z x.1.w.o 0 x.1.w.n x.1.w.c] 1 29)/\True)/\(bJ x.1.w x.2=C->∃(_:List UInt8×List UInt8),False))/\(I (dflt (x.1.s.ud x.2) (x.1.s.us x.2)=0)=C ->I6 (dflt (x.1.s.ud x.2) (x.1.s.us x.2)+1)/\(bJ x.1.w x.2=F->∃(u5:Nat×Nat),((if x.1.s.used x.2=0 then x.1.s.ns++[x.1.w.at x.2] else x.1.s.ns).length<=u5.1/\x.1.s.fs.length<=u5.2)/\(∀(u4:Nat->Nat),SV.val u4 (SV.agg (aU (getD (x.1.w.f (0+(dflt (x.1.w.ad x.2) (x.1.w.ag x.2)).toNat)))))=SV.val u4 (getD (x.1.w.at x.2)).sv)/\(7:Nat)=(7:Nat)/\x.1.w.fr=x.1.w.fr/\x.1.w.to=x.1.w.to/\(0:Nat)=(0:Nat)/\(0:Nat)=(0:Nat)/\((0:Nat)=(0:Nat)/\x.1.s.ns.length=(if x.1.s.used x.2=0 then x.1.s.ns++[x.1.w.at x.2] else x.1.s.ns).length/\x.1.c1=u5.1)/\True/\(x.1.s.lk:Int)=(x.1.s.lk:Int)/\((0:Nat)=(0:Nat)/\x.1.s.fs.length=x.1.s.fs.length/\x.1.c2=u5.2)/\True/\aa (SB.fmap (dN x.1.s.ud x.2) (aC.int Q (fK x.1.s.us x.2 (dflt (x.1.s.ud x.2) (x.1.s.us x.2)+1))) J) (eU (Wk.take x.1.w x.1.s x.2)) /\aa (SB.rows F x.1.s.ns.length [jc x.1.s.ns] C (x.1.c1*1) 9) (dU (Wk.take x.1.w x.1.s x.2) u5.1)/\aa (SB.rows F x.1.s.fs.length [bY x.1.s.fs,bZ x.1.s.fs] C (x.1.c2*2) 50) (dy (Wk.take x.1.w x.1.s x.2) u5.2)/\aa (SB.cells [SV.map 5] 1 90) (SB.cells [SV.map 5] 1 90)/\aa (SB.fmap x.1.w.ad (aC.int Q x.1.w.ag) J) (SB.fmap x.1.w.ad (aC.int Q x.1.w.ag) J)/\aa (SB.cells [SV.bH 7 1 x.1.w.z x.1.w.o 0 x.1.w.n x.1.w.c] 1 29) (SB.cells [SV.bH 7 1 x.1.w.z x.1.w.o 0 x.1.w.n x.1.w.c] 1 29)/\True)/\(bJ x.1.w x.2=C->∃(_:List UInt8×List UInt8),False)))/\(aY (x.1.w.f (0+(dflt (x.1.w.ad x.2) (x.1.w.ag x.2)).toNat))=C->(bJ x.1.w x.2=F->∃(u2:Nat×Nat),((if x.1.s.used x.2=0 then x.1.s.ns++[x.1.w.at x.2] else x.1.s.ns).length<=u2.1/\x.1.s.fs.length<=u2.2)/\False)/\(bJ x.1.w x.2=C->∃(u1:List UInt8×List UInt8),(∀(u0:Nat->Nat),SV.val u0 P0=SV.val u0 cW)/\(0:Nat)=(0:Nat) /\aa (SB.cells [SV.str F [(110:UInt8),(111:UInt8),(32:UInt8),(110:UInt8),(111:UInt8),(100:UInt8),(101:UInt8),(58:UInt8)],SV.str C x.2] 2 207) (SB.cells [SV.str C u1.1,SV.str C u1.2] 2 207)/\True)))))) (SV.agg (SV.int .i64 F 0::SV.str F []::SV.str F []::E6))):=by kernel_rfl
end
end Go.Proofs.YtoibaecagklkaaaGreatDoor
