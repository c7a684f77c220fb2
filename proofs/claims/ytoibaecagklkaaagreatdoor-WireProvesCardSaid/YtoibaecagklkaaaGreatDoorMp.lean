/- A part of the proof. -/
import Derived.Test.YtoibaecagklkaaaGreatDoorMo
open And renaming intro->L
open Bool renaming and_eq_true->O,false->C,false_eq_true->Z,not_false->c6,not_true->c7,true->F,true_eq_false->an
open Decidable renaming decide->I
open Go.IntKind renaming i64->Q
open Go.Op renaming bytesLess->V
open Go.Proofs.Tryz renaming f111->a!,f128->c_,f130->bf,f157->b5,f158->b6,f159->b9,f42->b_,f43->b!,prog->M
open List renaming getElem?_cons_succ->c!,getElem?_map->ct,map_cons->dm
open Nat renaming blt->T,blt_eq->W,le_add_right->d_,le_trans->cy,lt_of_lt_of_le->d!,mul_one->c4,not_lt_zero->a_,zero_le->c5
open Option renaming none->J,some->H
namespace Go.Proofs.YtoibaecagklkaaaGreatDoor
open Go Sx
variable {b:Bool}{a base i n:Nat}{r:Nat->f_}{E ρ:Nat->Nat}{t t':Ren->VC}
section
open Go Sx
set_option maxRecDepth 20000
theorem Kf (h:bw (r i)=F)(j:Nat)(hj:j<aV r i+1):(if j<aV r i then c8 r i j else ck [af (r i)] (j-aV r i))=c8 r (i+1) j:=by
 show _=(bif bw (r i)then(if j=aV r i then af (r i)else c8 r i j)else c8 r i j)
 rw[h];simp only[cond_true];by_cases e:j<aV r i
 ·rw[r_ e,s_ (by omega)]
 ·have e:j=aV r i:=by omega
  subst e;rw[s_ (by omega),r_ rfl,Nat.sub_self];rfl
theorem vz (h:bw (r i)=F):aV r (i+1)=aV r i+1:=by rw[aV,h];rfl
theorem eX (h:bw (r i)=C):aV r (i+1)=aV r i/\∀ j,c8 r (i+1) j=c8 r i j:=by
 refine⟨by rw[aV,h];rfl,λj=> ?_⟩;show(bif bw (r i)then(if j=aV r i then af (r i)else c8 r i j)else c8 r i j)=_
 rw[h];rfl
theorem HP {x:Nd}(hp:Fits x):ay (gT (PF x) 128 c_ [x.sv] (Bi x)):=by
 refine ay.mS (YK x) (by delta Bk Fk;exact rfl) ?_;have ev:=uu (qL x);rw[ev];refine⟨Cd hp,λa=>⟨λb=> ?_,λ_ _=>rfl⟩,λa R=>⟨⟨(0,0),⟨c5 _,Nat.le_refl _⟩,rfl,rfl,rfl,rfl,aa.refl _,aa.refl _,aa.refl _,trivial⟩,λg hg=>⟨λc=> ?_,λc=> ?_⟩⟩⟩
 ·rw[b] at a;cases a
 ·have c:=l_ c;have ei:g.1<16:=by omega
  rw[Int.toNat_natCast,uU x.r ei];have hf:=hp g.1 ei;have hn:=wU x.r g.1;have hg2:=hg.2;have hs:aZ x=true:=by simpa using a
  refine⟨by omega,λd=> ?_,λd=> ?_⟩
  ·have d: ¬ x.r g.1=[]:=by simpa using d
   refine⟨rfl,hf,λe=> ?_,λe=>⟨⟨.inl hf,hf⟩,λf=> ?_,λf=> ?_⟩⟩
   ·refine⟨⟨by omega,trivial,by omega,by omega⟩,by omega,λcap hcap=>⟨by omega,(g.1+1,cap),⟨⟨by show g.1+1<=16;omega,?_⟩,by show 16-(g.1+1)<_;omega⟩,by show(g.1:Int)+1=((g.1+1:Nat):Int);omega,rfl,⟨rfl,(vz e).symm,rfl⟩,trivial,?_,aa.refl _,aa.refl _,aa.refl _,trivial⟩⟩
    ·show aV x.r (g.1+1)<=cap;rw[vz e];exact hcap
    ·exact Sx.aa.nZ (vz e).symm (c4 cap) λj hj=>Kf e j hj
   ·have hk:=tI f;have hil:=qh f;refine⟨F1 (qL (getD (x.r g.1))) (Ir hk.1 (by omega) hil),rfl,⟨by omega,trivial,by omega,by omega⟩,by omega,λcap hcap=>⟨by omega,(g.1+1,cap),⟨⟨by show g.1+1<=16;omega,?_⟩,by show 16-(g.1+1)<_;omega⟩,by show(g.1:Int)+1=((g.1+1:Nat):Int);omega,rfl,⟨rfl,(eX e).1.symm,rfl⟩,trivial,?_,aa.refl _,aa.refl _,aa.refl _,trivial⟩⟩
    ·show aV x.r (g.1+1)<=cap;rw[(eX e).1];exact hcap
    ·exact Sx.aa.nZ (eX e).1.symm (c4 cap) λj _=>((eX e).2 j).symm
   ·refine⟨F2 (by decide),rfl,⟨by omega,trivial,by omega,by omega⟩,by omega,λcap hcap=>⟨by omega,(g.1+1,cap),⟨⟨by show g.1+1<=16;omega,?_⟩,by show 16-(g.1+1)<_;omega⟩,by show(g.1:Int)+1=((g.1+1:Nat):Int);omega,rfl,⟨rfl,(eX e).1.symm,rfl⟩,trivial,?_,aa.refl _,aa.refl _,aa.refl _,trivial⟩⟩
    ·show aV x.r (g.1+1)<=cap;rw[(eX e).1];exact hcap
    ·exact Sx.aa.nZ (eX e).1.symm (c4 cap) λj _=>((eX e).2 j).symm
  ·have d:x.r g.1=[]:=by simpa using d
   have e:bw (x.r g.1)=false:=by rw[d];rfl
   refine⟨by omega,(g.1+1,g.2),⟨⟨by show g.1+1<=16;omega,?_⟩,by show 16-(g.1+1)<_;omega⟩,by show(g.1:Int)+1=((g.1+1:Nat):Int);omega,rfl,⟨rfl,(eX e).1.symm,rfl⟩,trivial,?_,aa.refl _,aa.refl _,aa.refl _,trivial⟩
   ·show aV x.r (g.1+1)<=g.2;rw[(eX e).1];exact hg2
   ·exact Sx.aa.nZ (eX e).1.symm rfl λj _=>((eX e).2 j).symm
 ·have c:=m_ c;have hg1:=hg.1;have e:g.1=16:=by omega
  have hg2:=hg.2;rw[e] at hg2 ⊢;exact⟨λ_=>⟨g.2,hg2,aa.refl _,λ_=>rfl⟩,λh=>by rw[h] at a;cases a⟩
theorem Ss:ax M 128 (bY (tU λx=>H (Fits x,Bi x))):=by
 refine ee (n:=20) Tryz.func128 (by kernel_rfl) (by kernel_rfl) ?_;intro args p a h hp;obtain⟨x,hx,hg⟩:=C8 h;subst hx;cases hg;refine⟨PF x,ady x,rfl,λb=> ?_,HP hp⟩;cases b with
 | false=>exact rfl
 | true =>
   intro c;refine⟨rfl,rfl,λk=>by simp[SV.wf,W],λE E' k k' h=> ?_⟩;cases hn:aV x.r 16 with
   | zero=>rfl
   | succ n =>rw[hn] at h;have hk:E k=E' k':=h rfl;simp[SV.val,hk]
end
namespace Sx
open Go
noncomputable section
mutual
def SV.aM (ρ:Nat->Nat):SV->SV
 | .ptr k l o=>.ptr (ρ k) l o
 | .lS k w i j=>.lS (ρ k) w i j
 | .pT k b n i=>.pT (ρ k) b n i
 | .slc k o n l c=>.slc (ρ k) o n l c
 | .aX k w z i n c=>.aX (ρ k) w z i n c
 | .bE k w z o i n c=>.bE (ρ k) w z o i n c
 | .i9 k w o i j=>.i9 (ρ k) w o i j
 | .map k=>.map (ρ k)
 | .yield k=>.yield (ρ k)
 | .agg cs=>.agg (SV.kM ρ cs)
 | .aN vs=>.aN (SV.kM ρ vs)
 | .iface t v=>.iface t (v.aM ρ)
 | .func fn a b=>.func fn (SV.kM ρ a) (SV.kM ρ b)
 | .int k l n=>.int k l n
 | .bool l b=>.bool l b
 | .str l s=>.str l s
 | .cD=>.cD
 | .aO=>.aO
 | .aC=>.aC
 | .fM=>.fM
 | .fU=>.fU
 | .raw v=>.raw v
 | .ga k a o=>.ga (ρ k) a o
 | .b7 k w z a i n c=>.b7 (ρ k) w z a i n c
 | .n7 k w a i j=>.n7 (ρ k) w a i j
def SV.kM (ρ:Nat->Nat):List SV->List SV
 | []=>[]
 | x::r=>x.aM ρ::SV.kM ρ r
end
mutual
theorem SV.jf (ρ E:Nat->Nat):(v:SV)->(v.aM ρ).val E=v.val (λk=>E (ρ k))
 | .agg cs=>by simp only[SV.aM,SV.val,SV.sM ρ E cs]
 | .aN cs=>by simp only[SV.aM,SV.val,SV.sM ρ E cs]
 | .iface t v=>by simp only[SV.aM,SV.val,SV.jf ρ E v]
 | .func fn a b=>by simp only[SV.aM,SV.val,SV.sM ρ E a,SV.sM ρ E b]
 | .ptr .. =>rfl
 | .lS .. =>rfl
 | .pT .. =>rfl
 | .slc .. =>rfl
 | .aX .. =>rfl
 | .bE .. =>rfl
 | .i9 .. =>rfl
 | .map .. =>rfl
 | .yield .. =>rfl
 | .int .. =>rfl
 | .bool .. =>rfl
 | .str .. =>rfl
 | .cD=>rfl
 | .aO=>rfl
 | .aC=>rfl
 | .fM=>rfl
 | .fU=>rfl
 | .raw .. =>rfl
 | .ga .. =>rfl
 | .b7 .. =>rfl
 | .n7 .. =>rfl
theorem SV.sM (ρ E:Nat->Nat):(l:List SV)->SV.vals E (SV.kM ρ l)=SV.vals (λk=>E (ρ k)) l
 | []=>rfl
 | x::r=>by simp only[SV.kM,SV.vals,SV.jf ρ E x,SV.sM ρ E r]
end
theorem SV.ni : ∀ {l:List SV} {i:Nat} {u:SV},(SV.kM ρ l)[i]?=H u->∃ v,l[i]?=H v/\u=v.aM ρ
 | [],i,u,h=>by simp[SV.kM] at h
 | x::r,0,u,h=>by simp[SV.kM] at h;exact⟨x,rfl,h.symm⟩
 | x::r,i+1,u,h=>by simp only[SV.kM,c!] at h;obtain⟨v,h1,h2⟩:=SV.ni h;exact⟨v,by simpa using h1,h2⟩
def JY (ρ:Nat->Nat):List (Nat×SV×SV)->List (Nat×SV×SV)
 | []=>[]
 | e::r=>(e.1,e.2.1.aM ρ,e.2.2.aM ρ)::JY ρ r
theorem B8 (ρ E:Nat->Nat): ∀ es:List (Nat×SV×SV),eS E (JY ρ es)=eS (λk=>E (ρ k)) es
 | []=>rfl
 | e::r=>by have:=B8 ρ E r;simp only[eS,JY,dm] at this ⊢;rw[SV.jf,SV.jf,this]
def av.aM (ρ:Nat->Nat):av->av
 | .ref k f=>.ref (ρ k) f
 | .b7 k w z f n c=>.b7 (ρ k) w z f n c
 | c=>c
theorem av.jf (ρ E:Nat->Nat)(c:av)(i:Nat):((c.aM ρ).at i).val E=(c.at i).val E:=by cases c<;>rfl
def av.kM (ρ:Nat->Nat):List av->List av
 | []=>[]
 | c::r=>c.aM ρ::av.kM ρ r
def cg.aM (ρ:Nat->Nat):cg->cg
 | .ref k f=>.ref (ρ k) f
 | c=>c
theorem cg.Q4 : ∀ {l:List cg},av.kM ρ (l.map (cg.at a))=(l.map (cg.aM ρ)).map (cg.at a)
 | []=>rfl
 | c::r=>by simp only[dm,av.kM,cg.Q4];congr 1;cases c<;>rfl
theorem av.xI : ∀ {l:List av},(av.kM ρ l).length=l.length
 | []=>rfl
 | c::r=>by simp only[av.kM,List.length_cons,av.xI]
theorem av.ni : ∀ {l:List av} {k:Nat} {c:av},(av.kM ρ l)[k]?=H c->∃ c0,l[k]?=H c0/\c=c0.aM ρ
 | [],_,_,h=>by cases h
 | x::r,0,_,h=>by simp[av.kM] at h;exact⟨x,rfl,h.symm⟩
 | x::r,k+1,_,h=>by simp only[av.kM,c!] at h;simpa using av.ni h
theorem av.X1 : ∀ {l:List av} {k:Nat} {v:SV},((av.kM ρ l).map (av.at a))[k]?=H v->∃ u,(l.map (av.at a))[k]?=H u/\v.val E=u.val E:=λ{l k v} h=>by
 rw[ct] at h;cases hc:(av.kM ρ l)[k]? with
 | none=>rw[hc] at h;cases h
 | some c =>rw[hc] at h;cases h;obtain⟨c0,h1,rfl⟩:=av.ni hc;exact⟨c0.at a,by rw[ct,h1];rfl,av.jf ρ E c0 a⟩
def aE.aM (ρ:Nat->Nat):aE->aE
 | .ref k f=>.ref (ρ k) f
 | c=>c
theorem aE.jf (ρ:Nat->Nat)(c:aE)(s:f_):(c.aM ρ).val s=c.val s:=by cases c<;>rfl
def SB.aM (ρ:Nat->Nat):SB->SB
 | .cells cs tot ty=>.cells (SV.kM ρ cs) tot ty
 | .rows z n az ro tot ty=>.rows z n (av.kM ρ az) ro tot ty
 | .view z o n az=>.view z o n (av.kM ρ az)
 | .map es c=>.map (JY ρ es) c
 | .Zw (H k) a b c=>.Zw (H (ρ k)) a b c
 | .eD D cs tot ty ro=>.eD D (av.kM ρ cs) tot ty ro
 | .dQ D n az ro=>.dQ D n (az.map (cg.aM ρ)) ro
 | .fmap d c p=>.fmap d (c.aM ρ) p
 | B=>B
theorem SB.Oz (ρ:Nat->Nat)(B:SB):(B.aM ρ).ro=B.ro:=by
 cases B<;>try rfl
 rename_i mp _ _ _;cases mp<;>rfl
theorem SB.xH (ρ:Nat->Nat)(B:SB)(b a:Nat):(B.aM ρ).gB b a↔B.gB b a:=by
 cases B<;>try exact Iff.rfl
 rename_i mp _ _ _;cases mp<;>exact Iff.rfl
theorem bK.Q3 {E':Nat->Nat}{z:Bool}{o:Nat}{az:List av}{ob:Obj}(h:bK E' (.view z o n az) ob):bK E (.view z o n (av.kM ρ az)) ob:=by obtain⟨c,ty,fr,h1,h2⟩:=h;refine⟨c,ty,fr,h1,λi k col hi hk=> ?_⟩;obtain⟨c0,g1,rfl⟩:=av.ni hk;rw[av.xI,av.jf,h2 i k c0 hi g1,SV.val_congr (E:=E) (nx:=0) (λk hk=>absurd hk (a_ _)) _ (av.ET i 0 c0)]
theorem bK.aM {B:SB}{o:Obj}(h:bK (λk=>E (ρ k)) (B.el a) o):bK E ((B.aM ρ).el a) o:=by
 cases B with
 | cells cs tot ty =>obtain⟨c,fr,h1,h2,h3,h4⟩:=h;refine⟨c,fr,h1,h2,λi u hu=> ?_,h4⟩;obtain⟨v,g1,g2⟩:=SV.ni hu;subst g2;rw[SV.jf];exact h3 i v g1
 | map es c =>have h:o=.map (eS _ es).toArray c:=h;show o=.map (eS E (JY ρ es)).toArray c;rw[B8,h]
 | Zw mp a b c =>
   cases mp with
   | none=>exact h
   | some k=>exact h
 | rows z n az ro tot ty =>obtain⟨c,fr,h1,h2,h3,h4,h5⟩:=h;refine⟨c,fr,h1,h2,by rw[av.xI];exact h3,h4,λi k col hi hk=> ?_⟩;obtain⟨c0,g1,rfl⟩:=av.ni hk;rw[av.xI,av.jf,h5 i k c0 hi g1,SV.val_congr (E:=E) (nx:=0) (λk hk=>absurd hk (a_ _)) _ (av.ET i 0 c0)]
 | view z o n az=>exact bK.Q3 h
 | loop=>exact h
 | fmap d c p =>obtain⟨es,cl,h1,h2⟩:=h;exact⟨es,cl,h1,⟨h2.st,h2.ks,λs hs=>by rw[aE.jf];exact h2.has s hs,h2.no,h2.pd⟩⟩
 | eD D cs tot ty ro =>
   obtain⟨c,fr,h1,h2,h3,h4⟩:=h;refine⟨c,fr,h1,h2,λi u hu=> ?_,h4⟩;obtain⟨v,g1,g2⟩:=av.X1 (E:=E) hu;have hv:v.wf 0=true:=by
    rw[ct] at g1;cases hc:cs[i]? with
    | none=>rw[hc] at g1;cases g1
    | some c0=>rw[hc] at g1;cases g1;exact av.ET a 0 c0
   rw[h3 i v g1,g2];exact congrArg H (SV.val_congr (nx:=0) (λk hk=>absurd hk (a_ _)) v hv)
 | dQ D n az ro =>have:=bK.Q3 (ρ:=ρ) (E:=E) h;rw[cg.Q4] at this;exact this
def lJ (base:Nat):List SV->List SV->Ren->(Ren->VC)->VC
 | [],[],aM,t=>t aM
 | h::hs,u::us,aM,t=>sR base aM h u (λaM=>lJ base hs us aM t)
 | _,_,_,_=>.fail "call: so many arguments"
theorem jV {base:Nat}: ∀ {hs us:List SV} {aM:Ren} {t:Ren->VC},(lJ base hs us aM t).holds->
  ∃ ren',aM.le ren'/\(t ren').holds/\∀ ren'' (E:Nat->Nat),ren'.le ren''->SV.vals (Ren.E base ren'' E) hs=SV.vals E us
 | [],[],aM,t,h=>⟨aM,Ren.le_refl _,h,λ_ _ _=>rfl⟩
 | h::hs,u::us,aM,t,hh=>by simp only[lJ] at hh;obtain⟨r1,h1,h2,h3⟩:=qK hh;obtain⟨r2,g1,g2,g3⟩:=jV h2;exact⟨r2,Ren.le_trans h1 g1,g2,λr'' E hle=>by simp only[SV.vals];rw[h3 r'' E (Ren.le_trans g1 hle),g3 r'' E hle]⟩
 | [],_::_,_,_,h=>h.elim
 | _::_,[],_,_,h=>h.elim
theorem dN {aM:Ren}{kh k1:Nat}(ht: ∀ r,(t r).holds->(t' r).holds)(h:(dR base aM kh k1 t).holds):(dR base aM kh k1 t').holds:=by
 unfold dR at h ⊢;revert h;cases T kh base with
 | true =>
   by_cases e:kh=k1
   ·simp only[r_ e];exact ht _
   ·simp only[s_ e];exact id
 | false =>
   cases aM.get kh with
   | none=>exact ht _
   | some k =>
     by_cases e:k=k1
     ·simp only[r_ e];exact ht _
     ·simp only[s_ e];exact id
theorem ow {base:Nat}: ∀ {a b:List SV} {aM:Ren} {t t':Ren->VC},(∀ r,(t r).holds->(t' r).holds)->(jW base a b aM t).holds->(jW base a b aM t').holds
 | a,b,aM,t,t',ht,h=>by
   revert h;unfold jW;split
   ·exact ht _
   ·exact dN (t:=λr=>.and (kD _ _) (jW base _ _ r t)) (λr h=>L h.1 (ow ht h.2))
   ·exact id
theorem ov {aM:Ren}{a b:SV}(ht: ∀ r,(t r).holds->(t' r).holds):(lK base aM a b t).holds->(lK base aM a b t').holds:=by
 unfold lK
 split<;>first
  | exact ht _
  | exact λh=>L h.1 (ht _ h.2)
  | exact dN ht
  | exact dN (t:=λr=>.and (kD _ _) (t r)) (λr h=>L h.1 (ht r h.2))
  | exact dN (t:=λr=>.and (.and _ _) (t r)) (λr h=>L h.1 (ht r h.2))
  | exact dN (t:=λr=>.and (.and _ _) (.and _ (t r))) (λr h=>L h.1 (L h.2.1 (ht r h.2.2)))
  | exact dN (t:=λr=>.and (kD _ _) (.and (kD _ _) (t r))) (λr h=>L h.1 (L h.2.1 (ht r h.2.2)))
  | (split<;>first
    | exact id
    | exact λh=>L h.1 (ht _ h.2)
    | exact dN (t:=λr=>.and (kD _ _) (t r)) (λr h=>L h.1 (ht r h.2))
    | exact dN (t:=λr=>.and (.and _ _) (t r)) (λr h=>L h.1 (ht r h.2))
    | exact dN (t:=λr=>.and (.and _ _) (.and _ (t r))) (λr h=>L h.1 (L h.2.1 (ht r h.2.2)))
    | exact dN (t:=λr=>.and (kD _ _) (.and (kD _ _) (.and (kD _ _) (.and (kD _ _) (t r))))) (λr h=>L h.1 (L h.2.1 (L h.2.2.1 (L h.2.2.2.1 (ht r h.2.2.2.2)))))
    | exact ow (λ_ h=>ow ht h))
theorem iE {base:Nat}: ∀ {a b:List SV} {aM:Ren} {t t':Ren->VC},(∀ r,(t r).holds->(t' r).holds)->(iO base a b aM t).holds->(iO base a b aM t').holds
 | [],[],_,_,_,ht,h=>ht _ h
 | _::_,_::_,_,_,_,ht,h=>ov (λ_ h=>iE ht h) h
 | [],_::_,_,_,_,_,h=>h.elim
 | _::_,[],_,_,_,_,h=>h.elim
theorem AJ {aM:Ren}{a b:SV}(ht: ∀ r,(t r).holds->(t' r).holds)(h:(sR base aM a b t).holds):(sR base aM a b t').holds:=by
 unfold sR at h ⊢;split at h
 ·exact iE ht h
 ·exact iE ht h
 ·split at h
  ·rename_i e;rw[r_ e];split at h
   ·exact iE ht h
   ·exact ov ht h
  ·exact h.elim
 ·exact ov ht h
theorem ou {base:Nat}: ∀ {a b:List SV} {aM:Ren} {t t':Ren->VC},(∀ r,(t r).holds->(t' r).holds)->(lJ base a b aM t).holds->(lJ base a b aM t').holds
 | [],[],_,_,_,ht,h=>ht _ h
 | _::_,_::_,_,_,_,ht,h=>AJ (λ_ h=>ou ht h) h
 | [],_::_,_,_,_,_,h=>h.elim
 | _::_,[],_,_,_,_,h=>h.elim
theorem gN {base:Nat}{m:Mem}: ∀ {l:List (Nat×SB)} {used:List Nat} {aM:Ren} {t t':Ren->VC},(∀ r,(t r).holds->(t' r).holds)->(fz base m l used aM t).holds->(fz base m l used aM t').holds
 | [],_,_,_,_,ht,h=>ht _ h
 | (k0,B0)::r,used,aM,t,t',ht,h=>by
   simp only[fz] at h ⊢;revert h;cases dM base aM k0 with
   | none =>
     cases B0.wf base with
     | true=>cases B0.jK with
       | true=>exact λh=>L h.1 (gN ht h.2)
       | false=>exact λh=>L h.1 (gN ht h.2)
     | false=>exact id
   | some k1 =>
     by_cases hu:used.contains k1=F
     ·simp only[r_ hu];exact id
     ·simp only[s_ hu];cases m.get k1 with
      | none=>exact id
      | some B =>
        cases B0.wf base with
        | true=>exact λh=>L h.1 (gN ht h.2)
        | false =>
          cases B0<;>try exact id
          cases B<;>try exact id
          rename_i cs' tot' ty' cs tot ty;by_cases e:ty'=ty
          ·simp only[r_ e];exact λh=>L h.1 (iE (λ_ h=>gN ht h) h.2)
          ·simp only[s_ e];exact id
inductive gF:Type 1 where
 | ret (v:SV) (back:Mem)
 | fork (b:Bool) (f:Bool->gF)
 | all (α:Type) (f:α->gF)
 | req (p:Prop) (a:gF)
def gF.rW (g:SV->Mem->VC):gF->VC
 | .ret v back=>g v back
 | .fork b f=>Sx.fork b λc=>(f c).rW g
 | .all α f=>.all α λx=>(f x).rW g
 | .req p a=>.imp p (a.rW g)
def gF.ask (g:SV->Mem->VC):gF->VC
 | .ret v back=>g v back
 | .fork b f=>Sx.fork b λc=>(f c).ask g
 | .all α f=>.ex α λx=>(f x).ask g
 | .req p a=>.and (.atom p) (a.ask g)
theorem gF.meet {g h:SV->Mem->VC}: ∀ {a:gF},(a.ask g).holds->(a.rW h).holds->∃ v back,(g v back).holds/\(h v back).holds
 | .ret v back,h1,h2=>⟨v,back,h1,h2⟩
 | .fork b f,h1,h2=>by simp only[gF.ask,gF.rW,bP] at h1 h2;exact gF.meet h1 h2
 | .all α f,⟨x,h1⟩,h2=>gF.meet h1 (h2 x)
 | .req p a,⟨h0,h1⟩,h2=>gF.meet h1 (h2 h0)
theorem gF.mz {g h:SV->Mem->VC}(hg: ∀ v m,(g v m).holds->(h v m).holds): ∀ {a:gF},(a.rW g).holds->(a.rW h).holds
 | .ret v back,h1=>hg _ _ h1
 | .fork b f,h1=>by simp only[gF.rW,bP] at h1 ⊢;exact gF.mz hg h1
 | .all α f,h1=>λx=>gF.mz hg (h1 x)
 | .req p a,h1=>λh0=>gF.mz hg (h1 h0)
structure gP where
 G:Type
 n:Nat
 N:Nat
 pre:G->Prop
 args:G->List SV
 mem:G->Mem
 wo:G->gF
 gh:SV->Mem->List Gh:=λ_ _=>[]
def pF (n:Nat)(aM:Ren)(nx k:Nat):Nat:=match T k n,aM.get k with
 | true,H k1=>k1
 | _,_=>nx+k
def EG (ρ:Nat->Nat):Mem->Mem
 | []=>[]
 | e::r=>(ρ e.1,e.2.aM ρ)::EG ρ r
def nk (aM:Ren):Mem->List Nat
 | []=>[]
 | e::r=>match e.2.ro,aM.get e.1 with
   | false,H k1=>k1::nk aM r
   | _,_=>nk aM r
def AH (nx:Nat):Ren->Bool
 | []=>F
 | e::r=>T e.2 nx&&AH nx r
def tj (N:Nat):Mem->Bool
 | []=>F
 | e::r=>T e.1 N&&(!e.2.ro)&&tj N r
def SV.aa7 (ρ:Nat->Nat)(v:SV):SV:=match v.wf 0&& !v.hint with
 | true=>v
 | false=>v.aM ρ
theorem SV.LF (ρ E:Nat->Nat)(v:SV):(v.aa7 ρ).val E=v.val (λk=>E (ρ k)):=by
 unfold SV.aa7;split
 ·rename_i h;rw[O] at h;exact SV.val_congr (nx:=0) (λk hk=>absurd hk (a_ _)) v h.1
 ·exact SV.jf ρ E v
def SV.Q2 (ρ:Nat->Nat):List SV->List SV
 | []=>[]
 | v::r=>v.aa7 ρ::SV.Q2 ρ r
theorem SV.Gl (ρ E:Nat->Nat): ∀ l:List SV,SV.vals E (SV.Q2 ρ l)=SV.vals (λk=>E (ρ k)) l
 | []=>rfl
 | v::r=>by simp only[SV.Q2,SV.vals,SV.LF,SV.Gl ρ E r]
def SV.Tr (ρ:Nat->Nat):SV->SV
 | .aN vs=>.aN (SV.Q2 ρ vs)
 | v=>v.aa7 ρ
theorem SV.LG (ρ E:Nat->Nat)(v:SV):(v.Tr ρ).val E=v.val (λk=>E (ρ k)):=by
 unfold SV.Tr;split
 ·simp only[SV.val,SV.Gl]
 ·exact SV.LF ρ E _
def abW:SV->SV->Bool
 | .bool F a,.bool F b=>a !=b
 | .int _ F a,.int _ F b=>!decide (a=b)
 | .aC,.iface .. =>F
 | .iface ..,.aC=>F
 | .cD,.ptr .. =>F
 | .ptr ..,.cD=>F
 | _,_=>C
def Vn:List SV->List SV->Bool
 | a::r,b::s=>match abW a b with
   | true=>F
   | false=>Vn r s
 | _,_=>C
def Vo:SV->SV->Bool
 | .aN a,.aN b=>Vn a b
 | a,b=>abW a b
def cM (c:gP):PT:=λargs m nx K=>.ex c.G λx=>.and (.atom (c.pre x)) (lJ 0 (c.args x) args [] λaM=>fz 0 m (c.mem x) [] aM λaM=>match AH nx aM with
 | true=>(c.wo x).rW λv back=>(match tj c.N back with
   | true=>K (v.Tr (pF c.n aM nx)) (EG (pF c.n aM nx) back++kT (nk aM (c.mem x)) m) (nx+c.N)
   | false=>.fail "call: blocks that are handed back")
 | false=>.fail "call: keys")
theorem cz (c:gP):aQ (cM c):=by
 intro args m nx K K' hK h;obtain⟨x,h1,h2⟩:=h;refine⟨x,h1,ou (λaM h=>gN (λaM h=> ?_) h) h2⟩;cases hr:AH nx aM with
 | false=>simp only[hr] at h;exact h.elim
 | true =>
   simp only[hr] at h ⊢;refine gF.mz (λv back=> ?_) h;cases tj c.N back with
   | false=>exact id
   | true=>exact hK _ _ _
def gP.fit (c:gP)(x:c.G):SV->Mem->Nat->VC:=λv m _=>Um (c.gh v m) [H v] m λvs m=>match vs with
 | [H v]=>(c.wo x).ask λu back=>(match Vo u v with
   | true=>.fail "call: another way"
   | false=>lJ c.n [u] [v] [] λaM=>fz c.n m back [] aM λ_=>.tt)
 | _=>.fail "call: no value"
theorem zE {nx:Nat}: ∀ {aM:Ren} {k k1:Nat},AH nx aM=F->aM.get k=H k1->k1<nx
 | [],_,_,_,h=>by cases h
 | e::r,k,k1,hb,h=>by
   simp only[AH,O,W] at hb;by_cases he:e.1=k
   ·rw[Ren.get,r_ he] at h;cases h;exact hb.1
   ·rw[Ren.get,s_ he] at h;exact zE hb.2 h
theorem vj {N:Nat}: ∀ {m:Mem} {k:Nat} {B:SB},tj N m=F->m.get k=H B->k<N/\B.ro=C
 | [],_,_,_,h=>by cases h
 | e::r,k,B,hb,h=>by
   simp only[tj,O,W,Bool.not_eq_true'] at hb;by_cases he:e.1=k
   ·rw[Mem.get,r_ he] at h;cases h;exact⟨he▸ hb.1.1,hb.1.2⟩
   ·rw[Mem.get,s_ he] at h;exact vj hb.2 h
theorem sq {ks:List Nat}: ∀ {m:Mem} {k:Nat} {B:SB},(kT ks m).get k=H B->k∉ ks/\m.get k=H B
 | [],_,_,h=>by cases h
 | e::r,k,B,h=>by
   simp only[kT] at h;cases hc:ks.contains e.1 with
   | true =>rw[hc] at h;obtain⟨h1,h2⟩:=sq h;refine⟨h1,?_⟩;rw[Mem.get,s_ (λx=>h1 (by rw[← x];simpa using hc))];exact h2
   | false =>
     rw[hc] at h;by_cases he:e.1=k
     ·simp only[Mem.get,he,if_true] at h ⊢;refine⟨λhk=> ?_,h⟩;have:ks.contains e.1=true:=by rw[he];simpa using hk
      rw[hc] at this;cases this
     ·simp only[Mem.get,he,if_false] at h ⊢;exact sq h
theorem xG {ρ:Nat->Nat}{m1:Mem}: ∀ {m2:Mem} {j:Nat} {X:SB},(EG ρ m2++m1).get j=H X->(∃ k B,m2.get k=H B/\ρ k=j/\X=B.aM ρ)∨m1.get j=H X
 | [],_,_,h=>.inr h
 | e::r,j,X,h=>by
   simp only[EG,List.cons_append] at h;rcases Mem.gu h with ⟨h1,h2⟩ | ⟨hne,h⟩
   ·exact .inl ⟨e.1,e.2,by rw[Mem.get,r_ rfl],h1.symm,h2⟩
   ·rcases xG h with ⟨k,B,g1,g2,g3⟩ | h
    ·refine .inl ⟨k,B,?_,g2,g3⟩;rw[Mem.get,s_ (λx=>hne (by rw[← g2,x]))];exact g1
    ·exact .inr h
theorem DJ {aM:Ren}: ∀ {fm:Mem} {k k1:Nat} {B:SB},fm.get k=H B->B.ro=C->aM.get k=H k1->k1∈ nk aM fm
 | [],_,_,_,h,_,_=>by cases h
 | e::r,k,k1,B,h,hr,hk=>by
   rcases Mem.gu (k0:=e.1) (B0:=e.2) h with ⟨h1,h2⟩ | ⟨hne,h⟩
   ·subst h1;subst h2;simp only[nk,hr,hk];exact List.mem_cons_self ..
   ·have:=DJ h hr hk;simp only[nk];split
    ·exact List.mem_cons_of_mem _ this
    ·exact this
theorem Q1 {aM:Ren}{k:Nat}:dM 0 aM k=aM.get k:=by
 have:T k 0=false:=by cases h:T k 0 with
  | false=>rfl
  | true=>rw[W] at h;omega
 simp[dM,this]
def iU (E:Nat->Nat)(fm:Mem)(b:Nat):Prop:=∃ k B,fm.get k=H B/\B.gB (E k) b/\B.ro=C
theorem aJ.adh {Γ E m nx w}(h:aJ Γ E m nx w){fm:Mem}{aM:Ren}(hb: ∀ kh B',fm.get kh=H B'->BD 0 m [] aM kh B')
  (hi: ∀ kh kh' B B' k1,fm.get kh=H B->(∃ b a,B.gB b a)->fm.get kh'=H B'->(∃ b a,B'.gB b a)->dM 0 aM kh=H k1->dM 0 aM kh'=H k1->kh=kh') (hlt: ∀ kh B',fm.get kh=H B'->kh<n) :
  ∃ gm,aJ (aT.at w (iU (Ren.E 0 aM E) fm) h.Cl gm) (Ren.E 0 aM E) fm n w:=by
 have hE: ∀ kh k1,dM 0 aM kh=H k1->Ren.E 0 aM E kh=E k1:=λkh k1 hr=>by simp[Ren.E,hr]
 have hg: ∀ {kh B' a},fm.get kh=H B'->B'.gB (Ren.E 0 aM E kh) a->∃ k1 B,dM 0 aM kh=H k1/\m.get k1=H B/\B.gB (E k1) a/\(∀ E1 o,bK E1 (B.el a) o->bK (Ren.E 0 aM E1) (B'.el a) o)/\(B'.ro=C->B.ro=C):=λ{kh B' a} hg ha=>by obtain⟨k1,B,g1,_,g3,g4,g5,g6⟩:=hb kh B' hg _ a ha;exact⟨k1,B,g1,g3,by rw[← hE kh k1 g1];exact g4,g5,g6⟩
 refine⟨λp hp ⟨k,B,g1,g2,g3⟩=> ?_,λkh B' a hk ha=> ?_,λkh kh' B B' a hk ha hk' ha' hr=> ?_,hlt,λkh B' a hg hn hro=>.inl ⟨kh,B',hg,hn,hro⟩,Ext.refl _ _,⟨c5 _,λk hk=>absurd hk (a_ _)⟩,λD hD=>by cases hD⟩
 ·obtain⟨k1,X,_,q3,q4,_,q6⟩:=hg g1 g2;exact h.QI q3 q4 (q6 g3) p hp rfl
 ·obtain⟨k1,X,_,q3,q4,q5,_⟩:=hg hk ha;obtain⟨o,ho,hbo⟩:=h.hJ k1 X a q3 q4;exact⟨o,ho,q5 E o hbo⟩
 ·obtain⟨k1,X,g1,g3,g5,_,g7⟩:=hg hk ha;obtain⟨k1',X',g1',g3',g5',_,g7'⟩:=hg hk' ha';have:=h.iw k1 k1' X X' a g3 g5 g3' g5' (hr.imp g7 g7');subst this;exact hi kh kh' B B' k1 hk ⟨_,_,ha⟩ hk' ⟨_,_,ha'⟩ g1 g1'
theorem aJ.told {Γ:aT}(hΓ:Γ.rj=0){E m nx w}(h:aJ Γ E m nx w){N:Nat}{aM:Ren}{m2:Mem}(hb: ∀ kh B',m2.get kh=H B'->BD n m [] aM kh B')
  (hi: ∀ kh kh' B B' k1,m2.get kh=H B->(∃ b a,B.gB b a)->m2.get kh'=H B'->(∃ b a,B'.gB b a)->dM n aM kh=H k1->dM n aM kh'=H k1->kh=kh') (hlt: ∀ kh B',m2.get kh=H B'->kh<N) :
  aJ Γ (Ren.E n aM E) m2 N w:=by
 have hE: ∀ kh k1,dM n aM kh=H k1->Ren.E n aM E kh=E k1:=λkh k1 hr=>by simp[Ren.E,hr]
 have hg: ∀ {kh B' a},m2.get kh=H B'->B'.gB (Ren.E n aM E kh) a->∃ k1 B,dM n aM kh=H k1/\m.get k1=H B/\B.gB (E k1) a/\(∀ E1 o,bK E1 (B.el a) o->bK (Ren.E n aM E1) (B'.el a) o)/\(B'.ro=C->B.ro=C):=λ{kh B' a} hg ha=>by obtain⟨k1,B,g1,_,g3,g4,g5,g6⟩:=hb kh B' hg _ a ha;exact⟨k1,B,g1,g3,by rw[← hE kh k1 g1];exact g4,g5,g6⟩
 refine⟨λkh B' a hk ha=> ?_,λkh kh' B B' a hk ha hk' ha' hr=> ?_,hlt,λkh B' a hk ha hro=> ?_,h.ext,⟨by rw[hΓ];exact c5 _,λk hk=>by rw[hΓ] at hk;omega⟩,h.kp⟩
 ·obtain⟨k1,X,_,q3,q4,q5,_⟩:=hg hk ha;obtain⟨o,ho,hbo⟩:=h.hJ k1 X a q3 q4;exact⟨o,ho,q5 E o hbo⟩
 ·obtain⟨k1,X,g1,g3,g5,_,g7⟩:=hg hk ha;obtain⟨k1',X',g1',g3',g5',_,g7'⟩:=hg hk' ha';have:=h.iw k1 k1' X X' a g3 g5 g3' g5' (hr.imp g7 g7');subst this;exact hi kh kh' B B' k1 hk ⟨_,_,ha⟩ hk' ⟨_,_,ha'⟩ g1 g1'
 ·obtain⟨k1,X,_,g3,g5,_,g7⟩:=hg hk ha;exact h.iT k1 X a g3 g5 (g7 hro)
def j9 (nx:Nat)(E E2:Nat->Nat)(j:Nat):Nat:=if j<nx then E j else E2 (j-nx)
theorem aJ.back {Γ E m nx w}(h:aJ Γ E m nx w)(hw:Mem.wf nx m=F){fm:Mem}{N:Nat}{aM:Ren}(hb: ∀ kh B',fm.get kh=H B'->BD 0 m [] aM kh B')(hrl:AH nx aM=F)
  {E2:Nat->Nat} {m2:Mem} {w':World} {gl gm} (h2:aJ (aT.at w (iU (Ren.E 0 aM E) fm) gl gm) E2 m2 N w') (hE2: ∀ k,k<n->E2 k=Ren.E 0 aM E k) (hro: ∀ k B,m2.get k=H B->B.ro=C) :
  (∀ k,j9 nx E E2 (pF n aM nx k)=E2 k)/\
  aJ Γ (j9 nx E E2) (EG (pF n aM nx) m2++kT (nk aM fm) m) (nx+N) w':=by
 have hρ: ∀ k,j9 nx E E2 (pF n aM nx k)=E2 k:=λk=>by
  unfold pF j9;split
  ·rename_i k1 hk hg;have:=zE hrl hg;simp only[this,if_true];rw[hE2 k (by simpa [W] using hk)];simp[Ren.E,Q1,hg]
  ·simp only[show ¬ nx+k<nx by omega,if_false,Nat.add_sub_cancel_left]
 refine⟨hρ,?_⟩;have hMa: ∀ b,iU (Ren.E 0 aM E) fm b->∃ k1 X,k1∈ nk aM fm/\m.get k1=H X/\X.gB (E k1) b/\X.ro=false:=λb ⟨k,B,g1,g2,g3⟩=>by
  obtain⟨k1,X,q1,_,q3,q4,_,q6⟩:=hb k B g1 _ b g2;refine⟨k1,X,DJ g1 g3 (by rw[← Q1];exact q1),q3,?_,q6 g3⟩;have:Ren.E 0 aM E k=E k1:=by simp[Ren.E,q1]
  rw[← this];exact q4
 have hx:Sx.Ext (iU (Ren.E 0 aM E) fm) w w':=h2.ext;have hEo: ∀ j,j<nx->j9 nx E E2 j=E j:=λj hj=>by simp[j9,hj]
 have old: ∀ {j X},(kT (nk aM fm) m).get j=H X->j<nx/\m.get j=H X/\∀ a,X.gB (E j) a->¬ iU (Ren.E 0 aM E) fm a:=λ{j X} hj=>by obtain⟨h1,h3⟩:=sq hj;refine⟨h.lt _ _ h3,h3,λa ha hm=> ?_⟩;obtain⟨k1,Y,q1,q2,q3,q4⟩:=hMa _ hm;have:=h.iw j k1 X Y a h3 ha q2 q3 (.inr q4);subst this;exact h1 q1
 have hg: ∀ {j X a},(EG (pF n aM nx) m2++kT (nk aM fm) m).get j=H X->X.gB (j9 nx E E2 j) a->
   (∃ k B,m2.get k=H B/\pF n aM nx k=j/\X=B.aM (pF n aM nx)/\B.gB (E2 k) a/\(iU (Ren.E 0 aM E) fm a∨w.heap.size<=a))∨((kT (nk aM fm) m).get j=H X/\X.gB (E j) a/\a<w.heap.size/\¬ iU (Ren.E 0 aM E) fm a):=λ{j X a} hj ha=>by
  rcases xG hj with ⟨k,B,g1,g2,g3⟩ | hj
  ·subst g3;rw[SB.xH,← g2,hρ] at ha;exact .inl ⟨k,B,g1,g2,rfl,ha,h2.iT k B a g1 ha (hro k B g1)⟩
  ·obtain⟨q1,q2,q3⟩:=old hj;rw[hEo j q1] at ha;exact .inr ⟨hj,ha,h.glt q2 ha,q3 a ha⟩
 refine⟨λj X a hj ha=> ?_,λj j' X X' a hj ha hj' ha' hr=> ?_,λj X hj=> ?_,λj X a hj ha hr=> ?_,⟨hx.os.trans h.ext.os,hx.tape.trans h.ext.tape,hx.output.trans h.ext.output,cy h.ext.size hx.size,λi hi hm=>(hx.block i (d! hi h.ext.size) (λhmi=> ?_)).trans (h.ext.block i hi hm)⟩,
  ⟨cy h.cx.1 (d_ _ _),λk hk=>(hEo k (d! hk h.cx.1)).trans (h.cx.2 k hk)⟩,λD hD=> ?_⟩
 ·rcases hg hj ha with ⟨k,B,g1,g2,rfl,g4,_⟩ | ⟨hj,ha,hl,hm⟩
  ·obtain⟨o,ho,hbo⟩:=h2.hJ k B a g1 g4;refine⟨o,ho,bK.aM ?_⟩;have:(λk=>j9 nx E E2 (pF n aM nx k))=E2:=funext hρ;rw[this];exact hbo
  ·obtain⟨q1,q2,_⟩:=old hj;obtain⟨o,ho,hbo⟩:=h.hJ j X a q2 ha;exact⟨o,by rw[hx.block _ hl hm];exact ho,hbo.congr hEo (SB.PW (Mem.Jj hw q2) a)⟩
 ·rcases hg hj ha with ⟨k,B,g1,g2,g3,g4,g5⟩ | ⟨hj,ha,hl,hm⟩<;>rcases hg hj' ha' with ⟨k',B',g1',g2',g3',g4',g5'⟩ | ⟨hj',ha',hl',hm'⟩
  ·rw[← g2,← g2',h2.iw k k' B B' a g1 g4 g1' g4' (.inl (hro k B g1))]
  ·rcases g5 with g5 | g5
   ·exact absurd g5 hm'
   ·omega
  ·rcases g5' with g5 | g5
   ·exact absurd g5 hm
   ·omega
  ·exact h.iw j j' X X' a (old hj).2.1 ha (old hj').2.1 ha' hr
 ·rcases xG hj with ⟨k,B,g1,g2,_⟩ | hj
  ·rw[← g2];unfold pF;split
   ·rename_i hk;have:=zE hrl hk;omega
   ·have:=h2.lt k B g1;omega
  ·have:=(old hj).1;omega
 ·rcases hg hj ha with ⟨k,B,_,_,_,_,g5⟩ | ⟨hj,ha,_,_⟩
  ·rcases g5 with g5 | g5
   ·obtain⟨k1,Y,_,q2,q3,q4⟩:=hMa _ g5;exact h.iT k1 Y a q2 q3 q4
   ·exact .inr (cy h.ext.size g5)
  ·exact h.iT j X a (old hj).2.1 ha hr
 ·obtain⟨k1,Y,_,q2,q3,q4⟩:=hMa _ hmi;rcases h.iT k1 Y i q2 q3 q4 with h' | h'
  ·exact hm h'
  ·omega
 ·have hd:=h.kp D hD;rw[hx.block _ (Array.getElem?_eq_some_iff.1 hd).1 (λhmD=> ?_)]
  ·exact hd
  ·obtain⟨k1,Y,_,q2,q3,q4⟩:=hMa _ hmD;obtain⟨o,ho,hbo⟩:=h.hJ k1 Y D q2 q3;rw[hd] at ho;exact hbo.lE _ (Option.some.inj ho).symm
def QC (n:Nat):Mem->Bool
 | []=>F
 | e::r=>T e.1 n&&QC n r
theorem FW {n:Nat}: ∀ {m:Mem} {k:Nat} {B:SB},QC n m=F->m.get k=H B->k<n
 | [],_,_,_,h=>by cases h
 | e::r,k,B,hb,h=>by
   simp only[QC,O,W] at hb;by_cases he:e.1=k
   ·exact he▸ hb.1
   ·rw[Mem.get,s_ he] at h;exact FW hb.2 h
def gP.ok (c:gP)(x:c.G):Bool:=QC c.n (c.mem x)&&Mem.wf c.n (c.mem x)&&SV.fH c.n (c.args x)
theorem fT {P:Program}{f:FuncId}{fn:Func}(hf:P.funcs[f]?=H fn) (hn:(fn.name== "runtime.NumGoroutine")=C) (hb:fn.body.isSome=F)  (c:gP)
  (h: ∀ x,c.pre x->∃ cfg,Good P cfg/\c.ok x=F/\ay (fE P (calling P cfg n) [] wq (cfg.aW f) cfg.rounds fn (c.args x) (c.mem x) c.n (c.fit x))):ax P f (cM c):=by
 intro args m nx K hk hwf hargs Γ E w hs;obtain⟨x,hpre,hk⟩:=hk;obtain⟨cfg,hgood,hok,hrun⟩:=h x hpre;simp only[gP.ok,O] at hok;obtain⟨⟨hlt,hwm⟩,hwa⟩:=hok;obtain⟨ren1,_,hk1,ha⟩:=jV hk;obtain⟨aM,hle,hk2,hm⟩:=fW hk1;obtain⟨hb0,hi⟩:=hm aM (Ren.le_refl _);revert hk2;cases hrl:AH nx aM with
 | false=>exact λh=>h.elim
 | true =>
   intro hk2;obtain⟨gm,hform⟩:=hs.adh hb0 hi (λkh B' hg=>FW hlt hg);have hc:=fy hgood hf hn hb hrun hwm hwa hform;rw[ha aM E hle] at hc;refine fN hf hn hb (hc.mono ?_);rintro e w' ⟨v,rfl,E1,u,m1,nx1,g1,g2,g3,g4,g5⟩;refine⟨v,rfl,?_⟩;cases u with
   | none=>exact g5.elim
   | some u' =>
     obtain⟨ts,m2,ht,g4,g5⟩:=oQ g5 g4;split at g5
     case h_2=>exact g5.elim
     rename_i u;have g3: ∀ z,H u=H z->v=z.val E1:=λz hz=>by cases hz;obtain⟨v0,q1,q2,_⟩:=ht.get 0 u rfl;simp at q1;subst q1;rw[g3 _ rfl,q2]
     obtain⟨u0,back,y2,hk3⟩:=gF.meet g5 hk2;revert y2;cases Vo u0 u with
     | true=>exact λh=>h.elim
     | false =>
     intro y2;obtain⟨r1,_,z1,za⟩:=jV y2;obtain⟨r2,hle2,_,zm⟩:=fW z1;obtain⟨zb,zi⟩:=zm r2 (Ren.le_refl _);revert hk3;cases hbk:tj c.N back with
     | false=>exact λh=>h.elim
     | true =>
       intro hk3;have ht:=g4.told rfl zb zi (λkh B' h=>(vj hbk h).1);have hE2: ∀ k,k<c.n->Ren.E c.n r2 E1 k=Ren.E 0 aM E k:=λk hk=>(Ren.Ac hk).trans (g1 k hk);obtain⟨hρ,hfin⟩:=hs.back hwf hb0 hrl ht hE2 (λk B h=>(vj hbk h).2);refine⟨_,H (u0.Tr (pF c.n aM nx)),_,_,λk hk=>by simp[j9,hk],d_ _ _,λz hz=> ?_,hfin,hk3⟩;cases hz;rw[SV.LG,show(λk=>j9 nx E (Ren.E c.n r2 E1) (pF c.n aM nx k))=Ren.E c.n r2 E1 from funext hρ,g3 u rfl]
       have:=za r2 E1 hle2;simp only[SV.vals,List.cons.injEq,and_true] at this;exact this.symm
end
end Sx
section
open Go Sx
set_option maxRecDepth 20000
structure Wy where
 root:f_
 n:Nat
 f:Nat->f_
 z:Bool
 o:Nat
 c:Nat
 u:Nat
def Wy.sb (w:Wy)(key u:Nat)(e:SV):SB:=.cells [.str C w.root,.bE key 1 w.z w.o 0 w.n w.c,.int .i64 C u,e] 4 188
def Wy.view (w:Wy):SB:=.view w.z w.o w.n [.str w.f]
structure Wy.Ok (w:Wy):Prop where
 n:w.n<=200
 f: ∀ i,i<w.n->(w.f i).length<=1000
 u:w.u<=w.n
def cJ (w:Wy)(h:f_):Bool:=I ((w.u:Int)<(w.n:Int))&&(I (aK (w.f w.u)=h)&&bG (w.f w.u))
def ae5 (u:Nat):SB:=.cells [.int .i64 C u,.iface 30 (.int .i64 F 10)] 2 186
def ae6 (k:Nat):SV:=.iface 184 (.ptr k F 0)
def Ze (w:Wy):gF:=.ret (.aN [dc,.bool F C]) [(0,w.sb 1 w.u (ae6 2)),(2,ae5 w.u)]
def acy (w:Wy)(h:f_):gF:=.fork (cJ w h) λb=>match b with
 | true=>.ret (.aN [(getD (w.f w.u)).sv,.bool F F]) [(0,w.sb 1 (w.u+1) .aC)]
 | false=>Ze w
def agd (q:f_->Prop)(wo:Wy->f_->gF):gP :={G:=Wy×f_,n:=2,N:=3,pre:=λx=>x.1.Ok/\q x.2,args:=λx=>[.ptr 0 F 0,.str C x.2],mem:=λx=>[(0,x.1.sb 1 x.1.u .aC),(1,x.1.view)],wo:=λx=>wo x.1 x.2}
def Gz:gP:=agd (λ_=>True) acy
noncomputable def runM (cfg:fD)(f:Nat)(fn:Func)(c:gP)(x:c.G):VC:=fE M (calling M cfg 20) [] wq (cfg.aW f) cfg.rounds fn (c.args x) (c.mem x) c.n (c.fit x)
def aaf (w:Wy)(t:f_):gF:=.fork (bH t) λb=>match b with
 | true=>.ret (.aN [(getD t).sv,.bool F F]) [(0,w.sb 1 w.u .aC)]
 | false=>.fork (bw t) λb=>match b with
   | true=>acy w (af t)
   | false=>Ze w
def s9:gP:=agd (λt=>t.length<9223372036854775808) aaf
def preB (p s:f_):Bool:=I (p.length<=s.length)&&I (s.take p.length=p)
def bD (x:Nd)(p:f_):f_:=if x.k=3 then(if p≠[]/\ai p 0<16 then x.r (ai p 0).toNat else [])else if x.k=2 then(bif preB x.p p then x.r 0 else [])else []
def cC (x:Nd)(p:f_):f_:=if bD x p=[] then p else if x.k=3 then p.drop 1 else p.drop x.p.length
def dO (x:Nd)(p:f_):Bool:=(I (x.k=1)&&I (x.p=p))||(I (x.k=3)&&(I (p=[])&& !decide (x.v=[])))
def gp (x:Nd)(p:f_):f_:=bif dO x p then x.v else []
def MS (x:Nd)(p:f_):cK:=.ret (.agg [.bool C (dO x p),.str C (gp x p)])
def Nd.again (x:Nd):Nd:={k:=x.k,p:=x.p,v:=x.v,r:=fun(i:Nat)=>[x.r 0,x.r 1,x.r 2,x.r 3,x.r 4,x.r 5,x.r 6,x.r 7,x.r 8,x.r 9,x.r 10,x.r 11,x.r 12,x.r 13,x.r 14,x.r 15].getD i []}
def bh (x:Nd):List SV:=.int .i64 C x.k::.str C x.p::.str C x.v::bB x.r
def zeroCells:List SV:=[.int .i64 F 0,.str F [],.str F [],.str F [],.str F [],.str F [],.str F [],.str F [],.str F [],.str F [],.str F [],.str F [],.str F [],.str F [],.str F [],.str F [],.str F [],.str F [],.str F []]
def Ym (x:Nd)(p:f_):cK:=.ret (.aN [.str C (bD x p),.str C (cC x p)])
theorem YV (x:Wy×f_):VC.holds (runM oJ 157 b5 Gz x)=((λb:SV=>((λa:SB=>((Fk ((x.1.n:Int)<=(x.1.u:Int)) (Bk (cJ x.1 x.2) False ((∀(d:Nat->Nat),SV.val d b=SV.val d dc)/\C=C/\(4:Nat)=(4:Nat)/\x.1.root=x.1.root/\(x.1.z=x.1.z/\x.1.o=x.1.o/\(0:Nat)=(0:Nat)/\x.1.n=x.1.n/\x.1.c=x.1.c)/\(x.1.u:Int)=(x.1.u:Int)/\(0:Nat)=(0:Nat)/\aa a a/\True)) ((0<=(x.1.u:Int)/\(x.1.u:Int)<(x.1.n:Int))/\(x.1.o=x.1.o/\0+(x.1.u:Int).toNat<x.1.n)/\(True/\Xu [x.1.f (0+(x.1.u:Int).toNat)])/\Bk (!decide (aK (flat [x.1.f (0+(x.1.u:Int).toNat)])=x.2)) (Bk (cJ x.1 x.2) False ((∀(e:Nat->Nat),SV.val e b=SV.val e dc)/\C=C/\(4:Nat)=(4:Nat)/\x.1.root=x.1.root/\(x.1.z=x.1.z/\x.1.o=x.1.o/\(0:Nat)=(0:Nat)/\x.1.n=x.1.n/\x.1.c=x.1.c)/\(x.1.u:Int)=(x.1.u:Int)/\(0:Nat)=(0:Nat)/\aa a a/\True)) ((0<=(x.1.u:Int)/\(x.1.u:Int)<(x.1.n:Int))/\(x.1.o=x.1.o/\0+(x.1.u:Int).toNat<x.1.n)/\(((x.1.f (0+(x.1.u:Int).toNat)).length<=9223372036854775808/\(x.1.f (0+(x.1.u:Int).toNat)).length<1099511627776)/\Bk (bG (x.1.f (0+(x.1.u:Int).toNat))) (H x.1.view=H x.1.view/\H (x.1.sb 1 x.1.u SV.aC)=H (x.1.sb 1 x.1.u SV.aC)/\H (x.1.sb 1 x.1.u SV.aC)=H (x.1.sb 1 x.1.u SV.aC)/\I6 ((x.1.u:Int)+1)/\Bk (cJ x.1 x.2) ((∀(g:Nat->Nat),SV.val g (SV.agg (bh (getD (x.1.f (0+(x.1.u:Int).toNat)))))=SV.val g (getD (x.1.f x.1.u)).sv)/\F=F/\aa (SB.cells [SV.str C x.1.root,SV.bE 1 1 x.1.z x.1.o 0 x.1.n x.1.c,SV.int .i64 C ((x.1.u:Int)+1),SV.aC] 4 188) (SB.cells [SV.str C x.1.root,SV.bE 1 1 x.1.z x.1.o 0 x.1.n x.1.c,SV.int .i64 C (↑(x.1.u+1):Int),SV.aC] 4 188)/\True) False) (H x.1.view=H x.1.view/\H (x.1.sb 1 x.1.u SV.aC)=H (x.1.sb 1 x.1.u SV.aC)/\H (x.1.sb 1 x.1.u SV.aC)=H (x.1.sb 1 x.1.u SV.aC)/\Bk (cJ x.1 x.2) False ((∀(h:Nat->Nat),SV.val h b=SV.val h dc)/\C=C/\(4:Nat)=(4:Nat)/\x.1.root=x.1.root/\(x.1.z=x.1.z/\x.1.o=x.1.o/\(0:Nat)=(0:Nat)/\x.1.n=x.1.n/\x.1.c=x.1.c)/\(x.1.u:Int)=(x.1.u:Int)/\(0:Nat)=(0:Nat)/\aa a a/\True)))/\H x.1.view=H x.1.view/\H (x.1.sb 1 x.1.u SV.aC)=H (x.1.sb 1 x.1.u SV.aC)/\H (x.1.sb 1 x.1.u SV.aC)=H (x.1.sb 1 x.1.u SV.aC)/\((x.1.f (0+(x.1.u:Int).toNat)).length<=9223372036854775808/\(x.1.f (0+(x.1.u:Int).toNat)).length<1099511627776)/\Bk (bG (x.1.f (0+(x.1.u:Int).toNat))) (I6 ((x.1.u:Int)+1)/\Bk (cJ x.1 x.2) ((∀(i:Nat->Nat),SV.val i (SV.agg (bh (getD (x.1.f (0+(x.1.u:Int).toNat)))))=SV.val i (getD (x.1.f x.1.u)).sv)/\F=F/\aa (SB.cells [SV.str C x.1.root,SV.bE 1 1 x.1.z x.1.o 0 x.1.n x.1.c,SV.int .i64 C ((x.1.u:Int)+1),SV.aC] 4 188) (SB.cells [SV.str C x.1.root,SV.bE 1 1 x.1.z x.1.o 0 x.1.n x.1.c,SV.int .i64 C (↑(x.1.u+1):Int),SV.aC] 4 188)/\True) False) (Bk (cJ x.1 x.2) False ((∀(j:Nat->Nat),SV.val j b=SV.val j dc)/\C=C/\(4:Nat)=(4:Nat)/\x.1.root=x.1.root/\(x.1.z=x.1.z/\x.1.o=x.1.o/\(0:Nat)=(0:Nat)/\x.1.n=x.1.n/\x.1.c=x.1.c)/\(x.1.u:Int)=(x.1.u:Int)/\(0:Nat)=(0:Nat)/\aa a a/\True))))))) (SB.cells [SV.int .i64 C (x.1.u:Int),SV.iface 30 (SV.int .i64 F 10)] 2 186))) (SV.agg (SV.int .i64 F 0::SV.str F []::SV.str F []::Jo))):=by kernel_rfl
theorem YU (x:Nd)(p:f_):VC.holds (gT oJ 158 b6 [x.sv,.str C p] (Ym x p))=((λa:SV=>((Fk (x.k=3) (Bk (!decide (p=[])) (((0:Int)<=(0:Int)/\0<(p.length:Int))/\((-9223372036854775808:Int)<=ai p 0/\ai p 0<=9223372036854775807)/\Fk (ai p 0<16) (((0:Int)<=(0:Int)/\0<(p.length:Int))/\(0<=ai p 0/\ai p 0<16)/\(ai p 0).toNat<16/\((0:Int)<=(1:Int)/\1<=(p.length:Int)/\(p.length:Int)<=(p.length:Int))/\Fk (ck (c9 x.r []) (ai p 0).toNat=[]) (ah (SV.aN [SV.str F [],SV.str C p]) a) (ah (SV.aN [SV.str C (ck (c9 x.r []) (ai p 0).toNat),SV.str (C&&F&&C) (bX p (H (Operand.const (Value.int Q 1))) J 1 (p.length:Int))]) a)) (ah (SV.aN [SV.str F [],SV.str C p]) a)) (ah (SV.aN [SV.str F [],SV.str C p]) a)) (Fk (x.k=2) (Fk ((x.p.length:Int)<=(p.length:Int)) (((0:Int)<=(0:Int)/\0<=(x.p.length:Int)/\(x.p.length:Int)<=(p.length:Int))/\Bk (!decide (bX p J (H (Operand.tmp 13)) 0 (x.p.length:Int)=x.p)) (ah (SV.aN [SV.str F [],SV.str C p]) a) ((0<=(x.p.length:Int)/\(x.p.length:Int)<=(p.length:Int)/\(p.length:Int)<=(p.length:Int))/\Fk (x.r 0=[]) (ah (SV.aN [SV.str F [],SV.str C p]) a) (ah (SV.aN [SV.str C (x.r 0),SV.str (C&&C&&C) (bX p (H (Operand.tmp 13)) J (x.p.length:Int) (p.length:Int))]) a))) (ah (SV.aN [SV.str F [],SV.str C p]) a)) (ah (SV.aN [SV.str F [],SV.str C p]) a))))) (SV.aN [SV.str C (bD x p),SV.str C (cC x p)])):=by kernel_rfl
theorem Mo (x:Nd)(p:f_):VC.holds (gT oJ 111 a! [x.sv,.str C p] (MS x p))=((λa:SV=>((Fk (x.k=1) (Fk (x.p=p) (ah (SV.agg [SV.bool F F,SV.str C x.v]) a) (Fk (x.k=3) (Fk (p=[]) (Bk (!decide (x.v=[])) (ah (SV.agg [SV.bool F F,SV.str C x.v]) a) (ah (SV.agg [SV.bool F C,SV.str F []]) a)) (ah (SV.agg [SV.bool F C,SV.str F []]) a)) (ah (SV.agg [SV.bool F C,SV.str F []]) a))) (Fk (x.k=3) (Fk (p=[]) (Bk (!decide (x.v=[])) (ah (SV.agg [SV.bool F F,SV.str C x.v]) a) (ah (SV.agg [SV.bool F C,SV.str F []]) a)) (ah (SV.agg [SV.bool F C,SV.str F []]) a)) (ah (SV.agg [SV.bool F C,SV.str F []]) a))))) (SV.agg [SV.bool C (dO x p),SV.str C (gp x p)])):=by kernel_rfl
theorem qz {a b c d:f_}{l1 l2 l3 l4:Bool}(h1:a=c)(h2:b=d):ah (.aN [.str l1 a,.str l2 b]) (.aN [.str l3 c,.str l4 d]):=by subst h1;subst h2;exact λ_=>rfl
theorem OU (x:Nd)(p:f_):ay (gT oJ 158 b6 [x.sv,.str C p] (Ym x p)):=by
 refine ay.mS (YU x p) (by delta Bk Fk;exact rfl) ?_;dsimp only;have hb:=dW p 0;refine⟨λh3=>⟨λhp=> ?_,λhp=> ?_⟩,λh3=>⟨λh2=>⟨λhl=> ?_,λhl=> ?_⟩,λh2=> ?_⟩⟩
 ·have h3:=l_ h3;have hp:p≠[]:=by simpa using hp
  have hl:=List.length_pos_iff.2 hp;refine⟨by omega,by omega,λh16=> ?_,λh16=> ?_⟩
  ·have h16:=l_ h16;have hi:(ai p 0).toNat<16:=by omega
   rw[uU x.r hi];have er:bD x p=x.r (ai p 0).toNat:=by rw[bD,r_ h3,r_ ⟨hp,h16⟩]
   refine⟨by omega,by omega,hi,by omega,λh0=>qz ?_ ?_,λh0=>qz er.symm ?_⟩
   ·rw[er];exact(l_ h0).symm
   ·rw[cC,er,r_ (l_ h0)]
   ·rw[cC,er,s_ (m_ h0),r_ h3];rfl
  ·have er:bD x p=[]:=by rw[bD,r_ h3,s_ (λh=>m_ h16 h.2)]
   exact qz er.symm (by rw[cC,r_ er])
 ·have h3:=l_ h3;have hp:p=[]:=by simpa using hp
  have er:bD x p=[]:=by rw[bD,r_ h3,s_ (λh=>h.1 hp)]
  exact qz er.symm (by rw[cC,r_ er])
 ·have h3:=m_ h3;have h2:=l_ h2;have hl:=l_ hl;have ep:bX p J (H (Operand.tmp 13)) 0 (x.p.length:Int)=p.take x.p.length:=rfl;rw[ep];have hd:I (x.p.length<=p.length)=true:=n_ (by omega);refine⟨by omega,λhq=> ?_,λhq=>⟨by omega,λh0=> ?_,λh0=> ?_⟩⟩
  ·have hq:I (p.take x.p.length=x.p)=false:=by simpa using hq
   have er:bD x p=[]:=by rw[bD,s_ h3,r_ h2,preB,hd,hq];rfl
   exact qz er.symm (by rw[cC,r_ er])
  ·have hq:I (p.take x.p.length=x.p)=true:=by simpa using hq
   have er:bD x p=x.r 0:=by rw[bD,s_ h3,r_ h2,preB,hd,hq];rfl
   have h0:=l_ h0;exact qz (by rw[er,h0]) (by rw[cC,er,r_ h0])
  ·have hq:I (p.take x.p.length=x.p)=true:=by simpa using hq
   have er:bD x p=x.r 0:=by rw[bD,s_ h3,r_ h2,preB,hd,hq];rfl
   have h0:=m_ h0;exact qz er.symm (by rw[cC,er,s_ h0,s_ h3];rfl)
 ·have h3:=m_ h3;have h2:=l_ h2;have hl: ¬ x.p.length<=p.length:=by have:=m_ hl;omega
  have er:bD x p=[]:=by rw[bD,s_ h3,r_ h2,preB,o_ hl];rfl
  exact qz er.symm (by rw[cC,r_ er])
 ·have h3:=m_ h3;have h2:=m_ h2;have er:bD x p=[]:=by rw[bD,s_ h3,s_ h2]
  exact qz er.symm (by rw[cC,r_ er])
theorem Ej (x:Nd)(p:f_):ay (gT oJ 111 a! [x.sv,.str C p] (MS x p)):=by
 refine ay.mS (Mo x p) (by delta Bk Fk;exact rfl) ?_;dsimp only;have hv:gp x p=bif dO x p then x.v else []:=rfl
 have hb:dO x p=((I (x.k=1)&&I (x.p=p))||(I (x.k=3)&&(I (p=[])&& !decide (x.v=[])))):=rfl;rw[hv,hb];generalize I (x.k=1)=a;generalize I (x.p=p)=b;generalize I (x.k=3)=c;generalize I (p=[])=d;generalize I (x.v=[])=e;have s0:ah (.agg [.bool F F,.str C x.v]) (.agg [.bool C F,.str C x.v]):=λ_=>rfl;have s1:ah (.agg [.bool F C,.str F []]) (.agg [.bool C C,.str C []]):=λ_=>rfl;cases a<;>cases b<;>cases c<;>cases d<;>cases e<;>simp[s0,s1]
def DU:List SV->Option (Prop×cK)
 | [.agg l,.str C p]=>(match Iq l with
   | some x=>H (True,Ym x p)
   | none=>J)
 | _=>J
def yE:List SV->Option (Prop×cK)
 | [.agg l,.str C p]=>(match Iq l with
   | some x=>H (True,MS x p)
   | none=>J)
 | _=>J
theorem abf:ax M 158 (bY DU):=by
 refine ee (n:=20) Tryz.func158 (by kernel_rfl) (by kernel_rfl) ?_;intro args p a h hp;unfold DU at h;split at h
 ·split at h
  ·rename_i x hx;cases h;rw[qq hx];exact⟨oJ,Cm,rfl,rfl,OU _ _⟩
  ·cases h
 ·cases h
theorem MT:ax M 111 (bY yE):=by
 refine ee (n:=20) (fn:=a!) Tryz.func111 (by kernel_rfl) (by kernel_rfl) ?_;intro args p a h hp;unfold yE at h;split at h
 ·split at h
  ·rename_i x hx;cases h;rw[qq hx];exact⟨oJ,Cm,rfl,rfl,Ej _ _⟩
  ·cases h
 ·cases h
theorem oP (a:f_):flat [a]=a:=by simp[flat]
theorem aep {a:f_}(h:a.length<=1099511627776):Xu [a]:=⟨by rw[oP];omega,by simp⟩
attribute [local irreducible] aK bG getD
theorem OX {x:Wy×f_}(h:x.1.Ok):ay (runM oJ 157 b5 Gz x):=by
 refine ay.mS (YV x) (by delta Bk Fk;exact rfl) ?_;dsimp only;obtain⟨w,t⟩:=x;have h:w.Ok:=h;have hu:=h.u;have hn:=h.n;simp only[Int.toNat_natCast,Nat.zero_add,oP];by_cases h1:(w.u:Int)<w.n
 ·have hf:=h.f w.u (by omega);have d1:I ((w.n:Int)<=w.u)=false:=o_ (by omega);have hq:Xu [w.f w.u]:=aep (by omega);cases h2:I (aK (w.f w.u)=t)<;>cases h3:bG (w.f w.u)
  all_goals
   have ht:cJ w t=(I ((w.u:Int)<w.n)&&(I (aK (w.f w.u)=t)&&bG (w.f w.u))):=rfl;rw[n_ h1,h2,h3] at ht;simp only[d1,ht,c7,c6,Bool.and_false,Bool.and_true,Z,an,false_imp_iff,forall_const,true_and,and_true,hq]
   repeat' first
    | omega
    | exact aa.refl _
    | refine L ?_ ?_
    | exact λ_=>rfl
    | rfl
    | exact trivial
    | fail
 ·have d1:I ((w.n:Int)<=w.u)=true:=n_ (by omega);have ht:cJ w t=false:=by rw[cJ,o_ h1];rfl
  simp only[d1,ht,Z,an,false_imp_iff,forall_const,true_and,and_true]
  repeat' first
   | omega
   | exact aa.refl _
   | refine L ?_ ?_
   | exact λ_=>rfl
   | rfl
   | exact trivial
   | fail
theorem Ri:ax M 157 (cM Gz) :=fT (n:=20) Tryz.func157 (by kernel_rfl) (by kernel_rfl) Gz λx hx=>⟨oJ,Cm,rfl,OX hx.1⟩
noncomputable def H8:List (FuncId×PT):=(157,cM Gz)::(151,bY wV)::yW
theorem CT:bp M (λf=>aD f H8):=.cons Ri (cz _) (.cons Qm (bO _) oW)
noncomputable def Hf:fD:={cv with cT:=λf=>aD f H8}
theorem aaj:Sx.Good M Hf:=.of bR CT bq
end
section
open Go Sx
set_option maxRecDepth 20000
theorem Pc (x:Wy×f_):VC.holds (runM Hf 159 b9 s9 x)=((λb:SV=>((λe:(Wy×f_)->SB=>((λd:SB=>((Rel 9223372036854775808 x.2/\Bk (bH x.2) (Bk (bH x.2) ((∀(g:Nat->Nat),SV.val g (SV.agg (bh (getD x.2)))=SV.val g (getD x.2).sv)/\F=F/\aa (x.1.sb 1 x.1.u SV.aC) (x.1.sb 1 x.1.u SV.aC)/\True) (Bk (bw x.2) (Bk (cJ x.1 (af x.2)) ((∀(h:Nat->Nat),SV.val h (SV.agg (bh (getD x.2)))=SV.val h (getD (x.1.f x.1.u)).sv)/\F=F/\aa (SB.cells [SV.str C x.1.root,SV.bE 1 1 x.1.z x.1.o 0 x.1.n x.1.c,SV.int .i64 C (x.1.u:Int),SV.aC] 4 188) (SB.cells [SV.str C x.1.root,SV.bE 1 1 x.1.z x.1.o 0 x.1.n x.1.c,SV.int .i64 C (↑(x.1.u+1):Int),SV.aC] 4 188)/\True) False) False)) (x.2.length<9223372036854775808/\Bk (bw x.2) (∃(a:Wy×f_),(a.1.Ok/\True)/\(0:Nat)=(0:Nat)/\af x.2=a.2/\(4:Nat)=(4:Nat)/\x.1.root=a.1.root/\(x.1.z=a.1.z/\x.1.o=a.1.o/\(0:Nat)=(0:Nat)/\x.1.n=a.1.n/\x.1.c=a.1.c)/\(x.1.u:Int)=(a.1.u:Int)/\aa (SB.view x.1.z x.1.o x.1.n [av.str x.1.f]) (SB.view a.1.z a.1.o a.1.n [av.str a.1.f])/\Bk (cJ a.1 a.2) (Bk (bH x.2) ((∀(i:Nat->Nat),SV.val i (SV.agg (bh (getD (a.1.f a.1.u))))=SV.val i (getD x.2).sv)/\F=F/\aa (e a) (SB.cells [SV.str C x.1.root,SV.bE 1 1 x.1.z x.1.o 0 x.1.n x.1.c,SV.int .i64 C (x.1.u:Int),SV.aC] 4 188)/\True) (Bk (bw x.2) (Bk (cJ x.1 (af x.2)) ((∀(j:Nat->Nat),SV.val j (SV.agg (bh (getD (a.1.f a.1.u))))=SV.val j (getD (x.1.f x.1.u)).sv)/\F=F/\aa (e a) (SB.cells [SV.str C x.1.root,SV.bE 1 1 x.1.z x.1.o 0 x.1.n x.1.c,SV.int .i64 C (↑(x.1.u+1):Int),SV.aC] 4 188)/\True) False) False)) (Bk (bH x.2) False (Bk (bw x.2) (Bk (cJ x.1 (af x.2)) False ((∀(k:Nat->Nat),SV.val k b=SV.val k dc)/\C=C/\(4:Nat)=(4:Nat)/\a.1.root=x.1.root/\(a.1.z=x.1.z/\a.1.o=x.1.o/\(0:Nat)=(0:Nat)/\a.1.n=x.1.n/\a.1.c=x.1.c)/\(a.1.u:Int)=(x.1.u:Int)/\(0:Nat)=(0:Nat)/\aa (SB.cells [SV.int .i64 C (a.1.u:Int),SV.iface 30 (SV.int .i64 F 10)] 2 186) d/\True)) ((∀(l:Nat->Nat),SV.val l b=SV.val l dc)/\C=C/\(4:Nat)=(4:Nat)/\a.1.root=x.1.root/\(a.1.z=x.1.z/\a.1.o=x.1.o/\(0:Nat)=(0:Nat)/\a.1.n=x.1.n/\a.1.c=x.1.c)/\(a.1.u:Int)=(x.1.u:Int)/\(0:Nat)=(0:Nat)/\aa (SB.cells [SV.int .i64 C (a.1.u:Int),SV.iface 30 (SV.int .i64 F 10)] 2 186) d/\True)))) (Bk (bH x.2) False (Bk (bw x.2) (Bk (cJ x.1 (af x.2)) False ((∀(m:Nat->Nat),SV.val m b=SV.val m dc)/\C=C/\(4:Nat)=(4:Nat)/\x.1.root=x.1.root/\(x.1.z=x.1.z/\x.1.o=x.1.o/\(0:Nat)=(0:Nat)/\x.1.n=x.1.n/\x.1.c=x.1.c)/\(x.1.u:Int)=(x.1.u:Int)/\(0:Nat)=(0:Nat)/\aa d d/\True)) ((∀(p:Nat->Nat),SV.val p b=SV.val p dc)/\C=C/\(4:Nat)=(4:Nat)/\x.1.root=x.1.root/\(x.1.z=x.1.z/\x.1.o=x.1.o/\(0:Nat)=(0:Nat)/\x.1.n=x.1.n/\x.1.c=x.1.c)/\(x.1.u:Int)=(x.1.u:Int)/\(0:Nat)=(0:Nat)/\aa d d/\True))))))) (SB.cells [SV.int .i64 C (x.1.u:Int),SV.iface 30 (SV.int .i64 F 10)] 2 186))) (fun(a:Wy×f_)=>(SB.cells [SV.str C a.1.root,SV.bE (pF 2 (su 0 (Mem.put 3 (SB.cells (bg b.cells 0 dc.cells) 19 138) [((3:Nat),SB.cells b.cells 19 138),((2:Nat),SB.cells b.cells 19 138),((0:Nat),x.1.sb 1 x.1.u SV.aC),((1:Nat),x.1.view)]) a.1.view x.1.view [((1:Nat),(1:Nat)),((0:Nat),(0:Nat))]) 4 1) 1 a.1.z a.1.o 0 a.1.n a.1.c,SV.int .i64 C (↑(a.1.u+1):Int),SV.aC] 4 188)))) (SV.agg (SV.int .i64 F 0::SV.str F []::SV.str F []::Jo))):=by kernel_rfl
section
attribute [local irreducible] aK bG getD bH bw af cJ
theorem HI {x:Wy×f_}(h:x.1.Ok)(ht:x.2.length<9223372036854775808):ay (runM Hf 159 b9 s9 x):=by
 refine ay.mS (Pc x) (by delta Bk;exact rfl) ?_;dsimp only;obtain⟨w,t⟩:=x;have h:w.Ok:=h;have ht:t.length<9223372036854775808:=ht;have hr:Rel 9223372036854775808 t:=⟨.inl ht,ht⟩
 cases h1:bH t<;>cases h2:bw t<;>cases h3:cJ w (af t)
 all_goals simp only[hr,ht,Z,an,false_imp_iff,forall_const,true_and,and_true]
 all_goals try refine⟨(w,af t),h,?_⟩
 all_goals try dsimp only
 all_goals try simp only[h3,Z,an,false_imp_iff,forall_const,true_and,and_true]
 all_goals
  repeat' first
   | exact aa.refl _
   | refine L ?_ ?_
   | exact λ_=>rfl
   | rfl
   | exact trivial
   | fail
end
theorem Sf:ax M 159 (cM s9) :=fT (n:=20) Tryz.func159 (by kernel_rfl) (by kernel_rfl) s9 λx hx=>⟨Hf,aaj,rfl,HI hx.1 hx.2⟩
def x9 (w:Wy)(t:f_):Option (Nd×Nat):=if bH t=F then H (getD t,w.u)else if(bw t&&cJ w (af t))=F then H (getD (w.f w.u),w.u+1)else J
def Wy.on (w:Wy)(u:Nat):Wy:={w with u:=u}
def Un (w:Wy):Nat->Nd->f_->Nat->Option (Nd×f_×Nat)
 | 0,_,_,_=>J
 | m+1,x,p,u=>if bD x p=[] then H (x,p,u)else match x9 (w.on u) (bD x p)with
   | none=>J
   | some (y,u')=>Un w m y (cC x p) u'
def OT (w:Wy)(p:f_):Option (Nd×f_×Nat):=bif cJ (w.on 0) w.root then Un w (p.length+1) (getD (w.f 0)) p 1 else J
def Lx (w:Wy)(p:f_):Option (Nd×f_):=if 40<w.n then J else match OT w p with
 | some (y,q,u)=>if u<w.n then J else H (y,q)
 | none=>J
structure Wh where
 y:Nd
 p:f_
 u:Nat
 b:Bool
 v:f_
def Nd.Good (x:Nd):Prop:=(x.k=2->x.p≠[])/\Fits x
def rm (st:Sx.St)(i:Nat):Nat:=match slot st.tmps i with
 | some (.ptr k _ _)=>k
 | _=>0
def abS (st:Sx.St)(i:Nat):Nat:=match st.m.get (rm st i)with
 | some (.cells (.ptr k _ _::_) _ _)=>k
 | _=>0
def zh (ty:TypeId):Mem->Nat
 | []=>0
 | (k,.cells _ _ t)::r=>(match Nat.beq t ty with
   | true=>k
   | false=>zh ty r)
 | _::r=>zh ty r
def age (w:Wy)(kv:Nat)(st:Sx.St)(x:Wh)(e:SV):Mem:=[(rm st 4,.cells (bh x.y) 19 138),(rm st 2,.cells [.str C x.p] 1 9),(abS st 1,w.sb kv x.u e),(zh 58 st.m,.cells [.bool C x.b,.str C x.v] 2 58)]
def Yc (w:Wy)(key:Option Nat):Seen:=⟨key,w.z,w.o,w.n,w.c,[.str w.f]⟩
def shW:List AZ:=[.of .one,.of .one,.of (.slice [.str λ_=>[]])]
theorem mw {s:f_}(h:bG s=F):aZ (getD s)=true:=by unfold bG Er at h;simp only[O] at h;exact h.2.1
theorem Fu {t:f_}(h:bH t=F):aZ (getD t)=true:=by rw[yK,O,O] at h;exact mw h.2.1
end
section
open Go Sx
set_option maxRecDepth 20000
structure Sp where
 fr:f_
 to:f_
 n:Nat
 f:Nat->f_
 z:Bool
 o:Nat
 c:Nat
 ad:f_->Bool
 ag:f_->Int
structure Sp.Ok (w:Sp):Prop where
 n:w.n<=200
 f: ∀ i,i<w.n->(w.f i).length<=1000
 a: ∀ h,w.ad h=F->0<=w.ag h/\w.ag h<w.n
 fr:w.fr.length<=1000
 to:w.to.length<=1000
structure Wk where
 ud:f_->Bool
 us:f_->Int
 ns:List f_
 lk:Nat
 fs:List (f_×f_)
def Wk.used (s:Wk)(h:f_):Int:=dflt (s.ud h) (s.us h)
structure Wk.Small (s:Wk):Prop where
 u: ∀ h,0<=s.used h/\s.used h<=1000
 ns:s.ns.length<=1000
 lk:s.lk<=1000
 fs:s.fs.length<=1000
def Sp.at (w:Sp)(h:f_):f_:=w.f (w.ag h).toNat
def cL (w:Sp)(h:f_):Bool:=w.ad h&&bG (w.at h)
def Wk.take (w:Sp)(s:Wk)(h:f_):Wk:={s with ud:=dZ s.ud h,us:=gA s.us h (s.used h+1),ns:=if s.used h=0 then s.ns++[w.at h] else s.ns}
def jz (l:List f_):av:=.str λi=>l.getD i []
def bU (l:List (f_×f_)):av:=.str λi=>(l.getD i ([],[])).1
def bV (l:List (f_×f_)):av:=.str λi=>(l.getD i ([],[])).2
def Ms (w:Sp)(s:Wk)(kn kf c1 c2:Nat):SB:=.cells [.str C w.fr,.str C w.to,.func (.func 50) [] [.ptr 4 F 0,.ptr 6 F 0],.map 1,.aX kn 1 F 0 s.ns.length c1,.int .i64 C s.lk,.aX kf 2 F 0 s.fs.length c2] 7 92
def ff (s:Wk):SB:=.fmap s.ud (.int .i64 s.us) J
def dY (s:Wk)(c1:Nat):SB:=.rows F s.ns.length [jz s.ns] C (c1*1) 9
def dH (s:Wk)(c2:Nat):SB:=.rows F s.fs.length [bU s.fs,bV s.fs] C (c2*2) 50
def Sp.own (w:Sp):Mem:=[(4,.cells [.map 5] 1 90),(5,.fmap w.ad (.int .i64 w.ag) J),(6,.cells [.bE 7 1 w.z w.o 0 w.n w.c] 1 29)]
def Sp.view (w:Sp):SB:=.view w.z w.o w.n [.str w.f]
structure Ae where
 w:Sp
 s:Wk
 c1:Nat
 c2:Nat
def Ae.mem (g:Ae):Mem:=[(0,Ms g.w g.s 2 3 g.c1 g.c2),(1,ff g.s),(2,dY g.s g.c1),(3,dH g.s g.c2)]++g.w.own++[(7,g.w.view)]
def Sp.back (w:Sp)(s:Wk)(c1 c2:Nat):Mem:=[(0,Ms w s 8 9 c1 c2),(1,ff s),(8,dY s c1),(9,dH s c2)]++w.own
def aeH (v:SV)(w:Sp)(s:Wk):gF:=.all (Nat×Nat) λc=>.req (s.ns.length<=c.1/\s.fs.length<=c.2) (.ret v (w.back s c.1 c.2))
def OR (f:SV->SV):gF:=.all (f_×f_) λy=>.ret (f (.iface 87 (.ptr 10 F 0))) [(10,.cells [.str C y.1,.str C y.2] 2 207)]
def snC (A:Type)(args:A->List SV)(pre:Ae->A->Prop)(wo:Ae->A->gF):gP :={G:=Ae×A,n:=8,N:=11,pre:=λx=>x.1.w.Ok/\x.1.s.Small/\(x.1.s.ns.length<=x.1.c1/\x.1.s.fs.length<=x.1.c2)/\pre x.1 x.2,args:=λx=>.ptr 0 F 0::args x.2,mem:=λx=>x.1.mem,wo:=λx=>wo x.1 x.2}
def Rb (g:Ae)(h:f_):gF:=.fork (cL g.w h) λb=>match b with
 | true=>aeH (.aN [(getD (g.w.at h)).sv,.aC]) g.w (g.s.take g.w h)
 | false=>OR λv=>.aN [dc,v]
def xS:gP:=snC f_ (λh=>[.str C h]) (λ_ _=>True) Rb
def TF (g:Ae)(t:f_):gF:=.fork (bH t) λb=>match b with
 | true=>aeH (.aN [(getD t).sv,.aC]) g.w g.s
 | false=>.fork (bw t) λb=>match b with
   | true=>Rb g (af t)
   | false=>OR λv=>.aN [dc,v]
def pL:gP:=snC f_ (λt=>[.str C t]) (λ_ t=>t.length<9223372036854775808) TF
def hasB (fr to p:f_):Bool:=!Op.bytesLess p (au fr)&&(V p (au to)||decide (p=au to))
def bW (fr to p:f_):Bool:=(V p (au to)||decide (p=au to))&&(!Op.bytesLess p (au fr)||preB p (au fr))
def oS (p:f_):Bool:=I ((p.length:Int)%2=0)&&jO p
def Xj (p:f_):cK:=.fork (oS p) λb=>match b with
 | true=>.ret (.aN [.str C (br p),.bool F F])
 | false=>.ret (.aN [.str F [],.bool F C])
def Bh:List SV->Option (Prop×SV)
 | [.agg [.str C fr,.str C to],.str C p]=>H (fr.length<=1000/\to.length<=1000,.bool C (hasB fr to p))
 | _=>J
def tT:List SV->Option (Prop×SV)
 | [.agg [.str C fr,.str C to],.str C p]=>H (fr.length<=1000/\to.length<=1000,.bool C (bW fr to p))
 | _=>J
def xq:List SV->Option (Prop×cK)
 | [.str C p]=>H (p.length<1099511627776,Xj p)
 | _=>J
noncomputable def gy:List (FuncId×PT):=(58,bn o7)::(170,bn qv)::H8
theorem dj:bp M (λf=>aD f gy):=.cons Da (aS _) (.cons F5 (aS _) CT)
noncomputable def oK:fD:={cv with cT:=λf=>aD f gy}
theorem Cp:Sx.Good M oK:=.of bR dj bq
theorem abA (fr to p:f_):VC.holds (gT oK 43 b! [.agg [.str C fr,.str C to],.str C p] (.ret (.bool C (hasB fr to p))))=((fr.length<1099511627776/\((!Op.bytesLess p (au fr))=F->to.length<1099511627776/\ah (SV.bool (C&&C) (V p (au to)||decide (p=au to))) (SV.bool C (hasB fr to p)))/\((!Op.bytesLess p (au fr))=C->ah (SV.bool F C) (SV.bool C (hasB fr to p))))):=by kernel_rfl
theorem Ub (fr to p:f_):VC.holds (gT oK 42 b_ [.agg [.str C fr,.str C to],.str C p] (.ret (.bool C (bW fr to p))))=((to.length<1099511627776/\Bk (!(V p (au to)||decide (p=au to))) (ah (SV.bool F C) (SV.bool C (bW fr to p))) (fr.length<1099511627776/\Bk (!Op.bytesLess p (au fr)) (ah (SV.bool F F) (SV.bool C (bW fr to p))) (Fk ((p.length:Int)<=(↑(au fr).length:Int)) (((0:Int)<=(0:Int)/\0<=(p.length:Int)/\(p.length:Int)<=(↑(au fr).length:Int))/\ah (SV.bool (C&&F&&C&&C) (I (bX (au fr) J (H (Operand.tmp 13)) 0 (p.length:Int)=p))) (SV.bool C (bW fr to p))) (ah (SV.bool F C) (SV.bool C (bW fr to p))))))):=by kernel_rfl
theorem abB (p:f_):VC.holds (gT oK 130 bf [.str C p] (Xj p))=(((0<=(p.length:Int)/\(p.length:Int)<=9223372036854775807/\(0:Int)<(2:Int))/\Bk (!decide ((p.length:Int)%2=(0:Int))) (Bk (oS p) (ah (SV.aN [SV.str F [],SV.bool F C]) (SV.aN [SV.str C (br p),SV.bool F F])) (ah (SV.aN [SV.str F [],SV.bool F C]) (SV.aN [SV.str F [],SV.bool F C]))) (p.length<1152921504606846976/\Bk (!jO p) (Bk (oS p) (ah (SV.aN [SV.str F [],SV.bool F C]) (SV.aN [SV.str C (br p),SV.bool F F])) (ah (SV.aN [SV.str F [],SV.bool F C]) (SV.aN [SV.str F [],SV.bool F C]))) (p.length<1099511627776/\Bk (oS p) (ah (SV.aN [SV.str C (br p),SV.bool F F]) (SV.aN [SV.str C (br p),SV.bool F F])) (ah (SV.aN [SV.str C (br p),SV.bool F F]) (SV.aN [SV.str F [],SV.bool F C])))))):=by kernel_rfl
theorem Y1 (x:Ae×f_):VC.holds (runM oK 83 Tryz.f83 xS x)=((λg:SV=>((Bk (!x.1.w.ad x.2) (Bk (cL x.1.w x.2) (∃(h:Nat×Nat),((if x.1.s.used x.2=0 then x.1.s.ns++[x.1.w.at x.2] else x.1.s.ns).length<=h.1/\x.1.s.fs.length<=h.2)/\False) (∃(i:f_×f_),(∀(j:Nat->Nat),SV.val j g=SV.val j dc)/\(0:Nat)=(0:Nat)/\aa (SB.cells [SV.str F [(110:UInt8),(111:UInt8),(116:UInt8),(32:UInt8),(116:UInt8),(104:UInt8),(101:UInt8),(114:UInt8),(101:UInt8),(58:UInt8)],SV.str C x.2] 2 207) (SB.cells [SV.str C i.1,SV.str C i.2] 2 207)/\True)) ((0<=dflt (x.1.w.ad x.2) (x.1.w.ag x.2)/\dflt (x.1.w.ad x.2) (x.1.w.ag x.2)<(x.1.w.n:Int))/\(x.1.w.o=x.1.w.o/\0+(dflt (x.1.w.ad x.2) (x.1.w.ag x.2)).toNat<x.1.w.n)/\((x.1.w.f (0+(dflt (x.1.w.ad x.2) (x.1.w.ag x.2)).toNat)).length<=9223372036854775808/\(x.1.w.f (0+(dflt (x.1.w.ad x.2) (x.1.w.ag x.2)).toNat)).length<1099511627776)/\Bk (bG (x.1.w.f (0+(dflt (x.1.w.ad x.2) (x.1.w.ag x.2)).toNat))) (Fk (dflt (x.1.s.ud x.2) (x.1.s.us x.2)=0) ((0+x.1.s.ns.length<=x.1.s.ns.length/\True/\2*(x.1.s.ns.length+1)*16<=(281474976710656:Nat)/\x.1.s.ns.length+1<(9223372036854775808:Nat))/\x.1.c1*1=x.1.c1*1/\∀(d:Nat),x.1.s.ns.length+1<=d->I6 (dflt (x.1.s.ud x.2) (x.1.s.us x.2)+1)/\Bk (cL x.1.w x.2) (∃(a:Nat×Nat),((if x.1.s.used x.2=0 then x.1.s.ns++[x.1.w.at x.2] else x.1.s.ns).length<=a.1/\x.1.s.fs.length<=a.2)/\(∀(k:Nat->Nat),SV.val k (SV.agg (bh (getD (x.1.w.f (0+(dflt (x.1.w.ad x.2) (x.1.w.ag x.2)).toNat)))))=SV.val k (getD (x.1.w.at x.2)).sv)/\(7:Nat)=(7:Nat)/\x.1.w.fr=x.1.w.fr/\x.1.w.to=x.1.w.to/\(0:Nat)=(0:Nat)/\(0:Nat)=(0:Nat)/\((0:Nat)=(0:Nat)/\x.1.s.ns.length+1=(if x.1.s.used x.2=0 then x.1.s.ns++[x.1.w.at x.2] else x.1.s.ns).length/\d=a.1)/\True/\(x.1.s.lk:Int)=(x.1.s.lk:Int)/\((0:Nat)=(0:Nat)/\x.1.s.fs.length=x.1.s.fs.length/\x.1.c2=a.2)/\True/\aa (SB.fmap (dZ x.1.s.ud x.2) (aE.int Q (gA x.1.s.us x.2 (dflt (x.1.s.ud x.2) (x.1.s.us x.2)+1))) J) (ff (Wk.take x.1.w x.1.s x.2))/\aa (SB.rows F (x.1.s.ns.length+1) [av.str λe=>if e<x.1.s.ns.length then x.1.s.ns.getD e [] else ck [x.1.w.f (0+(dflt (x.1.w.ad x.2) (x.1.w.ag x.2)).toNat)] (e-x.1.s.ns.length)] C (d*1) 9) (dY (Wk.take x.1.w x.1.s x.2) a.1)/\aa (SB.rows F x.1.s.fs.length [bU x.1.s.fs,bV x.1.s.fs] C (x.1.c2*2) 50) (dH (Wk.take x.1.w x.1.s x.2) a.2)/\aa (SB.cells [SV.map 5] 1 90) (SB.cells [SV.map 5] 1 90)/\aa (SB.fmap x.1.w.ad (aE.int Q x.1.w.ag) J) (SB.fmap x.1.w.ad (aE.int Q x.1.w.ag) J)/\aa (SB.cells [SV.bE 7 1 x.1.w.z x.1.w.o 0 x.1.w.n x.1.w.c] 1 29) (SB.cells [SV.bE 7 1 x.1.w.z x.1.w.o 0 x.1.w.n x.1.w.c] 1 29)/\True) (∃(_:f_×f_),False)) (I6 (dflt (x.1.s.ud x.2) (x.1.s.us x.2)+1)/\Bk (cL x.1.w x.2) (∃(b:Nat×Nat),((if x.1.s.used x.2=0 then x.1.s.ns++[x.1.w.at x.2] else x.1.s.ns).length<=b.1/\x.1.s.fs.length<=b.2)/\(∀(l:Nat->Nat),SV.val l (SV.agg (bh (getD (x.1.w.f (0+(dflt (x.1.w.ad x.2) (x.1.w.ag x.2)).toNat)))))=SV.val l (getD (x.1.w.at x.2)).sv)/\(7:Nat)=(7:Nat)/\x.1.w.fr=x.1.w.fr/\x.1.w.to=x.1.w.to/\(0:Nat)=(0:Nat)/\(0:Nat)=(0:Nat)/\((0:Nat)=(0:Nat)/\x.1.s.ns.length=(if x.1.s.used x.2=0 then x.1.s.ns++[x.1.w.at x.2] else x.1.s.ns).length/\x.1.c1=b.1)/\True/\(x.1.s.lk:Int)=(x.1.s.lk:Int)/\((0:Nat)=(0:Nat)/\x.1.s.fs.length=x.1.s.fs.length/\x.1.c2=b.2)/\True/\aa (SB.fmap (dZ x.1.s.ud x.2) (aE.int Q (gA x.1.s.us x.2 (dflt (x.1.s.ud x.2) (x.1.s.us x.2)+1))) J) (ff (Wk.take x.1.w x.1.s x.2))/\aa (SB.rows F x.1.s.ns.length [jz x.1.s.ns] C (x.1.c1*1) 9) (dY (Wk.take x.1.w x.1.s x.2) b.1)/\aa (SB.rows F x.1.s.fs.length [bU x.1.s.fs,bV x.1.s.fs] C (x.1.c2*2) 50) (dH (Wk.take x.1.w x.1.s x.2) b.2)/\aa (SB.cells [SV.map 5] 1 90) (SB.cells [SV.map 5] 1 90)/\aa (SB.fmap x.1.w.ad (aE.int Q x.1.w.ag) J) (SB.fmap x.1.w.ad (aE.int Q x.1.w.ag) J)/\aa (SB.cells [SV.bE 7 1 x.1.w.z x.1.w.o 0 x.1.w.n x.1.w.c] 1 29) (SB.cells [SV.bE 7 1 x.1.w.z x.1.w.o 0 x.1.w.n x.1.w.c] 1 29)/\True) (∃(_:f_×f_),False))) (Bk (cL x.1.w x.2) (∃(m:Nat×Nat),((if x.1.s.used x.2=0 then x.1.s.ns++[x.1.w.at x.2] else x.1.s.ns).length<=m.1/\x.1.s.fs.length<=m.2)/\False) (∃(p:f_×f_),(∀(q:Nat->Nat),SV.val q g=SV.val q dc)/\(0:Nat)=(0:Nat)/\aa (SB.cells [SV.str F [(110:UInt8),(111:UInt8),(32:UInt8),(110:UInt8),(111:UInt8),(100:UInt8),(101:UInt8),(58:UInt8)],SV.str C x.2] 2 207) (SB.cells [SV.str C p.1,SV.str C p.2] 2 207)/\True)))))) (SV.agg (SV.int .i64 F 0::SV.str F []::SV.str F []::Jo))):=by kernel_rfl
theorem uh {l l' a:Bool}(h:a=b):ah (.bool l a) (.bool l' b):=by subst h;exact λ_=>rfl
theorem afP (h:(!b)=C):b=true:=by cases b with
 | true=>rfl
 | false=>cases h
theorem afQ (h:(!b)=F):b=false:=by cases b with
 | false=>rfl
 | true=>cases h
theorem So (fr to p:f_)(h1:fr.length<=1000)(h2:to.length<=1000):ay (gT oK 43 b! [.agg [.str C fr,.str C to],.str C p] (.ret (.bool C (hasB fr to p)))):=by
 refine ay.of_eq (abA fr to p) ⟨by omega,λh=>⟨by omega,uh ?_⟩,λh=>uh ?_⟩
 ·rw[hasB,h];rfl
 ·rw[hasB,h];rfl
theorem KR (fr to p:f_)(h1:fr.length<=1000)(h2:to.length<=1000):ay (gT oK 42 b_ [.agg [.str C fr,.str C to],.str C p] (.ret (.bool C (bW fr to p)))):=by
 refine ay.of_eq (Ub fr to p) ⟨by omega,λh=>uh ?_,λh=>⟨by omega,λg=>uh ?_,λg=>⟨λl=>⟨⟨by omega,by omega,l_ l⟩,uh ?_⟩,λl=>uh ?_⟩⟩⟩
 ·have h:(V p (au to)||decide (p=au to))=false:=afQ h;rw[bW,h];rfl
 all_goals
  have h:(V p (au to)||decide (p=au to))=true:=afP h;rw[bW,h,g]
 ·rfl
 ·have l:I (p.length<=(au fr).length)=true:=n_ (by have:=l_ l;omega);rw[preB,l];rfl
 ·have l:I (p.length<=(au fr).length)=false:=o_ (by have:=m_ l;omega);rw[preB,l];rfl
theorem N4 (p:f_)(hp:p.length<1099511627776):ay (gT oK 130 bf [.str C p] (Xj p)):=by
 refine ay.mS (abB p) (by delta Bk;exact rfl) ?_;have S: ∀ v:SV,ah v v:=λ_ _=>rfl;have e:oS p=(I ((p.length:Int)%2=0)&&jO p):=rfl;cases h1:I ((p.length:Int)%2=0)<;>cases h2:jO p
 all_goals
  rw[h1,h2] at e;simp only[e,c7,c6,Bool.true_and,Bool.false_and,Z,an,false_imp_iff,forall_const,true_and,and_true,S];omega
theorem V6:ax M 43 (bn Bh):=by
 refine fj (ee (n:=20) (fn:=b!) Tryz.func43 (by kernel_rfl) (by kernel_rfl) ?_);intro args p a h hp;unfold Bh at h;split at h
 ·cases h;exact⟨_,Cp,rfl,rfl,So _ _ _ hp.1 hp.2⟩
 ·cases h
theorem KS:ax M 42 (bn tT):=by
 refine fj (ee (n:=20) Tryz.func42 (by kernel_rfl) (by kernel_rfl) ?_);intro args p a h hp;unfold tT at h;split at h
 ·cases h;exact⟨_,Cp,rfl,rfl,KR _ _ _ hp.1 hp.2⟩
 ·cases h
theorem QG:ax M 130 (bY xq):=by
 refine ee (n:=20) Tryz.func130 (by kernel_rfl) (by kernel_rfl) ?_;intro args p a h hp;unfold xq at h;split at h
 ·cases h;exact⟨_,Cp,rfl,λb=>by cases b<;>exact rfl,N4 _ hp⟩
 ·cases h
end
end Go.Proofs.YtoibaecagklkaaaGreatDoor
