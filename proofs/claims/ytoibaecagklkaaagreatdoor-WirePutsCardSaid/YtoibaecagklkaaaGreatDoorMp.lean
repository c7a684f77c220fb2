/-
  Node: the hashes that a node refers to: the contract.
-/
import Derived.Test.YtoibaecagklkaaaGreatDoorMo
import Derived.Test.YtoibaecagklkaaaGreatDoorMn
open And renaming intro->L
open Bool renaming and_eq_true->O,false->C,false_eq_true->Z,not_false->c5,not_true->c6,true->F,true_eq_false->an
open Decidable renaming decide->I
open Go.IntKind renaming i64->Q
open Go.Op renaming bytesLess->V
open Go.Proofs.Tryz renaming f111->a!,f128->c_,f130->bl,f157->bn,f158->b5,f159->b6,f42->b9,f43->b_,prog->M
open List renaming getElem?_cons_succ->c!,getElem?_map->b!,map_cons->d_
open Nat renaming blt->T,blt_eq->W,le_add_right->d!,le_trans->cB,lt_of_lt_of_le->ef,mul_one->cL,not_lt_zero->a_,zero_le->c4
open Option renaming none->J,some->H
namespace Go.Proofs.YtoibaecagklkaaaGreatDoor
open Go Sx
variable {b:Bool}{a base i n:Nat}{r:Nat->e_}{E ρ:Nat->Nat}{t t':Ren->VC}
section
open Go Sx
set_option maxRecDepth 20000
theorem HM (h:bY (r i)=F)(j:Nat)(hj:j<bJ r i+1):(if j<bJ r i then eV r i j else bZ [af (r i)] (j - bJ r i))=eV r (i+1) j:=by
 show _=(bif bY (r i)then(if j=bJ r i then af (r i)else eV r i j)else eV r i j)
 rw[h];simp only[cond_true];by_cases e:j<bJ r i
 ·rw[if_pos e,if_neg (by omega)]
 ·have e:j=bJ r i:=by omega
  subst e;rw[if_neg (by omega),if_pos rfl,Nat.sub_self];rfl
theorem tB (h:bY (r i)=F):bJ r (i+1)=bJ r i+1:=by rw[bJ,h];rfl
theorem eo (h:bY (r i)=C):bJ r (i+1)=bJ r i/\∀ j,eV r (i+1) j=eV r i j:=by
 refine⟨by rw[bJ,h];rfl,λj=> ?_⟩;show(bif bY (r i)then(if j=bJ r i then af (r i)else eV r i j)else eV r i j)=_
 rw[h];rfl
theorem Fv {x:Nd}(hp:Fits x):av (dB (Nr x) 128 c_ [x.sv] (zE x)):=by
 refine av.gV (Wa x) (by delta Bk Fk;exact rfl) ?_;have ev:=om (lp x);rw[ev];refine⟨At hp,λa=>⟨λb=> ?_,λ_ _=>rfl⟩,λa R=>⟨⟨(0,0),⟨c4 _,Nat.le_refl _⟩,rfl,rfl,rfl,rfl,ah.refl _,ah.refl _,ah.refl _,trivial⟩,λg hg=>⟨λc=> ?_,λc=> ?_⟩⟩⟩
 ·rw[b] at a;cases a
 ·have c:=of_decide_eq_true c;have ei:g.1<16:=by omega
  rw[Int.toNat_natCast,n9 x.r ei];have hf:=hp g.1 ei;have hn:=HN x.r g.1;have hg2:=hg.2;have hs:aI x=true:=by simpa using a
  refine⟨by omega,λd=> ?_,λd=> ?_⟩
  ·have d: ¬ x.r g.1=[]:=by simpa using d
   refine⟨rfl,hf,λe=> ?_,λe=>⟨⟨.inl hf,hf⟩,λf=> ?_,λf=> ?_⟩⟩
   ·refine⟨⟨by omega,trivial,by omega,by omega⟩,by omega,λcap hcap=>⟨by omega,(g.1+1,cap),⟨⟨by show g.1+1<=16;omega,?_⟩,by show 16 - (g.1+1)<_;omega⟩,by show(g.1:Int)+1=((g.1+1:Nat):Int);omega,rfl,⟨rfl,(tB e).symm,rfl⟩,trivial,?_,ah.refl _,ah.refl _,ah.refl _,trivial⟩⟩
    ·show bJ x.r (g.1+1)<=cap;rw[tB e];exact hcap
    ·exact Sx.ah.iJ (tB e).symm (cL cap) λj hj=>HM e j hj
   ·have hk:=wZ f;have hil:=mN f;refine⟨DN (lp (getD (x.r g.1))) (N3 hk.1 (by omega) hil),rfl,⟨by omega,trivial,by omega,by omega⟩,by omega,λcap hcap=>⟨by omega,(g.1+1,cap),⟨⟨by show g.1+1<=16;omega,?_⟩,by show 16 - (g.1+1)<_;omega⟩,by show(g.1:Int)+1=((g.1+1:Nat):Int);omega,rfl,⟨rfl,(eo e).1.symm,rfl⟩,trivial,?_,ah.refl _,ah.refl _,ah.refl _,trivial⟩⟩
    ·show bJ x.r (g.1+1)<=cap;rw[(eo e).1];exact hcap
    ·exact Sx.ah.iJ (eo e).1.symm (cL cap) λj _=>((eo e).2 j).symm
   ·refine⟨DO (by decide),rfl,⟨by omega,trivial,by omega,by omega⟩,by omega,λcap hcap=>⟨by omega,(g.1+1,cap),⟨⟨by show g.1+1<=16;omega,?_⟩,by show 16 - (g.1+1)<_;omega⟩,by show(g.1:Int)+1=((g.1+1:Nat):Int);omega,rfl,⟨rfl,(eo e).1.symm,rfl⟩,trivial,?_,ah.refl _,ah.refl _,ah.refl _,trivial⟩⟩
    ·show bJ x.r (g.1+1)<=cap;rw[(eo e).1];exact hcap
    ·exact Sx.ah.iJ (eo e).1.symm (cL cap) λj _=>((eo e).2 j).symm
  ·have d:x.r g.1=[]:=by simpa using d
   have e:bY (x.r g.1)=false:=by rw[d];rfl
   refine⟨by omega,(g.1+1,g.2),⟨⟨by show g.1+1<=16;omega,?_⟩,by show 16 - (g.1+1)<_;omega⟩,by show(g.1:Int)+1=((g.1+1:Nat):Int);omega,rfl,⟨rfl,(eo e).1.symm,rfl⟩,trivial,?_,ah.refl _,ah.refl _,ah.refl _,trivial⟩
   ·show bJ x.r (g.1+1)<=g.2;rw[(eo e).1];exact hg2
   ·exact Sx.ah.iJ (eo e).1.symm rfl λj _=>((eo e).2 j).symm
 ·have c:=of_decide_eq_false c;have hg1:=hg.1;have e:g.1=16:=by omega
  have hg2:=hg.2;rw[e] at hg2 ⊢;exact⟨λ_=>⟨g.2,hg2,ah.refl _,λ_=>rfl⟩,λh=>by rw[h] at a;cases a⟩
theorem Pj:ax M 128 (bw (mU λx=>H (Fits x,zE x))):=by
 refine cn (n:=20) (fn:=c_) Tryz.func128 (by kernel_rfl) (by kernel_rfl) ?_;intro args p a h hp;obtain⟨x,hx,hg⟩:=tO h;subst hx;cases hg;refine⟨Nr x,aaI x,rfl,λb=> ?_,Fv hp⟩;cases b with
 | false=>exact rfl
 | true =>
   intro c;refine⟨rfl,rfl,λk=>by simp[SV.wf,W],λE E' k k' h=> ?_⟩;cases hn:bJ x.r 16 with
   | zero=>rfl
   | succ n =>rw[hn] at h;have hk:E k=E' k':=h rfl;simp[SV.val,hk]
end
namespace Sx
open Go
noncomputable section
mutual
def SV.aV (ρ:Nat->Nat):SV->SV
 | .ptr k l o=>.ptr (ρ k) l o
 | .kN k w i j=>.kN (ρ k) w i j
 | .oB k b n i=>.oB (ρ k) b n i
 | .slc k o n l c=>.slc (ρ k) o n l c
 | .bx k w z i n c=>.bx (ρ k) w z i n c
 | .aS k w z o i n c=>.aS (ρ k) w z o i n c
 | .iD k w o i j=>.iD (ρ k) w o i j
 | .map k=>.map (ρ k)
 | .yield k=>.yield (ρ k)
 | .agg cs=>.agg (SV.jO ρ cs)
 | .aD vs=>.aD (SV.jO ρ vs)
 | .iface t v=>.iface t (v.aV ρ)
 | .func fn a b=>.func fn (SV.jO ρ a) (SV.jO ρ b)
 | .int k l n=>.int k l n
 | .bool l b=>.bool l b
 | .str l s=>.str l s
 | .cH=>.cH
 | .aK=>.aK
 | .aA=>.aA
 | .fk=>.fk
 | .gr=>.gr
 | .raw v=>.raw v
 | .fY k a o=>.fY (ρ k) a o
 | .fc k w z a i n c=>.fc (ρ k) w z a i n c
 | .m8 k w a i j=>.m8 (ρ k) w a i j
def SV.jO (ρ:Nat->Nat):List SV->List SV
 | []=>[]
 | x::r=>x.aV ρ::SV.jO ρ r
end
mutual
theorem SV.iI (ρ E:Nat->Nat):(v:SV)->(v.aV ρ).val E=v.val (λk=>E (ρ k))
 | .agg cs=>by simp only[SV.aV,SV.val,SV.qV ρ E cs]
 | .aD cs=>by simp only[SV.aV,SV.val,SV.qV ρ E cs]
 | .iface t v=>by simp only[SV.aV,SV.val,SV.iI ρ E v]
 | .func fn a b=>by simp only[SV.aV,SV.val,SV.qV ρ E a,SV.qV ρ E b]
 | .ptr .. =>rfl
 | .kN .. =>rfl
 | .oB .. =>rfl
 | .slc .. =>rfl
 | .bx .. =>rfl
 | .aS .. =>rfl
 | .iD .. =>rfl
 | .map .. =>rfl
 | .yield .. =>rfl
 | .int .. =>rfl
 | .bool .. =>rfl
 | .str .. =>rfl
 | .cH=>rfl
 | .aK=>rfl
 | .aA=>rfl
 | .fk=>rfl
 | .gr=>rfl
 | .raw .. =>rfl
 | .fY .. =>rfl
 | .fc .. =>rfl
 | .m8 .. =>rfl
theorem SV.qV (ρ E:Nat->Nat):(l:List SV)->SV.vals E (SV.jO ρ l)=SV.vals (λk=>E (ρ k)) l
 | []=>rfl
 | x::r=>by simp only[SV.jO,SV.vals,SV.iI ρ E x,SV.qV ρ E r]
end
theorem SV.mh : ∀ {l:List SV} {i:Nat} {u:SV},(SV.jO ρ l)[i]?=H u->∃ v,l[i]?=H v/\u=v.aV ρ
 | [],i,u,h=>by simp[SV.jO] at h
 | x::r,0,u,h=>by simp[SV.jO] at h;exact⟨x,rfl,h.symm⟩
 | x::r,i+1,u,h=>by simp only[SV.jO,c!] at h;obtain⟨v,h1,h2⟩:=SV.mh h;exact⟨v,by simpa using h1,h2⟩
def Hx (ρ:Nat->Nat):List (Nat×SV×SV)->List (Nat×SV×SV)
 | []=>[]
 | e::r=>(e.1,e.2.1.aV ρ,e.2.2.aV ρ)::Hx ρ r
theorem Ao (ρ E:Nat->Nat): ∀ es:List (Nat×SV×SV),ee E (Hx ρ es)=ee (λk=>E (ρ k)) es
 | []=>rfl
 | e::r=>by have:=Ao ρ E r;simp only[ee,Hx,d_] at this ⊢;rw[SV.iI,SV.iI,this]
def aE.aV (ρ:Nat->Nat):aE->aE
 | .ref k f=>.ref (ρ k) f
 | .fc k w z f n c=>.fc (ρ k) w z f n c
 | c=>c
theorem aE.iI (ρ E:Nat->Nat)(c:aE)(i:Nat):((c.aV ρ).at i).val E=(c.at i).val E:=by cases c<;>rfl
def aE.jO (ρ:Nat->Nat):List aE->List aE
 | []=>[]
 | c::r=>c.aV ρ::aE.jO ρ r
def dx.aV (ρ:Nat->Nat):dx->dx
 | .ref k f=>.ref (ρ k) f
 | c=>c
theorem dx.On : ∀ {l:List dx},aE.jO ρ (l.map (dx.at a))=(l.map (dx.aV ρ)).map (dx.at a)
 | []=>rfl
 | c::r=>by simp only[d_,aE.jO,dx.On];congr 1;cases c<;>rfl
theorem aE.vL : ∀ {l:List aE},(aE.jO ρ l).length=l.length
 | []=>rfl
 | c::r=>by simp only[aE.jO,List.length_cons,aE.vL]
theorem aE.mh : ∀ {l:List aE} {k:Nat} {c:aE},(aE.jO ρ l)[k]?=H c->∃ c0,l[k]?=H c0/\c=c0.aV ρ
 | [],_,_,h=>by cases h
 | x::r,0,_,h=>by simp[aE.jO] at h;exact⟨x,rfl,h.symm⟩
 | x::r,k+1,_,h=>by simp only[aE.jO,c!] at h;simpa using aE.mh h
theorem aE.Vq : ∀ {l:List aE} {k:Nat} {v:SV},((aE.jO ρ l).map (aE.at a))[k]?=H v->∃ u,(l.map (aE.at a))[k]?=H u/\v.val E=u.val E:=λ{l k v} h=>by
 rw[b!] at h;cases hc:(aE.jO ρ l)[k]? with
 | none=>rw[hc] at h;cases h
 | some c =>rw[hc] at h;cases h;obtain⟨c0,h1,rfl⟩:=aE.mh hc;exact⟨c0.at a,by rw[b!,h1];rfl,aE.iI ρ E c0 a⟩
def bL.aV (ρ:Nat->Nat):bL->bL
 | .ref k f=>.ref (ρ k) f
 | c=>c
theorem bL.iI (ρ:Nat->Nat)(c:bL)(s:e_):(c.aV ρ).val s=c.val s:=by cases c<;>rfl
def SB.aV (ρ:Nat->Nat):SB->SB
 | .cells cs tot ty=>.cells (SV.jO ρ cs) tot ty
 | .rows z n az ro tot ty=>.rows z n (aE.jO ρ az) ro tot ty
 | .view z o n az=>.view z o n (aE.jO ρ az)
 | .map es c=>.map (Hx ρ es) c
 | .W8 (H k) a b c=>.W8 (H (ρ k)) a b c
 | .tq D cs tot ty ro=>.tq D (aE.jO ρ cs) tot ty ro
 | .j8 D n az ro=>.j8 D n (az.map (dx.aV ρ)) ro
 | .fmap d c p=>.fmap d (c.aV ρ) p
 | B=>B
theorem SB.Yv (ρ:Nat->Nat)(B:SB)(b a:Nat):(B.aV ρ).iz b a↔B.iz b a:=by
 cases B<;>try exact Iff.rfl
 rename_i mp _ _ _;cases mp<;>exact Iff.rfl
theorem bS.Om {E':Nat->Nat}{z:Bool}{o:Nat}{az:List aE}{ob:Obj}(h:bS E' (.view z o n az) ob):bS E (.view z o n (aE.jO ρ az)) ob:=by obtain⟨c,ty,fr,h1,h2⟩:=h;refine⟨c,ty,fr,h1,λi k col hi hk=> ?_⟩;obtain⟨c0,g1,rfl⟩:=aE.mh hk;rw[aE.vL,aE.iI,h2 i k c0 hi g1,SV.val_congr (E:=E) (nx:=0) (λk hk=>absurd hk (a_ _)) _ (aE.CJ i 0 c0)]
theorem bS.aV {B:SB}{o:Obj}(h:bS (λk=>E (ρ k)) (B.el a) o):bS E ((B.aV ρ).el a) o:=by
 cases B with
 | cells cs tot ty =>obtain⟨c,fr,h1,h2,h3,h4⟩:=h;refine⟨c,fr,h1,h2,λi u hu=> ?_,h4⟩;obtain⟨v,g1,g2⟩:=SV.mh hu;subst g2;rw[SV.iI];exact h3 i v g1
 | map es c =>have h:o=.map (ee _ es).toArray c:=h;show o=.map (ee E (Hx ρ es)).toArray c;rw[Ao,h]
 | W8 mp a b c =>
   cases mp with
   | none=>exact h
   | some k=>exact h
 | rows z n az ro tot ty =>obtain⟨c,fr,h1,h2,h3,h4,h5⟩:=h;refine⟨c,fr,h1,h2,by rw[aE.vL];exact h3,h4,λi k col hi hk=> ?_⟩;obtain⟨c0,g1,rfl⟩:=aE.mh hk;rw[aE.vL,aE.iI,h5 i k c0 hi g1,SV.val_congr (E:=E) (nx:=0) (λk hk=>absurd hk (a_ _)) _ (aE.CJ i 0 c0)]
 | view z o n az=>exact bS.Om h
 | loop=>exact h
 | fmap d c p =>obtain⟨es,cl,h1,h2⟩:=h;exact⟨es,cl,h1,⟨h2.st,h2.ks,λs hs=>by rw[bL.iI];exact h2.has s hs,h2.no,h2.pd⟩⟩
 | tq D cs tot ty ro =>
   obtain⟨c,fr,h1,h2,h3,h4⟩:=h;refine⟨c,fr,h1,h2,λi u hu=> ?_,h4⟩;obtain⟨v,g1,g2⟩:=aE.Vq (E:=E) hu;have hv:v.wf 0=true:=by
    rw[b!] at g1;cases hc:cs[i]? with
    | none=>rw[hc] at g1;cases g1
    | some c0=>rw[hc] at g1;cases g1;exact aE.CJ a 0 c0
   rw[h3 i v g1,g2];exact congrArg H (SV.val_congr (nx:=0) (λk hk=>absurd hk (a_ _)) v hv)
 | j8 D n az ro =>have:=bS.Om (ρ:=ρ) (E:=E) h;rw[dx.On] at this;exact this
def mq (base:Nat):List SV->List SV->Ren->(Ren->VC)->VC
 | [],[],aV,t=>t aV
 | h::hs,u::us,aV,t=>uu base aV h u (λaV=>mq base hs us aV t)
 | _,_,_,_=>.fail "call: so many arguments"
theorem mu {base:Nat}: ∀ {hs us:List SV} {aV:Ren} {t:Ren->VC},(mq base hs us aV t).holds ->
  ∃ ren',aV.le ren'/\(t ren').holds/\∀ ren'' (E:Nat->Nat),ren'.le ren''->SV.vals (Ren.E base ren'' E) hs=SV.vals E us
 | [],[],aV,t,h=>⟨aV,Ren.le_refl _,h,λ_ _ _=>rfl⟩
 | h::hs,u::us,aV,t,hh=>by simp only[mq] at hh;obtain⟨r1,h1,h2,h3⟩:=vR hh;obtain⟨r2,g1,g2,g3⟩:=mu h2;exact⟨r2,Ren.le_trans h1 g1,g2,λr'' E hle=>by simp only[SV.vals];rw[h3 r'' E (Ren.le_trans g1 hle),g3 r'' E hle]⟩
 | [],_::_,_,_,h=>h.elim
 | _::_,[],_,_,h=>h.elim
theorem dD {aV:Ren}{kh k1:Nat}(ht: ∀ r,(t r).holds->(t' r).holds)(h:(dF base aV kh k1 t).holds):(dF base aV kh k1 t').holds:=by
 unfold dF at h ⊢;revert h;cases T kh base with
 | true =>
   by_cases e:kh=k1
   ·simp only[if_pos e];exact ht _
   ·simp only[if_neg e];exact id
 | false =>
   cases aV.get kh with
   | none=>exact ht _
   | some k =>
     by_cases e:k=k1
     ·simp only[if_pos e];exact ht _
     ·simp only[if_neg e];exact id
theorem nt {base:Nat}: ∀ {a b:List SV} {aV:Ren} {t t':Ren->VC},(∀ r,(t r).holds->(t' r).holds)->(jr base a b aV t).holds->(jr base a b aV t').holds
 | a,b,aV,t,t',ht,h=>by
   revert h;unfold jr;split
   ·exact ht _
   ·exact dD (t:=λr=>.and (jG _ _) (jr base _ _ r t)) (λr h=>L h.1 (nt ht h.2))
   ·exact id
theorem nr {aV:Ren}{a b:SV}(ht: ∀ r,(t r).holds->(t' r).holds):(kE base aV a b t).holds->(kE base aV a b t').holds:=by
 unfold kE
 split<;>first
  | exact ht _
  | exact λh=>L h.1 (ht _ h.2)
  | exact dD ht
  | exact dD (t:=λr=>.and (jG _ _) (t r)) (λr h=>L h.1 (ht r h.2))
  | exact dD (t:=λr=>.and (.and _ _) (t r)) (λr h=>L h.1 (ht r h.2))
  | exact dD (t:=λr=>.and (.and _ _) (.and _ (t r))) (λr h=>L h.1 (L h.2.1 (ht r h.2.2)))
  | exact dD (t:=λr=>.and (jG _ _) (.and (jG _ _) (t r))) (λr h=>L h.1 (L h.2.1 (ht r h.2.2)))
  | (split<;>first
    | exact id
    | exact λh=>L h.1 (ht _ h.2)
    | exact dD (t:=λr=>.and (jG _ _) (t r)) (λr h=>L h.1 (ht r h.2))
    | exact dD (t:=λr=>.and (.and _ _) (t r)) (λr h=>L h.1 (ht r h.2))
    | exact dD (t:=λr=>.and (.and _ _) (.and _ (t r))) (λr h=>L h.1 (L h.2.1 (ht r h.2.2)))
    | exact dD (t:=λr=>.and (jG _ _) (.and (jG _ _) (.and (jG _ _) (.and (jG _ _) (t r))))) (λr h=>L h.1 (L h.2.1 (L h.2.2.1 (L h.2.2.2.1 (ht r h.2.2.2.2)))))
    | exact nt (λ_ h=>nt ht h))
theorem gR {base:Nat}: ∀ {a b:List SV} {aV:Ren} {t t':Ren->VC},(∀ r,(t r).holds->(t' r).holds)->(hJ base a b aV t).holds->(hJ base a b aV t').holds
 | [],[],_,_,_,ht,h=>ht _ h
 | _::_,_::_,_,_,_,ht,h=>nr (λ_ h=>gR ht h) h
 | [],_::_,_,_,_,_,h=>h.elim
 | _::_,[],_,_,_,_,h=>h.elim
theorem Jt {aV:Ren}{a b:SV}(ht: ∀ r,(t r).holds->(t' r).holds)(h:(uu base aV a b t).holds):(uu base aV a b t').holds:=by
 unfold uu at h ⊢;split at h
 ·exact gR ht h
 ·exact gR ht h
 ·split at h
  ·rename_i e;rw[if_pos e];split at h
   ·exact gR ht h
   ·exact nr ht h
  ·exact h.elim
 ·exact nr ht h
theorem s7 {base:Nat}: ∀ {a b:List SV} {aV:Ren} {t t':Ren->VC},(∀ r,(t r).holds->(t' r).holds)->(mq base a b aV t).holds->(mq base a b aV t').holds
 | [],[],_,_,_,ht,h=>ht _ h
 | _::_,_::_,_,_,_,ht,h=>Jt (λ_ h=>s7 ht h) h
 | [],_::_,_,_,_,_,h=>h.elim
 | _::_,[],_,_,_,_,h=>h.elim
theorem jo {base:Nat}{m:Mem}: ∀ {l:List (Nat×SB)} {used:List Nat} {aV:Ren} {t t':Ren->VC},(∀ r,(t r).holds->(t' r).holds)->(gC base m l used aV t).holds->(gC base m l used aV t').holds
 | [],_,_,_,_,ht,h=>ht _ h
 | (k0,B0)::r,used,aV,t,t',ht,h=>by
   simp only[gC] at h ⊢;revert h;cases dX base aV k0 with
   | none =>
     cases B0.wf base with
     | true=>cases B0.jg with
       | true=>exact λh=>L h.1 (jo ht h.2)
       | false=>exact λh=>L h.1 (jo ht h.2)
     | false=>exact id
   | some k1 =>
     by_cases hu:used.contains k1=F
     ·simp only[if_pos hu];exact id
     ·simp only[if_neg hu];cases m.get k1 with
      | none=>exact id
      | some B =>
        cases B0.wf base with
        | true=>exact λh=>L h.1 (jo ht h.2)
        | false =>
          cases B0<;>try exact id
          cases B<;>try exact id
          rename_i cs' tot' ty' cs tot ty;by_cases e:ty'=ty
          ·simp only[if_pos e];exact λh=>L h.1 (gR (λ_ h=>jo ht h) h.2)
          ·simp only[if_neg e];exact id
inductive iy:Type 1 where
 | ret (v:SV) (back:Mem)
 | fork (b:Bool) (f:Bool->iy)
 | all (α:Type) (f:α->iy)
 | req (p:Prop) (a:iy)
def iy.Fj (g:SV->Mem->VC):iy->VC
 | .ret v back=>g v back
 | .fork b f=>Sx.fork b λc=>(f c).Fj g
 | .all α f=>.all α λx=>(f x).Fj g
 | .req p a=>.imp p (a.Fj g)
def iy.ask (g:SV->Mem->VC):iy->VC
 | .ret v back=>g v back
 | .fork b f=>Sx.fork b λc=>(f c).ask g
 | .all α f=>.ex α λx=>(f x).ask g
 | .req p a=>.and (.atom p) (a.ask g)
theorem iy.meet {g h:SV->Mem->VC}: ∀ {a:iy},(a.ask g).holds->(a.Fj h).holds->∃ v back,(g v back).holds/\(h v back).holds
 | .ret v back,h1,h2=>⟨v,back,h1,h2⟩
 | .fork b f,h1,h2=>by simp only[iy.ask,iy.Fj,c9] at h1 h2;exact iy.meet h1 h2
 | .all α f,⟨x,h1⟩,h2=>iy.meet h1 (h2 x)
 | .req p a,⟨h0,h1⟩,h2=>iy.meet h1 (h2 h0)
theorem iy.rP {g h:SV->Mem->VC}(hg: ∀ v m,(g v m).holds->(h v m).holds): ∀ {a:iy},(a.Fj g).holds->(a.Fj h).holds
 | .ret v back,h1=>hg _ _ h1
 | .fork b f,h1=>by simp only[iy.Fj,c9] at h1 ⊢;exact iy.rP hg h1
 | .all α f,h1=>λx=>iy.rP hg (h1 x)
 | .req p a,h1=>λh0=>iy.rP hg (h1 h0)
structure nC where
 G:Type
 n:Nat
 N:Nat
 pre:G->Prop
 args:G->List SV
 mem:G->Mem
 RJ:G->iy
 gh:SV->Mem->List Gh:=λ_ _=>[]
def mE (n:Nat)(aV:Ren)(nx k:Nat):Nat:=match T k n,aV.get k with
 | true,H k1=>k1
 | _,_=>nx+k
def QB (ρ:Nat->Nat):Mem->Mem
 | []=>[]
 | e::r=>(ρ e.1,e.2.aV ρ)::QB ρ r
def mo (aV:Ren):Mem->List Nat
 | []=>[]
 | e::r=>match e.2.ro,aV.get e.1 with
   | false,H k1=>k1::mo aV r
   | _,_=>mo aV r
def BI (nx:Nat):Ren->Bool
 | []=>F
 | e::r=>T e.2 nx&&BI nx r
def rD (N:Nat):Mem->Bool
 | []=>F
 | e::r=>T e.1 N&&(!e.2.ro)&&rD N r
def SV.Yt (ρ:Nat->Nat)(v:SV):SV:=match v.wf 0&& !v.hint with
 | true=>v
 | false=>v.aV ρ
theorem SV.Ji (ρ E:Nat->Nat)(v:SV):(v.Yt ρ).val E=v.val (λk=>E (ρ k)):=by
 unfold SV.Yt;split
 ·rename_i h;rw[O] at h;exact SV.val_congr (nx:=0) (λk hk=>absurd hk (a_ _)) v h.1
 ·exact SV.iI ρ E v
def SV.Ol (ρ:Nat->Nat):List SV->List SV
 | []=>[]
 | v::r=>v.Yt ρ::SV.Ol ρ r
theorem SV.D3 (ρ E:Nat->Nat): ∀ l:List SV,SV.vals E (SV.Ol ρ l)=SV.vals (λk=>E (ρ k)) l
 | []=>rfl
 | v::r=>by simp only[SV.Ol,SV.vals,SV.Ji,SV.D3 ρ E r]
def SV.Yu (ρ:Nat->Nat):SV->SV
 | .aD vs=>.aD (SV.Ol ρ vs)
 | v=>v.Yt ρ
theorem SV.Vp (ρ E:Nat->Nat)(v:SV):(v.Yu ρ).val E=v.val (λk=>E (ρ k)):=by
 unfold SV.Yu;split
 ·simp only[SV.val,SV.D3]
 ·exact SV.Ji ρ E _
def ZB:SV->SV->Bool
 | .bool F a,.bool F b=>a !=b
 | .int _ F a,.int _ F b=>!decide (a=b)
 | .aA,.iface .. =>F
 | .iface ..,.aA=>F
 | .cH,.ptr .. =>F
 | .ptr ..,.cH=>F
 | _,_=>C
def Td:List SV->List SV->Bool
 | a::r,b::s=>match ZB a b with
   | true=>F
   | false=>Td r s
 | _,_=>C
def Te:SV->SV->Bool
 | .aD a,.aD b=>Td a b
 | a,b=>ZB a b
def gK (c:nC):PT:=λargs m nx K=>.ex c.G λx=>.and (.atom (c.pre x)) (mq 0 (c.args x) args [] λaV=>gC 0 m (c.mem x) [] aV λaV=>match BI nx aV with
 | true=>(c.RJ x).Fj λv back=>(match rD c.N back with
   | true=>K (v.Yu (mE c.n aV nx)) (QB (mE c.n aV nx) back++jX (mo aV (c.mem x)) m) (nx+c.N)
   | false=>.fail "call: blocks that are handed back")
 | false=>.fail "call: keys")
theorem eX (c:nC):bq (gK c):=by
 intro args m nx K K' hK h;obtain⟨x,h1,h2⟩:=h;refine⟨x,h1,s7 (λaV h=>jo (λaV h=> ?_) h) h2⟩;cases hr:BI nx aV with
 | false=>simp only[hr] at h;exact h.elim
 | true =>
   simp only[hr] at h ⊢;refine iy.rP (λv back=> ?_) h;cases rD c.N back with
   | false=>exact id
   | true=>exact hK _ _ _
def nC.fit (c:nC)(x:c.G):SV->Mem->Nat->VC:=λv m _=>RK (c.gh v m) [H v] m λvs m=>match vs with
 | [H v]=>(c.RJ x).ask λu back=>(match Te u v with
   | true=>.fail "call: another way"
   | false=>mq c.n [u] [v] [] λaV=>gC c.n m back [] aV λ_=>.tt)
 | _=>.fail "call: no value"
theorem xY {nx:Nat}: ∀ {aV:Ren} {k k1:Nat},BI nx aV=F->aV.get k=H k1->k1<nx
 | [],_,_,_,h=>by cases h
 | e::r,k,k1,hb,h=>by
   simp only[BI,O,W] at hb;by_cases he:e.1=k
   ·rw[Ren.get,if_pos he] at h;cases h;exact hb.1
   ·rw[Ren.get,if_neg he] at h;exact xY hb.2 h
theorem th {N:Nat}: ∀ {m:Mem} {k:Nat} {B:SB},rD N m=F->m.get k=H B->k<N/\B.ro=C
 | [],_,_,_,h=>by cases h
 | e::r,k,B,hb,h=>by
   simp only[rD,O,W,Bool.not_eq_true'] at hb;by_cases he:e.1=k
   ·rw[Mem.get,if_pos he] at h;cases h;exact⟨he▸ hb.1.1,hb.1.2⟩
   ·rw[Mem.get,if_neg he] at h;exact th hb.2 h
theorem qC {ks:List Nat}: ∀ {m:Mem} {k:Nat} {B:SB},(jX ks m).get k=H B->k∉ ks/\m.get k=H B
 | [],_,_,h=>by cases h
 | e::r,k,B,h=>by
   simp only[jX] at h;cases hc:ks.contains e.1 with
   | true =>rw[hc] at h;obtain⟨h1,h2⟩:=qC h;refine⟨h1,?_⟩;rw[Mem.get,if_neg (λx=>h1 (by rw[← x];simpa using hc))];exact h2
   | false =>
     rw[hc] at h;by_cases he:e.1=k
     ·simp only[Mem.get,he,if_true] at h ⊢;refine⟨λhk=> ?_,h⟩;have:ks.contains e.1=true:=by rw[he];simpa using hk
      rw[hc] at this;cases this
     ·simp only[Mem.get,he,if_false] at h ⊢;exact qC h
theorem BJ {ρ:Nat->Nat}{m1:Mem}: ∀ {m2:Mem} {j:Nat} {X:SB},(QB ρ m2++m1).get j=H X->(∃ k B,m2.get k=H B/\ρ k=j/\X=B.aV ρ)∨m1.get j=H X
 | [],_,_,h=>.inr h
 | e::r,j,X,h=>by
   simp only[QB,List.cons_append] at h;rcases Mem.fH h with ⟨h1,h2⟩ | ⟨hne,h⟩
   ·exact .inl ⟨e.1,e.2,by rw[Mem.get,if_pos rfl],h1.symm,h2⟩
   ·rcases BJ h with ⟨k,B,g1,g2,g3⟩ | h
    ·refine .inl ⟨k,B,?_,g2,g3⟩;rw[Mem.get,if_neg (λx=>hne (by rw[← g2,x]))];exact g1
    ·exact .inr h
theorem BR {aV:Ren}: ∀ {fm:Mem} {k k1:Nat} {B:SB},fm.get k=H B->B.ro=C->aV.get k=H k1->k1∈ mo aV fm
 | [],_,_,_,h,_,_=>by cases h
 | e::r,k,k1,B,h,hr,hk=>by
   rcases Mem.fH (k0:=e.1) (B0:=e.2) h with ⟨h1,h2⟩ | ⟨hne,h⟩
   ·subst h1;subst h2;simp only[mo,hr,hk];exact List.mem_cons_self ..
   ·have:=BR h hr hk;simp only[mo];split
    ·exact List.mem_cons_of_mem _ this
    ·exact this
theorem Oj {aV:Ren}{k:Nat}:dX 0 aV k=aV.get k:=by
 have:T k 0=false:=by cases h:T k 0 with
  | false=>rfl
  | true=>rw[W] at h;omega
 simp[dX,this]
def fe (E:Nat->Nat)(fm:Mem)(b:Nat):Prop:=∃ k B,fm.get k=H B/\B.iz (E k) b/\B.ro=C
theorem aO.aau {Γ E m nx w}(h:aO Γ E m nx w){fm:Mem}{aV:Ren}(hb: ∀ kh B',fm.get kh=H B'->CD 0 m [] aV kh B')
  (hi: ∀ kh kh' B B' k1,fm.get kh=H B->(∃ b a,B.iz b a)->fm.get kh'=H B'->(∃ b a,B'.iz b a)->dX 0 aV kh=H k1->dX 0 aV kh'=H k1->kh=kh') (hlt: ∀ kh B',fm.get kh=H B'->kh<n) :
  ∃ gm,aO (bg.at w (fe (Ren.E 0 aV E) fm) h.Az gm) (Ren.E 0 aV E) fm n w:=by
 have hE: ∀ kh k1,dX 0 aV kh=H k1->Ren.E 0 aV E kh=E k1:=λkh k1 hr=>by simp[Ren.E,hr]
 have hg: ∀ {kh B' a},fm.get kh=H B'->B'.iz (Ren.E 0 aV E kh) a->∃ k1 B,dX 0 aV kh=H k1/\m.get k1=H B/\B.iz (E k1) a/\(∀ E1 o,bS E1 (B.el a) o->bS (Ren.E 0 aV E1) (B'.el a) o)/\(B'.ro=C->B.ro=C):=λ{kh B' a} hg ha=>by obtain⟨k1,B,g1,_,g3,g4,g5,g6⟩:=hb kh B' hg _ a ha;exact⟨k1,B,g1,g3,by rw[← hE kh k1 g1];exact g4,g5,g6⟩
 refine⟨λp hp ⟨k,B,g1,g2,g3⟩=> ?_,λkh B' a hk ha=> ?_,λkh kh' B B' a hk ha hk' ha' hr=> ?_,hlt,λkh B' a hg hn hro=>.inl ⟨kh,B',hg,hn,hro⟩,Ext.refl _ _,⟨c4 _,λk hk=>absurd hk (a_ _)⟩,λD hD=>by cases hD⟩
 ·obtain⟨k1,X,_,q3,q4,_,q6⟩:=hg g1 g2;exact h.N6 q3 q4 (q6 g3) p hp rfl
 ·obtain⟨k1,X,_,q3,q4,q5,_⟩:=hg hk ha;obtain⟨o,ho,hbo⟩:=h.gD k1 X a q3 q4;exact⟨o,ho,q5 E o hbo⟩
 ·obtain⟨k1,X,g1,g3,g5,_,g7⟩:=hg hk ha;obtain⟨k1',X',g1',g3',g5',_,g7'⟩:=hg hk' ha';have:=h.iq k1 k1' X X' a g3 g5 g3' g5' (hr.imp g7 g7');subst this;exact hi kh kh' B B' k1 hk ⟨_,_,ha⟩ hk' ⟨_,_,ha'⟩ g1 g1'
theorem aO.told {Γ:bg}(hΓ:Γ.uF=0){E m nx w}(h:aO Γ E m nx w){N:Nat}{aV:Ren}{m2:Mem}(hb: ∀ kh B',m2.get kh=H B'->CD n m [] aV kh B')
  (hi: ∀ kh kh' B B' k1,m2.get kh=H B->(∃ b a,B.iz b a)->m2.get kh'=H B'->(∃ b a,B'.iz b a)->dX n aV kh=H k1->dX n aV kh'=H k1->kh=kh') (hlt: ∀ kh B',m2.get kh=H B'->kh<N) :
  aO Γ (Ren.E n aV E) m2 N w:=by
 have hE: ∀ kh k1,dX n aV kh=H k1->Ren.E n aV E kh=E k1:=λkh k1 hr=>by simp[Ren.E,hr]
 have hg: ∀ {kh B' a},m2.get kh=H B'->B'.iz (Ren.E n aV E kh) a->∃ k1 B,dX n aV kh=H k1/\m.get k1=H B/\B.iz (E k1) a/\(∀ E1 o,bS E1 (B.el a) o->bS (Ren.E n aV E1) (B'.el a) o)/\(B'.ro=C->B.ro=C):=λ{kh B' a} hg ha=>by obtain⟨k1,B,g1,_,g3,g4,g5,g6⟩:=hb kh B' hg _ a ha;exact⟨k1,B,g1,g3,by rw[← hE kh k1 g1];exact g4,g5,g6⟩
 refine⟨λkh B' a hk ha=> ?_,λkh kh' B B' a hk ha hk' ha' hr=> ?_,hlt,λkh B' a hk ha hro=> ?_,h.ext,⟨by rw[hΓ];exact c4 _,λk hk=>by rw[hΓ] at hk;omega⟩,h.kp⟩
 ·obtain⟨k1,X,_,q3,q4,q5,_⟩:=hg hk ha;obtain⟨o,ho,hbo⟩:=h.gD k1 X a q3 q4;exact⟨o,ho,q5 E o hbo⟩
 ·obtain⟨k1,X,g1,g3,g5,_,g7⟩:=hg hk ha;obtain⟨k1',X',g1',g3',g5',_,g7'⟩:=hg hk' ha';have:=h.iq k1 k1' X X' a g3 g5 g3' g5' (hr.imp g7 g7');subst this;exact hi kh kh' B B' k1 hk ⟨_,_,ha⟩ hk' ⟨_,_,ha'⟩ g1 g1'
 ·obtain⟨k1,X,_,g3,g5,_,g7⟩:=hg hk ha;exact h.iM k1 X a g3 g5 (g7 hro)
def sV (nx:Nat)(E E2:Nat->Nat)(j:Nat):Nat:=if j<nx then E j else E2 (j - nx)
theorem aO.back {Γ E m nx w}(h:aO Γ E m nx w)(hw:Mem.wf nx m=F){fm:Mem}{N:Nat}{aV:Ren}(hb: ∀ kh B',fm.get kh=H B'->CD 0 m [] aV kh B')(hrl:BI nx aV=F)
  {E2:Nat->Nat} {m2:Mem} {w':World} {gl gm} (h2:aO (bg.at w (fe (Ren.E 0 aV E) fm) gl gm) E2 m2 N w') (hE2: ∀ k,k<n->E2 k=Ren.E 0 aV E k) (hro: ∀ k B,m2.get k=H B->B.ro=C) :
  (∀ k,sV nx E E2 (mE n aV nx k)=E2 k) /\
  aO Γ (sV nx E E2) (QB (mE n aV nx) m2++jX (mo aV fm) m) (nx+N) w':=by
 have hρ: ∀ k,sV nx E E2 (mE n aV nx k)=E2 k:=λk=>by
  unfold mE sV;split
  ·rename_i k1 hk hg;have:=xY hrl hg;simp only[this,if_true];rw[hE2 k (by simpa [W] using hk)];simp[Ren.E,Oj,hg]
  ·simp only[show ¬ nx+k<nx by omega,if_false,Nat.add_sub_cancel_left]
 refine⟨hρ,?_⟩;have hMa: ∀ b,fe (Ren.E 0 aV E) fm b->∃ k1 X,k1∈ mo aV fm/\m.get k1=H X/\X.iz (E k1) b/\X.ro=false:=λb ⟨k,B,g1,g2,g3⟩=>by
  obtain⟨k1,X,q1,_,q3,q4,_,q6⟩:=hb k B g1 _ b g2;refine⟨k1,X,BR g1 g3 (by rw[← Oj];exact q1),q3,?_,q6 g3⟩;have:Ren.E 0 aV E k=E k1:=by simp[Ren.E,q1]
  rw[← this];exact q4
 have hx:Sx.Ext (fe (Ren.E 0 aV E) fm) w w':=h2.ext;have hEo: ∀ j,j<nx->sV nx E E2 j=E j:=λj hj=>by simp[sV,hj]
 have old: ∀ {j X},(jX (mo aV fm) m).get j=H X->j<nx/\m.get j=H X/\∀ a,X.iz (E j) a->¬ fe (Ren.E 0 aV E) fm a:=λ{j X} hj=>by obtain⟨h1,h3⟩:=qC hj;refine⟨h.lt _ _ h3,h3,λa ha hm=> ?_⟩;obtain⟨k1,Y,q1,q2,q3,q4⟩:=hMa _ hm;have:=h.iq j k1 X Y a h3 ha q2 q3 (.inr q4);subst this;exact h1 q1
 have hg: ∀ {j X a},(QB (mE n aV nx) m2++jX (mo aV fm) m).get j=H X->X.iz (sV nx E E2 j) a ->
   (∃ k B,m2.get k=H B/\mE n aV nx k=j/\X=B.aV (mE n aV nx)/\B.iz (E2 k) a/\(fe (Ren.E 0 aV E) fm a∨w.heap.size<=a))∨((jX (mo aV fm) m).get j=H X/\X.iz (E j) a/\a<w.heap.size/\¬ fe (Ren.E 0 aV E) fm a):=λ{j X a} hj ha=>by
  rcases BJ hj with ⟨k,B,g1,g2,g3⟩ | hj
  ·subst g3;rw[SB.Yv,← g2,hρ] at ha;exact .inl ⟨k,B,g1,g2,rfl,ha,h2.iM k B a g1 ha (hro k B g1)⟩
  ·obtain⟨q1,q2,q3⟩:=old hj;rw[hEo j q1] at ha;exact .inr ⟨hj,ha,h.W7 q2 ha,q3 a ha⟩
 refine⟨λj X a hj ha=> ?_,λj j' X X' a hj ha hj' ha' hr=> ?_,λj X hj=> ?_,λj X a hj ha hr=> ?_,⟨hx.os.trans h.ext.os,hx.tape.trans h.ext.tape,hx.output.trans h.ext.output,cB h.ext.size hx.size,λi hi hm=>(hx.block i (ef hi h.ext.size) (λhmi=> ?_)).trans (h.ext.block i hi hm)⟩,
  ⟨cB h.cx.1 (d! _ _),λk hk=>(hEo k (ef hk h.cx.1)).trans (h.cx.2 k hk)⟩,λD hD=> ?_⟩
 ·rcases hg hj ha with ⟨k,B,g1,g2,rfl,g4,_⟩ | ⟨hj,ha,hl,hm⟩
  ·obtain⟨o,ho,hbo⟩:=h2.gD k B a g1 g4;refine⟨o,ho,bS.aV ?_⟩;have:(λk=>sV nx E E2 (mE n aV nx k))=E2:=funext hρ;rw[this];exact hbo
  ·obtain⟨q1,q2,_⟩:=old hj;obtain⟨o,ho,hbo⟩:=h.gD j X a q2 ha;exact⟨o,by rw[hx.block _ hl hm];exact ho,hbo.congr hEo (SB.Hu (Mem.GQ hw q2) a)⟩
 ·rcases hg hj ha with ⟨k,B,g1,g2,g3,g4,g5⟩ | ⟨hj,ha,hl,hm⟩<;>rcases hg hj' ha' with ⟨k',B',g1',g2',g3',g4',g5'⟩ | ⟨hj',ha',hl',hm'⟩
  ·rw[← g2,← g2',h2.iq k k' B B' a g1 g4 g1' g4' (.inl (hro k B g1))]
  ·rcases g5 with g5 | g5
   ·exact absurd g5 hm'
   ·omega
  ·rcases g5' with g5 | g5
   ·exact absurd g5 hm
   ·omega
  ·exact h.iq j j' X X' a (old hj).2.1 ha (old hj').2.1 ha' hr
 ·rcases BJ hj with ⟨k,B,g1,g2,_⟩ | hj
  ·rw[← g2];unfold mE;split
   ·rename_i hk;have:=xY hrl hk;omega
   ·have:=h2.lt k B g1;omega
  ·have:=(old hj).1;omega
 ·rcases hg hj ha with ⟨k,B,_,_,_,_,g5⟩ | ⟨hj,ha,_,_⟩
  ·rcases g5 with g5 | g5
   ·obtain⟨k1,Y,_,q2,q3,q4⟩:=hMa _ g5;exact h.iM k1 Y a q2 q3 q4
   ·exact .inr (cB h.ext.size g5)
  ·exact h.iM j X a (old hj).2.1 ha hr
 ·obtain⟨k1,Y,_,q2,q3,q4⟩:=hMa _ hmi;rcases h.iM k1 Y i q2 q3 q4 with h' | h'
  ·exact hm h'
  ·omega
 ·have hd:=h.kp D hD;rw[hx.block _ (Array.getElem?_eq_some_iff.1 hd).1 (λhmD=> ?_)]
  ·exact hd
  ·obtain⟨k1,Y,_,q2,q3,q4⟩:=hMa _ hmD;obtain⟨o,ho,hbo⟩:=h.gD k1 Y D q2 q3;rw[hd] at ho;exact hbo.kA _ (Option.some.inj ho).symm
def N0 (n:Nat):Mem->Bool
 | []=>F
 | e::r=>T e.1 n&&N0 n r
theorem DL {n:Nat}: ∀ {m:Mem} {k:Nat} {B:SB},N0 n m=F->m.get k=H B->k<n
 | [],_,_,_,h=>by cases h
 | e::r,k,B,hb,h=>by
   simp only[N0,O,W] at hb;by_cases he:e.1=k
   ·exact he▸ hb.1
   ·rw[Mem.get,if_neg he] at h;exact DL hb.2 h
def nC.ok (c:nC)(x:c.G):Bool:=N0 c.n (c.mem x)&&Mem.wf c.n (c.mem x)&&SV.e9 c.n (c.args x)
theorem kQ {P:Program}{f:FuncId}{fn:Func}(hf:P.funcs[f]?=H fn) (hn:(fn.name== "runtime.NumGoroutine")=C) (hb:fn.body.isSome=F)  (c:nC)
  (h: ∀ x,c.pre x->∃ cfg,Good P cfg/\c.ok x=F/\av (fL P (calling P cfg n) [] zq (cfg.bh f) cfg.rounds fn (c.args x) (c.mem x) c.n (c.fit x))):ax P f (gK c):=by
 intro args m nx K hk hwf hargs Γ E w hs;obtain⟨x,hpre,hk⟩:=hk;obtain⟨cfg,hgood,hok,hrun⟩:=h x hpre;simp only[nC.ok,O] at hok;obtain⟨⟨hlt,hwm⟩,hwa⟩:=hok;obtain⟨ren1,_,hk1,ha⟩:=mu hk;obtain⟨aV,hle,hk2,hm⟩:=iC hk1;obtain⟨hb0,hi⟩:=hm aV (Ren.le_refl _);revert hk2;cases hrl:BI nx aV with
 | false=>exact λh=>h.elim
 | true =>
   intro hk2;obtain⟨gm,hform⟩:=hs.aau hb0 hi (λkh B' hg=>DL hlt hg);have hc:=dS hgood hf hn hb hrun hwm hwa hform;rw[ha aV E hle] at hc;refine eF hf hn hb (hc.mono ?_);rintro e w' ⟨v,rfl,E1,u,m1,nx1,g1,g2,g3,g4,g5⟩;refine⟨v,rfl,?_⟩;cases u with
   | none=>exact g5.elim
   | some u' =>
     obtain⟨ts,m2,ht,g4,g5⟩:=nL g5 g4;split at g5
     case h_2=>exact g5.elim
     rename_i u;have g3: ∀ z,H u=H z->v=z.val E1:=λz hz=>by cases hz;obtain⟨v0,q1,q2,_⟩:=ht.get 0 u rfl;simp at q1;subst q1;rw[g3 _ rfl,q2]
     obtain⟨u0,back,y2,hk3⟩:=iy.meet g5 hk2;revert y2;cases Te u0 u with
     | true=>exact λh=>h.elim
     | false =>
     intro y2;obtain⟨r1,_,z1,za⟩:=mu y2;obtain⟨r2,hle2,_,zm⟩:=iC z1;obtain⟨zb,zi⟩:=zm r2 (Ren.le_refl _);revert hk3;cases hbk:rD c.N back with
     | false=>exact λh=>h.elim
     | true =>
       intro hk3;have ht:=g4.told rfl zb zi (λkh B' h=>(th hbk h).1);have hE2: ∀ k,k<c.n->Ren.E c.n r2 E1 k=Ren.E 0 aV E k:=λk hk=>(Ren.Nj hk).trans (g1 k hk);obtain⟨hρ,hfin⟩:=hs.back hwf hb0 hrl ht hE2 (λk B h=>(th hbk h).2);refine⟨_,H (u0.Yu (mE c.n aV nx)),_,_,λk hk=>by simp[sV,hk],d! _ _,λz hz=> ?_,hfin,hk3⟩;cases hz;rw[SV.Vp,show(λk=>sV nx E (Ren.E c.n r2 E1) (mE c.n aV nx k))=Ren.E c.n r2 E1 from funext hρ,g3 u rfl]
       have:=za r2 E1 hle2;simp only[SV.vals,List.cons.injEq,and_true] at this;exact this.symm
end
end Sx
section
open Go Sx
set_option maxRecDepth 20000
structure Wy where
 root:e_
 n:Nat
 f:Nat->e_
 z:Bool
 o:Nat
 c:Nat
 u:Nat
def Wy.sb (w:Wy)(key u:Nat)(e:SV):SB:=.cells [.str C w.root,.aS key 1 w.z w.o 0 w.n w.c,.int .i64 C u,e] 4 188
def Wy.view (w:Wy):SB:=.view w.z w.o w.n [.str w.f]
structure Wy.Ok (w:Wy):Prop where
 n:w.n<=200
 f: ∀ i,i<w.n->(w.f i).length<=1000
 u:w.u<=w.n
def c8 (w:Wy)(h:e_):Bool:=I ((w.u:Int)<(w.n:Int))&&(I (b7 (w.f w.u)=h)&&aJ (w.f w.u))
def W4 (u:Nat):SB:=.cells [.int .i64 C u,.iface 30 (.int .i64 F 10)] 2 186
def kV (k:Nat):SV:=.iface 184 (.ptr k F 0)
def WQ (w:Wy):iy:=.ret (.aD [cK,.bool F C]) [(0,w.sb 1 w.u (kV 2)),(2,W4 w.u)]
def Z1 (w:Wy)(h:e_):iy:=.fork (c8 w h) λb=>match b with
 | true=>.ret (.aD [(getD (w.f w.u)).sv,.bool F F]) [(0,w.sb 1 (w.u+1) .aA)]
 | false=>WQ w
def adA (q:e_->Prop)(RJ:Wy->e_->iy):nC :={G:=Wy×e_,n:=2,N:=3,pre:=λx=>x.1.Ok/\q x.2,args:=λx=>[.ptr 0 F 0,.str C x.2],mem:=λx=>[(0,x.1.sb 1 x.1.u .aA),(1,x.1.view)],RJ:=λx=>RJ x.1 x.2}
def JK:nC:=adA (λ_=>True) Z1
noncomputable def runM (cfg:dK)(f:Nat)(fn:Func)(c:nC)(x:c.G):VC:=fL M (calling M cfg 20) [] zq (cfg.bh f) cfg.rounds fn (c.args x) (c.mem x) c.n (c.fit x)
def XA (w:Wy)(t:e_):iy:=.fork (bM t) λb=>match b with
 | true=>.ret (.aD [(getD t).sv,.bool F F]) [(0,w.sb 1 w.u .aA)]
 | false=>.fork (bY t) λb=>match b with
   | true=>Z1 w (af t)
   | false=>WQ w
def rA:nC:=adA (λt=>t.length<9223372036854775808) XA
def preB (p s:e_):Bool:=I (p.length<=s.length)&&I (s.take p.length=p)
def aT (x:Nd)(p:e_):e_:=if x.k=3 then(if p≠[]/\ai p 0<16 then x.r (ai p 0).toNat else [])else if x.k=2 then(bif preB x.p p then x.r 0 else [])else []
def bC (x:Nd)(p:e_):e_:=if aT x p=[] then p else if x.k=3 then p.drop 1 else p.drop x.p.length
def eS (x:Nd)(p:e_):Bool:=(I (x.k=1)&&I (x.p=p))||(I (x.k=3)&&(I (p=[])&& !decide (x.v=[])))
def fF (x:Nd)(p:e_):e_:=bif eS x p then x.v else []
def Ky (x:Nd)(p:e_):cN:=.ret (.agg [.bool C (eS x p),.str C (fF x p)])
def Nd.again (x:Nd):Nd:={k:=x.k,p:=x.p,v:=x.v,r:=fun(i:Nat)=>[x.r 0,x.r 1,x.r 2,x.r 3,x.r 4,x.r 5,x.r 6,x.r 7,x.r 8,x.r 9,x.r 10,x.r 11,x.r 12,x.r 13,x.r 14,x.r 15].getD i []}
def bB (x:Nd):List SV:=.int .i64 C x.k::.str C x.p::.str C x.v::BF x.r
def zeroCells:List SV:=[.int .i64 F 0,.str F [],.str F [],.str F [],.str F [],.str F [],.str F [],.str F [],.str F [],.str F [],.str F [],.str F [],.str F [],.str F [],.str F [],.str F [],.str F [],.str F [],.str F []]
def JG (x:Nd)(p:e_):cN:=.ret (.aD [.str C (aT x p),.str C (bC x p)])
theorem Wp (x:Wy×e_):VC.holds (runM mJ 157 bn JK x)=((λb:SV=>((λa:SB=>((Fk ((x.1.n:Int)<=(x.1.u:Int)) (Bk (c8 x.1 x.2) False ((∀(d:Nat->Nat),SV.val d b=SV.val d cK)/\C=C/\(4:Nat)=(4:Nat)/\x.1.root=x.1.root/\(x.1.z=x.1.z/\x.1.o=x.1.o/\(0:Nat)=(0:Nat)/\x.1.n=x.1.n/\x.1.c=x.1.c)/\(x.1.u:Int)=(x.1.u:Int)/\(0:Nat)=(0:Nat)/\ah a a/\True)) ((0<=(x.1.u:Int)/\(x.1.u:Int)<(x.1.n:Int))/\(x.1.o=x.1.o/\0+(x.1.u:Int).toNat<x.1.n)/\(True/\IQ [x.1.f (0+(x.1.u:Int).toNat)])/\Bk (!decide (b7 (flat [x.1.f (0+(x.1.u:Int).toNat)])=x.2)) (Bk (c8 x.1 x.2) False ((∀(e:Nat->Nat),SV.val e b=SV.val e cK)/\C=C/\(4:Nat)=(4:Nat)/\x.1.root=x.1.root/\(x.1.z=x.1.z/\x.1.o=x.1.o/\(0:Nat)=(0:Nat)/\x.1.n=x.1.n/\x.1.c=x.1.c)/\(x.1.u:Int)=(x.1.u:Int)/\(0:Nat)=(0:Nat)/\ah a a/\True)) ((0<=(x.1.u:Int)/\(x.1.u:Int)<(x.1.n:Int))/\(x.1.o=x.1.o/\0+(x.1.u:Int).toNat<x.1.n)/\(((x.1.f (0+(x.1.u:Int).toNat)).length<=9223372036854775808/\(x.1.f (0+(x.1.u:Int).toNat)).length<1099511627776)/\Bk (aJ (x.1.f (0+(x.1.u:Int).toNat))) (H x.1.view=H x.1.view/\H (x.1.sb 1 x.1.u SV.aA)=H (x.1.sb 1 x.1.u SV.aA)/\H (x.1.sb 1 x.1.u SV.aA)=H (x.1.sb 1 x.1.u SV.aA)/\I6 ((x.1.u:Int)+1)/\Bk (c8 x.1 x.2) ((∀(g:Nat->Nat),SV.val g (SV.agg (bB (getD (x.1.f (0+(x.1.u:Int).toNat)))))=SV.val g (getD (x.1.f x.1.u)).sv)/\F=F/\ah (SB.cells [SV.str C x.1.root,SV.aS 1 1 x.1.z x.1.o 0 x.1.n x.1.c,SV.int .i64 C ((x.1.u:Int)+1),SV.aA] 4 188) (SB.cells [SV.str C x.1.root,SV.aS 1 1 x.1.z x.1.o 0 x.1.n x.1.c,SV.int .i64 C (↑(x.1.u+1):Int),SV.aA] 4 188)/\True) False) (H x.1.view=H x.1.view/\H (x.1.sb 1 x.1.u SV.aA)=H (x.1.sb 1 x.1.u SV.aA)/\H (x.1.sb 1 x.1.u SV.aA)=H (x.1.sb 1 x.1.u SV.aA)/\Bk (c8 x.1 x.2) False ((∀(u2:Nat->Nat),SV.val u2 b=SV.val u2 cK)/\C=C/\(4:Nat)=(4:Nat)/\x.1.root=x.1.root/\(x.1.z=x.1.z/\x.1.o=x.1.o/\(0:Nat)=(0:Nat)/\x.1.n=x.1.n/\x.1.c=x.1.c)/\(x.1.u:Int)=(x.1.u:Int)/\(0:Nat)=(0:Nat)/\ah a a/\True)))/\H x.1.view=H x.1.view/\H (x.1.sb 1 x.1.u SV.aA)=H (x.1.sb 1 x.1.u SV.aA)/\H (x.1.sb 1 x.1.u SV.aA)=H (x.1.sb 1 x.1.u SV.aA)/\((x.1.f (0+(x.1.u:Int).toNat)).length<=9223372036854775808/\(x.1.f (0+(x.1.u:Int).toNat)).length<1099511627776)/\Bk (aJ (x.1.f (0+(x.1.u:Int).toNat))) (I6 ((x.1.u:Int)+1)/\Bk (c8 x.1 x.2) ((∀(h:Nat ->Nat),SV.val h (SV.agg (bB (getD (x.1.f (0+(x.1.u:Int).toNat)))))=SV.val h (getD (x.1.f x.1.u)).sv)/\F=F/\ah (SB.cells [SV.str C x.1.root,SV.aS 1 1 x.1.z x.1.o 0 x.1.n x.1.c,SV.int .i64 C ((x.1.u:Int)+1),SV.aA] 4 188) (SB.cells [SV.str C x.1.root,SV.aS 1 1 x.1.z x.1.o 0 x.1.n x.1.c,SV.int .i64 C (↑(x.1.u+1):Int),SV.aA] 4 188)/\True) False) (Bk (c8 x.1 x.2) False ((∀(i:Nat->Nat),SV.val i b=SV.val i cK)/\C=C/\(4:Nat)=(4:Nat)/\x.1.root=x.1.root/\(x.1.z=x.1.z/\x.1.o=x.1.o/\(0:Nat)=(0:Nat)/\x.1.n=x.1.n/\x.1.c=x.1.c)/\(x.1.u:Int)=(x.1.u:Int)/\(0:Nat)=(0:Nat)/\ah a a/\True))))))) (SB.cells [SV.int .i64 C (x.1.u:Int),SV.iface 30 (SV.int .i64 F 10)] 2 186))) (SV.agg (SV.int .i64 F 0::SV.str F []::SV.str F []::wD))):=by kernel_rfl
theorem Wo (x:Nd)(p:e_):VC.holds (dB mJ 158 b5 [x.sv,.str C p] (JG x p))=((λa:SV=>((Fk (x.k=3) (Bk (!decide (p=[])) (((0:Int)<=(0:Int)/\0<(p.length:Int))/\((-9223372036854775808:Int)<=ai p 0/\ai p 0<=9223372036854775807)/\Fk (ai p 0<16) (((0:Int)<=(0:Int)/\0<(p.length:Int))/\(0<=ai p 0/\ai p 0<16)/\(ai p 0).toNat<16/\((0:Int)<=(1:Int)/\1<=(p.length:Int)/\(p.length:Int)<=(p.length:Int))/\Fk (bZ (bG x.r []) (ai p 0).toNat=[]) (aa (SV.aD [SV.str F [],SV.str C p]) a) (aa (SV.aD [SV.str C (bZ (bG x.r []) (ai p 0).toNat),SV.str (C&&F&&C) (aB p (H (Operand.const (Value.int Q 1))) J 1 (p.length:Int))]) a)) (aa (SV.aD [SV.str F [],SV.str C p]) a)) (aa (SV.aD [SV.str F [],SV.str C p]) a)) (Fk (x.k=2) (Fk ((x.p.length:Int)<=(p.length:Int)) (((0:Int)<=(0:Int)/\0<=(x.p.length:Int)/\(x.p.length:Int)<=(p.length:Int))/\Bk (!decide (aB p J (H (Operand.tmp 13)) 0 (x.p.length:Int)=x.p)) (aa (SV.aD [SV.str F [],SV.str C p]) a) ((0<=(x.p.length:Int)/\(x.p.length:Int)<=(p.length:Int)/\(p.length:Int)<=(p.length:Int))/\Fk (x.r 0=[]) (aa (SV.aD [SV.str F [],SV.str C p]) a) (aa (SV.aD [SV.str C (x.r 0),SV.str (C&&C&&C) (aB p (H (Operand.tmp 13)) J (x.p.length:Int) (p.length:Int))]) a))) (aa (SV.aD [SV.str F [],SV.str C p]) a)) (aa (SV.aD [SV.str F [],SV.str C p]) a))))) (SV.aD [SV.str C (aT x p),SV.str C (bC x p)])):=by kernel_rfl
theorem JW (x:Nd)(p:e_):VC.holds (dB mJ 111 a! [x.sv,.str C p] (Ky x p))=((λa:SV=>((Fk (x.k=1) (Fk (x.p=p) (aa (SV.agg [SV.bool F F,SV.str C x.v]) a) (Fk (x.k=3) (Fk (p=[]) (Bk (!decide (x.v=[])) (aa (SV.agg [SV.bool F F,SV.str C x.v]) a) (aa (SV.agg [SV.bool F C,SV.str F []]) a)) (aa (SV.agg [SV.bool F C,SV.str F []]) a)) (aa (SV.agg [SV.bool F C,SV.str F []]) a))) (Fk (x.k=3) (Fk (p=[]) (Bk (!decide (x.v=[])) (aa (SV.agg [SV.bool F F,SV.str C x.v]) a) (aa (SV.agg [SV.bool F C,SV.str F []]) a)) (aa (SV.agg [SV.bool F C,SV.str F []]) a)) (aa (SV.agg [SV.bool F C,SV.str F []]) a))))) (SV.agg [SV.bool C (eS x p),SV.str C (fF x p)])):=by kernel_rfl
theorem oZ {a b c d:e_}{l1 l2 l3 l4:Bool}(h1:a=c)(h2:b=d):aa (.aD [.str l1 a,.str l2 b]) (.aD [.str l3 c,.str l4 d]):=by subst h1;subst h2;exact λ_=>rfl
theorem MP (x:Nd)(p:e_):av (dB mJ 158 b5 [x.sv,.str C p] (JG x p)):=by
 refine av.gV (Wo x p) (by delta Bk Fk;exact rfl) ?_;dsimp only;have hb:=cg p 0;refine⟨λh3=>⟨λhp=> ?_,λhp=> ?_⟩,λh3=>⟨λh2=>⟨λhl=> ?_,λhl=> ?_⟩,λh2=> ?_⟩⟩
 ·have h3:=of_decide_eq_true h3;have hp:p≠[]:=by simpa using hp
  have hl:=List.length_pos_iff.2 hp;refine⟨by omega,by omega,λh16=> ?_,λh16=> ?_⟩
  ·have h16:=of_decide_eq_true h16;have hi:(ai p 0).toNat<16:=by omega
   rw[n9 x.r hi];have er:aT x p=x.r (ai p 0).toNat:=by rw[aT,if_pos h3,if_pos ⟨hp,h16⟩]
   refine⟨by omega,by omega,hi,by omega,λh0=>oZ ?_ ?_,λh0=>oZ er.symm ?_⟩
   ·rw[er];exact(of_decide_eq_true h0).symm
   ·rw[bC,er,if_pos (of_decide_eq_true h0)]
   ·rw[bC,er,if_neg (of_decide_eq_false h0),if_pos h3];rfl
  ·have er:aT x p=[]:=by rw[aT,if_pos h3,if_neg (λh=>of_decide_eq_false h16 h.2)]
   exact oZ er.symm (by rw[bC,if_pos er])
 ·have h3:=of_decide_eq_true h3;have hp:p=[]:=by simpa using hp
  have er:aT x p=[]:=by rw[aT,if_pos h3,if_neg (λh=>h.1 hp)]
  exact oZ er.symm (by rw[bC,if_pos er])
 ·have h3:=of_decide_eq_false h3;have h2:=of_decide_eq_true h2;have hl:=of_decide_eq_true hl;have ep:aB p J (H (Operand.tmp 13)) 0 (x.p.length:Int)=p.take x.p.length:=rfl;rw[ep];have hd:I (x.p.length<=p.length)=true:=decide_eq_true (by omega);refine⟨by omega,λhq=> ?_,λhq=>⟨by omega,λh0=> ?_,λh0=> ?_⟩⟩
  ·have hq:I (p.take x.p.length=x.p)=false:=by simpa using hq
   have er:aT x p=[]:=by rw[aT,if_neg h3,if_pos h2,preB,hd,hq];rfl
   exact oZ er.symm (by rw[bC,if_pos er])
  ·have hq:I (p.take x.p.length=x.p)=true:=by simpa using hq
   have er:aT x p=x.r 0:=by rw[aT,if_neg h3,if_pos h2,preB,hd,hq];rfl
   have h0:=of_decide_eq_true h0;exact oZ (by rw[er,h0]) (by rw[bC,er,if_pos h0])
  ·have hq:I (p.take x.p.length=x.p)=true:=by simpa using hq
   have er:aT x p=x.r 0:=by rw[aT,if_neg h3,if_pos h2,preB,hd,hq];rfl
   have h0:=of_decide_eq_false h0;exact oZ er.symm (by rw[bC,er,if_neg h0,if_neg h3];rfl)
 ·have h3:=of_decide_eq_false h3;have h2:=of_decide_eq_true h2;have hl: ¬ x.p.length<=p.length:=by have:=of_decide_eq_false hl;omega
  have er:aT x p=[]:=by rw[aT,if_neg h3,if_pos h2,preB,decide_eq_false hl];rfl
  exact oZ er.symm (by rw[bC,if_pos er])
 ·have h3:=of_decide_eq_false h3;have h2:=of_decide_eq_false h2;have er:aT x p=[]:=by rw[aT,if_neg h3,if_neg h2]
  exact oZ er.symm (by rw[bC,if_pos er])
theorem Cg (x:Nd)(p:e_):av (dB mJ 111 a! [x.sv,.str C p] (Ky x p)):=by
 refine av.gV (JW x p) (by delta Bk Fk;exact rfl) ?_;dsimp only;have hv:fF x p=bif eS x p then x.v else []:=rfl
 have hb:eS x p=((I (x.k=1)&&I (x.p=p))||(I (x.k=3)&&(I (p=[])&& !decide (x.v=[])))):=rfl;rw[hv,hb];generalize I (x.k=1)=a;generalize I (x.p=p)=b;generalize I (x.k=3)=c;generalize I (p=[])=d;generalize I (x.v=[])=e;have s0:aa (.agg [.bool F F,.str C x.v]) (.agg [.bool C F,.str C x.v]):=λ_=>rfl;have s1:aa (.agg [.bool F C,.str F []]) (.agg [.bool C C,.str C []]):=λ_=>rfl;cases a<;>cases b<;>cases c<;>cases d<;>cases e<;>simp[s0,s1]
def oe:List SV->Option (Prop×cN)
 | [.agg l,.str C p]=>(match F2 l with
   | some x=>H (True,JG x p)
   | none=>J)
 | _=>J
def wP:List SV->Option (Prop×cN)
 | [.agg l,.str C p]=>(match F2 l with
   | some x=>H (True,Ky x p)
   | none=>J)
 | _=>J
theorem YC:ax M 158 (bw oe):=by
 refine cn (n:=20) (fn:=b5) Tryz.func158 (by kernel_rfl) (by kernel_rfl) ?_;intro args p a h hp;unfold oe at h;split at h
 ·split at h
  ·rename_i x hx;cases h;rw[mT hx];exact⟨mJ,wW,rfl,rfl,MP _ _⟩
  ·cases h
 ·cases h
theorem Kz:ax M 111 (bw wP):=by
 refine cn (n:=20) (fn:=a!) Tryz.func111 (by kernel_rfl) (by kernel_rfl) ?_;intro args p a h hp;unfold wP at h;split at h
 ·split at h
  ·rename_i x hx;cases h;rw[mT hx];exact⟨mJ,wW,rfl,rfl,Cg _ _⟩
  ·cases h
 ·cases h
theorem nK (a:e_):flat [a]=a:=by simp[flat]
theorem abD {a:e_}(h:a.length<=1099511627776):IQ [a]:=⟨by rw[nK];omega,by simp⟩
attribute [local irreducible] b7 aJ getD
theorem MR {x:Wy×e_}(h:x.1.Ok):av (runM mJ 157 bn JK x):=by
 refine av.gV (Wp x) (by delta Bk Fk;exact rfl) ?_;dsimp only;obtain⟨w,t⟩:=x;have h:w.Ok:=h;have hu:=h.u;have hn:=h.n;simp only[Int.toNat_natCast,Nat.zero_add,nK];by_cases h1:(w.u:Int)<w.n
 ·have hf:=h.f w.u (by omega);have d1:I ((w.n:Int)<=w.u)=false:=decide_eq_false (by omega);have hq:IQ [w.f w.u]:=abD (by omega);cases h2:I (b7 (w.f w.u)=t)<;>cases h3:aJ (w.f w.u)
  all_goals
   have ht:c8 w t=(I ((w.u:Int)<w.n)&&(I (b7 (w.f w.u)=t)&&aJ (w.f w.u))):=rfl;rw[decide_eq_true h1,h2,h3] at ht;simp only[d1,ht,c6,c5,Bool.and_false,Bool.and_true,Z,an,false_imp_iff,forall_const,true_and,and_true,hq]
   repeat' first
    | omega
    | exact ah.refl _
    | refine L ?_ ?_
    | exact λ_=>rfl
    | rfl
    | exact trivial
    | fail
 ·have d1:I ((w.n:Int)<=w.u)=true:=decide_eq_true (by omega);have ht:c8 w t=false:=by rw[c8,decide_eq_false h1];rfl
  simp only[d1,ht,Z,an,false_imp_iff,forall_const,true_and,and_true]
  repeat' first
   | omega
   | exact ah.refl _
   | refine L ?_ ?_
   | exact λ_=>rfl
   | rfl
   | exact trivial
   | fail
theorem YE:ax M 157 (gK JK) :=kQ (n:=20) (fn:=bn) Tryz.func157 (by kernel_rfl) (by kernel_rfl) JK λx hx=>⟨mJ,wW,rfl,MR hx.1⟩
noncomputable def zJ:List (FuncId×PT):=(157,gK JK)::(151,bw ki)::A2
theorem tJ:aQ M (λf=>ay f zJ):=.cons YE (eX _) (.cons Fu (aZ _) rV)
noncomputable def EK:dK:={bE with cm:=λf=>ay f zJ}
theorem XF:Sx.Good M EK:=.of bz tJ aU
end
section
open Go Sx
set_option maxRecDepth 20000
theorem M7 (x:Wy×e_):VC.holds (runM EK 159 b6 rA x)=((λb:SV=>((λe:(Wy×e_)->SB=>((λd:SB=>((Rel 9223372036854775808 x.2/\Bk (bM x.2) (Bk (bM x.2) ((∀(g:Nat->Nat),SV.val g (SV.agg (bB (getD x.2)))=SV.val g (getD x.2).sv)/\F=F/\ah (x.1.sb 1 x.1.u SV.aA) (x.1.sb 1 x.1.u SV.aA)/\True) (Bk (bY x.2) (Bk (c8 x.1 (af x.2)) ((∀(h:Nat->Nat),SV.val h (SV.agg (bB (getD x.2)))=SV.val h (getD (x.1.f x.1.u)).sv)/\F=F/\ah (SB.cells [SV.str C x.1.root,SV.aS 1 1 x.1.z x.1.o 0 x.1.n x.1.c,SV.int .i64 C (x.1.u:Int),SV.aA] 4 188) (SB.cells [SV.str C x.1.root,SV.aS 1 1 x.1.z x.1.o 0 x.1.n x.1.c,SV.int .i64 C (↑(x.1.u+1):Int),SV.aA] 4 188)/\True) False) False)) (x.2.length<9223372036854775808/\Bk (bY x.2) (∃(a:Wy×e_),(a.1.Ok/\True)/\(0:Nat)=(0:Nat)/\af x.2=a.2/\(4:Nat)=(4:Nat)/\x.1.root=a.1.root/\(x.1.z=a.1.z/\x.1.o=a.1.o/\(0:Nat)=(0:Nat)/\x.1.n=a.1.n/\x.1.c=a.1.c) /\(x.1.u:Int)=(a.1.u:Int)/\ah (SB.view x.1.z x.1.o x.1.n [aE.str x.1.f]) (SB.view a.1.z a.1.o a.1.n [aE.str a.1.f])/\Bk (c8 a.1 a.2) (Bk (bM x.2) ((∀(i:Nat->Nat),SV.val i (SV.agg (bB (getD (a.1.f a.1.u))))=SV.val i (getD x.2).sv)/\F=F/\ah (e a) (SB.cells [SV.str C x.1.root,SV.aS 1 1 x.1.z x.1.o 0 x.1.n x.1.c,SV.int .i64 C (x.1.u:Int),SV.aA] 4 188)/\True) (Bk (bY x.2) (Bk (c8 x.1 (af x.2)) ((∀(j:Nat->Nat),SV.val j (SV.agg (bB (getD (a.1.f a.1.u))))=SV.val j (getD (x.1.f x.1.u)).sv)/\F=F/\ah (e a) (SB.cells [SV.str C x.1.root,SV.aS 1 1 x.1.z x.1.o 0 x.1.n x.1.c,SV.int .i64 C (↑(x.1.u+1):Int),SV.aA] 4 188)/\True) False) False)) (Bk (bM x.2) False (Bk (bY x.2) (Bk (c8 x.1 (af x.2)) False ((∀(k:Nat ->Nat),SV.val k b=SV.val k cK)/\C=C/\(4:Nat)=(4:Nat)/\a.1.root=x.1.root/\(a.1.z=x.1.z/\a.1.o=x.1.o/\(0:Nat)=(0:Nat)/\a.1.n=x.1.n/\a.1.c=x.1.c)/\(a.1.u:Int)=(x.1.u:Int)/\(0:Nat)=(0:Nat)/\ah (SB.cells [SV.int .i64 C (a.1.u:Int),SV.iface 30 (SV.int .i64 F 10)] 2 186) d/\True)) ((∀(u2:Nat->Nat),SV.val u2 b=SV.val u2 cK)/\C=C/\(4:Nat)=(4:Nat)/\a.1.root=x.1.root/\(a.1.z=x.1.z/\a.1.o=x.1.o/\(0:Nat)=(0:Nat)/\a.1.n=x.1.n/\a.1.c=x.1.c)/\(a.1.u:Int)=(x.1.u:Int)/\(0:Nat)=(0:Nat)/\ah (SB.cells [SV.int .i64 C (a.1.u:Int),SV.iface 30 (SV.int .i64 F 10)] 2 186) d/\True)))) (Bk (bM x.2) False (Bk (bY x.2) (Bk (c8 x.1 (af x.2)) False ((∀(l:Nat->Nat),SV.val l b=SV.val l cK)/\C=C/\(4:Nat)=(4:Nat)/\x.1.root=x.1.root/\(x.1.z=x.1.z/\x.1.o=x.1.o/\(0:Nat)=(0:Nat)/\x.1.n=x.1.n /\x.1.c=x.1.c)/\(x.1.u:Int)=(x.1.u:Int)/\(0:Nat)=(0:Nat)/\ah d d/\True)) ((∀(m:Nat->Nat),SV.val m b=SV.val m cK)/\C=C/\(4:Nat)=(4:Nat)/\x.1.root=x.1.root/\(x.1.z=x.1.z/\x.1.o=x.1.o/\(0:Nat)=(0:Nat)/\x.1.n=x.1.n/\x.1.c=x.1.c)/\(x.1.u:Int)=(x.1.u:Int)/\(0:Nat)=(0:Nat)/\ah d d/\True))))))) (SB.cells [SV.int .i64 C (x.1.u:Int),SV.iface 30 (SV.int .i64 F 10)] 2 186))) (fun(a:Wy×e_)=>(SB.cells [SV.str C a.1.root,SV.aS (mE 2 (pU 0 (Mem.put 3 (SB.cells (bf b.cells 0 cK.cells) 19 138) [((3:Nat),SB.cells b.cells 19 138),((2:Nat),SB.cells b.cells 19 138),((0:Nat),x.1.sb 1 x.1.u SV.aA),((1:Nat),x.1.view)]) a.1.view x.1.view [((1:Nat),(1:Nat)),((0:Nat),(0:Nat))]) 4 1) 1 a.1.z a.1.o 0 a.1.n a.1.c,SV.int .i64 C (↑(a.1.u+1):Int),SV.aA] 4 188)))) (SV.agg (SV.int .i64 F 0::SV.str F []::SV.str F []::wD))):=by kernel_rfl
section
attribute [local irreducible] b7 aJ getD bM bY af c8
theorem Fh {x:Wy×e_}(h:x.1.Ok)(ht:x.2.length<9223372036854775808):av (runM EK 159 b6 rA x):=by
 refine av.gV (M7 x) (by delta Bk;exact rfl) ?_;dsimp only;obtain⟨w,t⟩:=x;have h:w.Ok:=h;have ht:t.length<9223372036854775808:=ht;have hr:Rel 9223372036854775808 t:=⟨.inl ht,ht⟩
 cases h1:bM t<;>cases h2:bY t<;>cases h3:c8 w (af t)
 all_goals simp only[hr,ht,Z,an,false_imp_iff,forall_const,true_and,and_true]
 all_goals try refine⟨(w,af t),h,?_⟩
 all_goals try dsimp only
 all_goals try simp only[h3,Z,an,false_imp_iff,forall_const,true_and,and_true]
 all_goals
  repeat' first
   | exact ah.refl _
   | refine L ?_ ?_
   | exact λ_=>rfl
   | rfl
   | exact trivial
   | fail
end
theorem Pe:ax M 159 (gK rA) :=kQ (n:=20) (fn:=b6) Tryz.func159 (by kernel_rfl) (by kernel_rfl) rA λx hx=>⟨EK,XF,rfl,Fh hx.1 hx.2⟩
def sK (w:Wy)(t:e_):Option (Nd×Nat):=if bM t=F then H (getD t,w.u)else if(bY t&&c8 w (af t))=F then H (getD (w.f w.u),w.u+1)else J
def Wy.on (w:Wy)(u:Nat):Wy:={w with u:=u}
def gE (w:Wy):Nat->Nd->e_->Nat->Option (Nd×e_×Nat)
 | 0,_,_,_=>J
 | m+1,x,p,u=>if aT x p=[] then H (x,p,u)else match sK (w.on u) (aT x p)with
   | none=>J
   | some (y,u')=>gE w m y (bC x p) u'
def dg (w:Wy)(p:e_):Option (Nd×e_×Nat):=bif c8 (w.on 0) w.root then gE w (p.length+1) (getD (w.f 0)) p 1 else J
def ck (w:Wy)(p:e_):Option (Nd×e_):=if 40<w.n then J else match dg w p with
 | some (y,q,u)=>if u<w.n then J else H (y,q)
 | none=>J
def Qs (r:Option (Nd×e_)):Bool:=match r with
 | some (y,q)=>eS y q
 | none=>C
def Yi (r:Option (Nd×e_)):e_:=match r with
 | some (y,q)=>fF y q
 | none=>[]
def acw (w:Wy)(key:e_):cN:=.fork (ck w (ak key)).isSome λb=>match b with
 | true=>.ret (.aD [.agg [.bool C (Qs (ck w (ak key))),.str C (Yi (ck w (ak key)))],.int .i64 F 0])
 | false=>.ret (.aD [.agg [.bool F C,.str F []],.int .i64 F 10])
structure Wh where
 y:Nd
 p:e_
 u:Nat
 b:Bool
 v:e_
def Nd.Good (x:Nd):Prop:=(x.k=2->x.p≠[])/\Fits x
def vB (st:Sx.St)(i:Nat):Nat:=match slot st.tmps i with
 | some (.ptr k _ _)=>k
 | _=>0
def acR (st:Sx.St)(i:Nat):Nat:=match st.m.get (vB st i)with
 | some (.cells (.ptr k _ _::_) _ _)=>k
 | _=>0
def LY (ty:TypeId):Mem->Nat
 | []=>0
 | (k,.cells _ _ t)::r=>(match Nat.beq t ty with
   | true=>k
   | false=>LY ty r)
 | _::r=>LY ty r
def Z5 (w:Wy)(kv:Nat)(st:Sx.St)(x:Wh)(e:SV):Mem:=[(vB st 4,.cells (bB x.y) 19 138),(vB st 2,.cells [.str C x.p] 1 9),(acR st 1,w.sb kv x.u e),(LY 58 st.m,.cells [.bool C x.b,.str C x.v] 2 58)]
def Xn (w:Wy)(P:e_):aX :={α:=Wh,pre:=λ_ x=>(∃ m,x.p.length<m/\dg w P=gE w m x.y x.p x.u)/\x.y.Good/\x.u<=w.n,jx:=λ_ x=>x.p.length+1,fresh:=0,slots:=λ_ _=>[(5,.bool F F)],mem:=λst x=>Z5 w 0 st x .aA}
def Xo (w:Wy)(P:e_):aX :={α:=Wh,pre:=λ_ _=>dg w P=J,jx:=λ_ _=>0,fresh:=1,slots:=λ_ _=>[(5,.bool F C)],mem:=λst x=>Z5 w 0 st x (kV st.nx)++[(st.nx,W4 x.u)]}
def Z0 (st:Sx.St):Nat:=match slot st.tmps 5 with
 | some (.bool F C)=>1
 | _=>0
def aah (w:Wy)(P:e_):ja:=⟨[0,1],Z0,λt=>match t with
 | 1=>Xo w P
 | _=>Xn w P⟩
noncomputable def NV:List (FuncId×PT):=(159,gK rA)::(158,bw oe)::(111,bw wP)::(58,aM hG)::zJ
theorem Lu:aQ M (λf=>ay f NV):=.cons Pe (eX _) (.cons YC (aZ _) (.cons Kz (aZ _) (.cons Bo (aG _) tJ)))
noncomputable def S2 (w:Wy)(key:e_):dK:={bE with cm:=λf=>ay f NV,bh:=λf=>if f=156 then [(1,λst=>match Z0 st with
 | 1=>J
 | _=>H (aah w (ak key)))] else []}
theorem aa1 (w:Wy)(key:e_):Sx.Good M (S2 w key):=.of bz Lu aU
def dA (w:Wy)(key:Option Nat):Seen:=⟨key,w.z,w.o,w.n,w.c,[.str w.f]⟩
def shW:List zw:=[.of .one,.of .one,.of (.slice [.str λ_=>[]])]
theorem iT {s:e_}(h:aJ s=F):aI (getD s)=true:=by unfold aJ Aw at h;simp only[O] at h;exact h.2.1
theorem rR {t:e_}(h:bM t=F):aI (getD t)=true:=by rw[qy,O,O] at h;exact iT h.2.1
end
section
open Go Sx
set_option maxRecDepth 20000
structure Sp where
 fr:e_
 to:e_
 n:Nat
 f:Nat->e_
 z:Bool
 o:Nat
 c:Nat
 ad:e_->Bool
 ag:e_->Int
structure Sp.Ok (w:Sp):Prop where
 n:w.n<=200
 f: ∀ i,i<w.n->(w.f i).length<=1000
 a: ∀ h,w.ad h=F->0<=w.ag h/\w.ag h<w.n
 fr:w.fr.length<=1000
 to:w.to.length<=1000
structure Wk where
 ud:e_->Bool
 us:e_->Int
 ns:List e_
 lk:Nat
 fs:List (e_×e_)
def Wk.used (s:Wk)(h:e_):Int:=dflt (s.ud h) (s.us h)
structure Wk.Small (s:Wk):Prop where
 u: ∀ h,0<=s.used h/\s.used h<=1000
 ns:s.ns.length<=1000
 lk:s.lk<=1000
 fs:s.fs.length<=1000
def Sp.at (w:Sp)(h:e_):e_:=w.f (w.ag h).toNat
def dJ (w:Sp)(h:e_):Bool:=w.ad h&&aJ (w.at h)
def Wk.take (w:Sp)(s:Wk)(h:e_):Wk:={s with ud:=mA s.ud h,us:=x8 s.us h (s.used h+1),ns:=if s.used h=0 then s.ns++[w.at h] else s.ns}
def l8 (l:List e_):aE:=.str λi=>l.getD i []
def eC (l:List (e_×e_)):aE:=.str λi=>(l.getD i ([],[])).1
def eD (l:List (e_×e_)):aE:=.str λi=>(l.getD i ([],[])).2
def J4 (w:Sp)(s:Wk)(kn kf c1 c2:Nat):SB:=.cells [.str C w.fr,.str C w.to,.func (.func 50) [] [.ptr 4 F 0,.ptr 6 F 0],.map 1,.bx kn 1 F 0 s.ns.length c1,.int .i64 C s.lk,.bx kf 2 F 0 s.fs.length c2] 7 92
def ig (s:Wk):SB:=.fmap s.ud (.int .i64 s.us) J
def cZ (s:Wk)(c1:Nat):SB:=.rows F s.ns.length [l8 s.ns] C (c1*1) 9
def cR (s:Wk)(c2:Nat):SB:=.rows F s.fs.length [eC s.fs,eD s.fs] C (c2*2) 50
def Sp.own (w:Sp):Mem:=[(4,.cells [.map 5] 1 90),(5,.fmap w.ad (.int .i64 w.ag) J),(6,.cells [.aS 7 1 w.z w.o 0 w.n w.c] 1 29)]
def Sp.view (w:Sp):SB:=.view w.z w.o w.n [.str w.f]
structure yu where
 w:Sp
 s:Wk
 c1:Nat
 c2:Nat
def yu.mem (g:yu):Mem:=[(0,J4 g.w g.s 2 3 g.c1 g.c2),(1,ig g.s),(2,cZ g.s g.c1),(3,cR g.s g.c2)]++g.w.own++[(7,g.w.view)]
def Sp.back (w:Sp)(s:Wk)(c1 c2:Nat):Mem:=[(0,J4 w s 8 9 c1 c2),(1,ig s),(8,cZ s c1),(9,cR s c2)]++w.own
def abU (v:SV)(w:Sp)(s:Wk):iy:=.all (Nat×Nat) λc=>.req (s.ns.length<=c.1/\s.fs.length<=c.2) (.ret v (w.back s c.1 c.2))
def MN (f:SV->SV):iy:=.all (e_×e_) λy=>.ret (f (.iface 87 (.ptr 10 F 0))) [(10,.cells [.str C y.1,.str C y.2] 2 207)]
def snC (A:Type)(args:A->List SV)(pre:yu->A->Prop)(RJ:yu->A->iy):nC :={G:=yu×A,n:=8,N:=11,pre:=λx=>x.1.w.Ok/\x.1.s.Small/\(x.1.s.ns.length<=x.1.c1/\x.1.s.fs.length<=x.1.c2)/\pre x.1 x.2,args:=λx=>.ptr 0 F 0::args x.2,mem:=λx=>x.1.mem,RJ:=λx=>RJ x.1 x.2}
def Ov (g:yu)(h:e_):iy:=.fork (dJ g.w h) λb=>match b with
 | true=>abU (.aD [(getD (g.w.at h)).sv,.aA]) g.w (g.s.take g.w h)
 | false=>MN λv=>.aD [cK,v]
def vW:nC:=snC e_ (λh=>[.str C h]) (λ_ _=>True) Ov
def QW (g:yu)(t:e_):iy:=.fork (bM t) λb=>match b with
 | true=>abU (.aD [(getD t).sv,.aA]) g.w g.s
 | false=>.fork (bY t) λb=>match b with
   | true=>Ov g (af t)
   | false=>MN λv=>.aD [cK,v]
def od:nC:=snC e_ (λt=>[.str C t]) (λ_ t=>t.length<9223372036854775808) QW
def hasB (fr to p:e_):Bool:=!Op.bytesLess p (ak fr)&&(V p (ak to)||decide (p=ak to))
def dy (fr to p:e_):Bool:=(V p (ak to)||decide (p=ak to))&&(!Op.bytesLess p (ak fr)||preB p (ak fr))
def kj (p:e_):Bool:=I ((p.length:Int)% 2=0)&&cY p
def N4 (p:e_):cN:=.fork (kj p) λb=>match b with
 | true=>.ret (.aD [.str C (br p),.bool F F])
 | false=>.ret (.aD [.str F [],.bool F C])
def Ft:List SV->Option (Prop×SV)
 | [.agg [.str C fr,.str C to],.str C p]=>H (fr.length<=1000/\to.length<=1000,.bool C (hasB fr to p))
 | _=>J
def xF:List SV->Option (Prop×SV)
 | [.agg [.str C fr,.str C to],.str C p]=>H (fr.length<=1000/\to.length<=1000,.bool C (dy fr to p))
 | _=>J
def nW:List SV->Option (Prop×cN)
 | [.str C p]=>H (p.length<1099511627776,N4 p)
 | _=>J
noncomputable def LM:List (FuncId×PT):=(58,aM hG)::(170,aM oW)::zJ
theorem DD:aQ M (λf=>ay f LM):=.cons Bo (aG _) (.cons DR (aG _) tJ)
noncomputable def sP:dK:={bE with cm:=λf=>ay f LM}
theorem Fq:Sx.Good M sP:=.of bz DD aU
theorem Y8 (fr to p:e_):VC.holds (dB sP 43 b_ [.agg [.str C fr,.str C to],.str C p] (.ret (.bool C (hasB fr to p))))=((fr.length<1099511627776/\((!Op.bytesLess p (ak fr))=F->to.length<1099511627776/\aa (SV.bool (C&&C) (V p (ak to)||decide (p=ak to))) (SV.bool C (hasB fr to p)))/\((!Op.bytesLess p (ak fr))=C->aa (SV.bool F C) (SV.bool C (hasB fr to p))))):=by kernel_rfl
theorem RB (fr to p:e_):VC.holds (dB sP 42 b9 [.agg [.str C fr,.str C to],.str C p] (.ret (.bool C (dy fr to p))))=((to.length<1099511627776/\Bk (!(V p (ak to)||decide (p=ak to))) (aa (SV.bool F C) (SV.bool C (dy fr to p))) (fr.length<1099511627776/\Bk (!Op.bytesLess p (ak fr)) (aa (SV.bool F F) (SV.bool C (dy fr to p))) (Fk ((p.length:Int)<=(↑(ak fr).length:Int)) (((0:Int)<=(0:Int)/\0<=(p.length:Int)/\(p.length:Int)<=(↑(ak fr).length:Int))/\aa (SV.bool (C&&F&&C&&C) (I (aB (ak fr) J (H (Operand.tmp 13)) 0 (p.length:Int)=p))) (SV.bool C (dy fr to p))) (aa (SV.bool F C) (SV.bool C (dy fr to p))))))):=by kernel_rfl
theorem Y9 (p:e_):VC.holds (dB sP 130 bl [.str C p] (N4 p))=(((0<=(p.length:Int)/\(p.length:Int)<=9223372036854775807/\(0:Int)<(2:Int))/\Bk (!decide ((p.length:Int)% 2=(0:Int))) (Bk (kj p) (aa (SV.aD [SV.str F [],SV.bool F C]) (SV.aD [SV.str C (br p),SV.bool F F])) (aa (SV.aD [SV.str F [],SV.bool F C]) (SV.aD [SV.str F [],SV.bool F C]))) (p.length<1152921504606846976/\Bk (!cY p) (Bk (kj p) (aa (SV.aD [SV.str F [],SV.bool F C]) (SV.aD [SV.str C (br p),SV.bool F F])) (aa (SV.aD [SV.str F [],SV.bool F C]) (SV.aD [SV.str F [],SV.bool F C]))) (p.length<1099511627776/\Bk (kj p) (aa (SV.aD [SV.str C (br p),SV.bool F F]) (SV.aD [SV.str C (br p),SV.bool F F])) (aa (SV.aD [SV.str C (br p),SV.bool F F]) (SV.aD [SV.str F [],SV.bool F C])))))):=by kernel_rfl
theorem WA (x:yu×e_):VC.holds (runM sP 83 Tryz.f83 vW x)=((λg:SV=>((Bk (!x.1.w.ad x.2) (Bk (dJ x.1.w x.2) (∃(h:Nat×Nat),((if x.1.s.used x.2=0 then x.1.s.ns++[x.1.w.at x.2] else x.1.s.ns).length<=h.1/\x.1.s.fs.length<=h.2)/\False) (∃(i:e_×e_),(∀(j:Nat->Nat),SV.val j g=SV.val j cK)/\(0:Nat)=(0:Nat)/\ah (SB.cells [SV.str F [(110:UInt8),(111:UInt8),(116:UInt8),(32:UInt8),(116:UInt8),(104:UInt8),(101:UInt8),(114:UInt8),(101:UInt8),(58:UInt8)],SV.str C x.2] 2 207) (SB.cells [SV.str C i.1,SV.str C i.2] 2 207)/\True)) ((0<=dflt (x.1.w.ad x.2) (x.1.w.ag x.2)/\dflt (x.1.w.ad x.2) (x.1.w.ag x.2)<(x.1.w.n:Int))/\(x.1.w.o=x.1.w.o/\0+(dflt (x.1.w.ad x.2) (x.1.w.ag x.2)).toNat<x.1.w.n)/\((x.1.w.f (0+(dflt (x.1.w.ad x.2) (x.1.w.ag x.2)).toNat)).length<=9223372036854775808/\(x.1.w.f (0+(dflt (x.1.w.ad x.2) (x.1.w.ag x.2)).toNat)).length<1099511627776)/\Bk (aJ (x.1.w.f (0+(dflt (x.1.w.ad x.2) (x.1.w.ag x.2)).toNat))) (Fk (dflt (x.1.s.ud x.2) (x.1.s.us x.2)=0) ((0+x.1.s.ns.length<=x.1.s.ns.length/\True/\2*(x.1.s.ns.length+1)*16<=(281474976710656:Nat)/\x.1.s.ns.length+1<(9223372036854775808:Nat))/\x.1.c1*1=x.1.c1*1/\∀(d:Nat),x.1.s.ns.length+1<=d->I6 (dflt (x.1.s.ud x.2) (x.1.s.us x.2)+1)/\Bk (dJ x.1.w x.2) (∃(a:Nat×Nat),((if x.1.s.used x.2=0 then x.1.s.ns++[x.1.w.at x.2] else x.1.s.ns).length<=a.1/\x.1.s.fs.length<=a.2)/\(∀(k:Nat->Nat),SV.val k (SV.agg (bB (getD (x.1.w.f (0+(dflt (x.1.w.ad x.2) (x.1.w.ag x.2)).toNat)))))=SV.val k (getD (x.1.w.at x.2)).sv)/\(7:Nat)=(7:Nat)/\x.1.w.fr=x.1.w.fr/\x.1.w.to=x.1.w.to/\(0:Nat)=(0:Nat)/\(0:Nat)=(0:Nat)/\((0:Nat)=(0:Nat)/\x.1.s.ns.length+1=(if x.1.s.used x.2=0 then x.1.s.ns++[x.1.w.at x.2] else x.1.s.ns).length/\d=a.1)/\True/\(x.1.s.lk:Int)=(x.1.s.lk:Int)/\((0:Nat)=(0:Nat) /\x.1.s.fs.length=x.1.s.fs.length/\x.1.c2=a.2)/\True/\ah (SB.fmap (mA x.1.s.ud x.2) (bL.int Q (x8 x.1.s.us x.2 (dflt (x.1.s.ud x.2) (x.1.s.us x.2)+1))) J) (ig (Wk.take x.1.w x.1.s x.2))/\ah (SB.rows F (x.1.s.ns.length+1) [aE.str λe=>if e<x.1.s.ns.length then x.1.s.ns.getD e [] else bZ [x.1.w.f (0+(dflt (x.1.w.ad x.2) (x.1.w.ag x.2)).toNat)] (e - x.1.s.ns.length)] C (d*1) 9) (cZ (Wk.take x.1.w x.1.s x.2) a.1)/\ah (SB.rows F x.1.s.fs.length [eC x.1.s.fs,eD x.1.s.fs] C (x.1.c2*2) 50) (cR (Wk.take x.1.w x.1.s x.2) a.2)/\ah (SB.cells [SV.map 5] 1 90) (SB.cells [SV.map 5] 1 90)/\ah (SB.fmap x.1.w.ad (bL.int Q x.1.w.ag) J) (SB.fmap x.1.w.ad (bL.int Q x.1.w.ag) J)/\ah (SB.cells [SV.aS 7 1 x.1.w.z x.1.w.o 0 x.1.w.n x.1.w.c] 1 29) (SB.cells [SV.aS 7 1 x.1.w.z x.1.w.o 0 x.1.w.n x.1.w.c] 1 29)/\True) (∃(_:e_×e_),False)) (I6 (dflt (x.1.s.ud x.2) (x.1.s.us x.2)+1)/\Bk (dJ x.1.w x.2) (∃(b:Nat×Nat),((if x.1.s.used x.2=0 then x.1.s.ns++[x.1.w.at x.2] else x.1.s.ns).length<=b.1/\x.1.s.fs.length<=b.2)/\(∀(l:Nat->Nat),SV.val l (SV.agg (bB (getD (x.1.w.f (0+(dflt (x.1.w.ad x.2) (x.1.w.ag x.2)).toNat)))))=SV.val l (getD (x.1.w.at x.2)).sv)/\(7:Nat)=(7:Nat)/\x.1.w.fr=x.1.w.fr/\x.1.w.to=x.1.w.to/\(0:Nat)=(0:Nat)/\(0:Nat)=(0:Nat)/\((0:Nat)=(0:Nat)/\x.1.s.ns.length=(if x.1.s.used x.2=0 then x.1.s.ns++[x.1.w.at x.2] else x.1.s.ns).length/\x.1.c1=b.1)/\True/\(x.1.s.lk:Int)=(x.1.s.lk:Int)/\((0:Nat)=(0:Nat)/\x.1.s.fs.length=x.1.s.fs.length/\x.1.c2=b.2)/\True/\ah (SB.fmap (mA x.1.s.ud x.2) (bL.int Q (x8 x.1.s.us x.2 (dflt (x.1.s.ud x.2) (x.1.s.us x.2)+1))) J) (ig (Wk.take x.1.w x.1.s x.2)) /\ah (SB.rows F x.1.s.ns.length [l8 x.1.s.ns] C (x.1.c1*1) 9) (cZ (Wk.take x.1.w x.1.s x.2) b.1)/\ah (SB.rows F x.1.s.fs.length [eC x.1.s.fs,eD x.1.s.fs] C (x.1.c2*2) 50) (cR (Wk.take x.1.w x.1.s x.2) b.2)/\ah (SB.cells [SV.map 5] 1 90) (SB.cells [SV.map 5] 1 90)/\ah (SB.fmap x.1.w.ad (bL.int Q x.1.w.ag) J) (SB.fmap x.1.w.ad (bL.int Q x.1.w.ag) J)/\ah (SB.cells [SV.aS 7 1 x.1.w.z x.1.w.o 0 x.1.w.n x.1.w.c] 1 29) (SB.cells [SV.aS 7 1 x.1.w.z x.1.w.o 0 x.1.w.n x.1.w.c] 1 29)/\True) (∃(_:e_×e_),False))) (Bk (dJ x.1.w x.2) (∃(u2:Nat×Nat),((if x.1.s.used x.2=0 then x.1.s.ns++[x.1.w.at x.2] else x.1.s.ns).length<=u2.1/\x.1.s.fs.length<=u2.2)/\False) (∃(m:e_×e_),(∀(p:Nat->Nat),SV.val p g=SV.val p cK)/\(0:Nat)=(0:Nat) /\ah (SB.cells [SV.str F [(110:UInt8),(111:UInt8),(32:UInt8),(110:UInt8),(111:UInt8),(100:UInt8),(101:UInt8),(58:UInt8)],SV.str C x.2] 2 207) (SB.cells [SV.str C m.1,SV.str C m.2] 2 207)/\True)))))) (SV.agg (SV.int .i64 F 0::SV.str F []::SV.str F []::wD))):=by kernel_rfl
theorem sw {l l' a:Bool}(h:a=b):aa (.bool l a) (.bool l' b):=by subst h;exact λ_=>rfl
theorem ac9 (h:(!b)=C):b=true:=by cases b with
 | true=>rfl
 | false=>cases h
theorem ada (h:(!b)=F):b=false:=by cases b with
 | false=>rfl
 | true=>cases h
theorem Ph (fr to p:e_)(h1:fr.length<=1000)(h2:to.length<=1000):av (dB sP 43 b_ [.agg [.str C fr,.str C to],.str C p] (.ret (.bool C (hasB fr to p)))):=by
 refine av.of_eq (Y8 fr to p) ⟨by omega,λh=>⟨by omega,sw ?_⟩,λh=>sw ?_⟩
 ·rw[hasB,h];rfl
 ·rw[hasB,h];rfl
theorem Ir (fr to p:e_)(h1:fr.length<=1000)(h2:to.length<=1000):av (dB sP 42 b9 [.agg [.str C fr,.str C to],.str C p] (.ret (.bool C (dy fr to p)))):=by
 refine av.of_eq (RB fr to p) ⟨by omega,λh=>sw ?_,λh=>⟨by omega,λg=>sw ?_,λg=>⟨λl=>⟨⟨by omega,by omega,of_decide_eq_true l⟩,sw ?_⟩,λl=>sw ?_⟩⟩⟩
 ·have h:(V p (ak to)||decide (p=ak to))=false:=ada h;rw[dy,h];rfl
 all_goals
  have h:(V p (ak to)||decide (p=ak to))=true:=ac9 h;rw[dy,h,g]
 ·rfl
 ·have l:I (p.length<=(ak fr).length)=true:=decide_eq_true (by have:=of_decide_eq_true l;omega);rw[preB,l];rfl
 ·have l:I (p.length<=(ak fr).length)=false:=decide_eq_false (by have:=of_decide_eq_false l;omega);rw[preB,l];rfl
theorem L2 (p:e_)(hp:p.length<1099511627776):av (dB sP 130 bl [.str C p] (N4 p)):=by
 refine av.gV (Y9 p) (by delta Bk;exact rfl) ?_;have S: ∀ v:SV,aa v v:=λ_ _=>rfl;have e:kj p=(I ((p.length:Int)% 2=0)&&cY p):=rfl;cases h1:I ((p.length:Int)% 2=0)<;>cases h2:cY p
 all_goals
  rw[h1,h2] at e;simp only[e,c6,c5,Bool.true_and,Bool.false_and,Z,an,false_imp_iff,forall_const,true_and,and_true,S];omega
theorem abd:ax M 43 (aM Ft):=by
 refine cM (cn (n:=20) (fn:=b_) Tryz.func43 (by kernel_rfl) (by kernel_rfl) ?_);intro args p a h hp;unfold Ft at h;split at h
 ·cases h;exact⟨_,Fq,rfl,rfl,Ph _ _ _ hp.1 hp.2⟩
 ·cases h
theorem UH:ax M 42 (aM xF):=by
 refine cM (cn (n:=20) (fn:=b9) Tryz.func42 (by kernel_rfl) (by kernel_rfl) ?_);intro args p a h hp;unfold xF at h;split at h
 ·cases h;exact⟨_,Fq,rfl,rfl,Ir _ _ _ hp.1 hp.2⟩
 ·cases h
theorem X4:ax M 130 (bw nW):=by
 refine cn (n:=20) (fn:=bl) Tryz.func130 (by kernel_rfl) (by kernel_rfl) ?_;intro args p a h hp;unfold nW at h;split at h
 ·cases h;exact⟨_,Fq,rfl,λb=>by cases b<;>exact rfl,L2 _ hp⟩
 ·cases h
end
end Go.Proofs.YtoibaecagklkaaaGreatDoor
