/-
  Conditions that the executor computes, written out by a program (vcgen.py).
-/
import Derived.Test.YtoibaecagklkaaaGreatDoorMv
import Derived.Test.YtoibaecagklkaaaGreatDoorMx
import Derived.Test.YtoibaecagklkaaaGreatDoorMq
open And renaming intro->X
open Bool renaming and_eq_true->Y,and_false->an,eq_false_iff->b_,false->D,true->F
open Decidable renaming decide->H
open Go.Op renaming bytesLess->Z
open Go.Proofs.Tryz renaming f121->aA,f140->b!,f143->cl,f15->cx,f164->cB,f17->a_,f35->cH,f37->cL,f39->c4,f52->c5,f54->c6,f75->c_,f76->c!,f91->a!,f92->bl,f96->d_,func121->d!,func91->ej,prog->G
open Int renaming toNat_natCast->R
open List renaming all_eq_true->bn,length->ek,mem_range->b6,range->b9
open Nat renaming le_refl->N,le_succ_of_le->ag,le_trans->O,not_lt_zero->W,zero_add->Q,zero_le->M
open Option renaming none->J,some->I
namespace Go.Proofs.YtoibaecagklkaaaGreatDoor
open Go Sx
variable {a b:Bool}{c:Nat}{w:Sp}{s:Wk}
section
open Go Sx
set_option maxRecDepth 20000
theorem YP (a b:e_):fR .k (dB (Zq a b) 96 d_ [.str D a,.str D b] (.ret (.bool D (Z a b)))) (((∃(u2:Nat),GX a b u2/\0=(u2:Int))/\∀(c:Nat),GX a b c->Fk ((c:Int)<(a.length:Int)) (Fk ((c:Int)<(b.length:Int)) ((0<=(c:Int)/\(c:Int)<(a.length:Int))/\(0<=(c:Int)/\(c:Int)<(b.length:Int))/\Bk (!decide (ai a (c:Int)=ai b (c:Int))) ((0<=(c:Int)/\(c:Int)<(a.length:Int))/\(0<=(c:Int)/\(c:Int)<(b.length:Int))/\aa (SV.bool (D&&D) (H (ai a (c:Int)<ai b (c:Int)))) (SV.bool D (Z a b))) (I6 ((c:Int)+1)/\∃(d:Nat),(GX a b d/\a.length - d<a.length - c)/\(c:Int)+1=(d:Int))) (aa (SV.bool (D&&D) (H ((a.length:Int)<(b.length:Int)))) (SV.bool D (Z a b)))) (aa (SV.bool (D&&D) (H ((a.length:Int)<(b.length:Int)))) (SV.bool D (Z a b))))):=⟨by kernel_rfl,by kernel_rfl⟩
theorem adr (n:Nat)(g:Nat->e_)(t:e_)(z:Bool)(o c:Nat)(key:Option Nat):fR (.n (.s 0 (.n .k .t)) (.n (.s 4 (.n .k .t)) .t)) (fN (Zu n g t) 143 cl [.aS 0 1 z o 0 n c,.str D t] [⟨key,z,o,n,c,[.str g]⟩] (.ret (.bool D (qx n g t)))) (((∃(d:Nat),fM n (fun(e:Nat)=>!decide (g e=t)) d/\0=(d:Int))/\∀(a:Nat),fM n (fun(u2:Nat)=>!decide (g u2=t)) a->Fk ((a:Int)<(n:Int)) ((0<=(a:Int)/\(a:Int)<(n:Int))/\(o=o/\0+(a:Int).toNat<n)/\Fk (g (0+(a:Int).toNat)=t) (aa (SV.bool F F) (SV.bool D (qx n g t))) (I6 ((a:Int)+1)/\∃(b:Nat),(fM n (fun(f:Nat)=>!decide (g f=t)) b/\n - b<n - a)/\(a:Int)+1=(b:Int))) (aa (SV.bool F D) (SV.bool D (qx n g t))))):=⟨by kernel_rfl,by kernel_rfl⟩
theorem ack (fr to p:e_):fR .t (dB CO 54 c6 [.str D fr,.str D to,.str D p] (.ret (.bool D (hasB fr to p)))) ((fr.length<1099511627776/\to.length<1099511627776/\(p.length<9223372036854775808/\(ak fr).length<9223372036854775808)/\((!Op.bytesLess p (ak fr))=F->((ak to).length<9223372036854775808/\p.length<9223372036854775808)/\aa (SV.bool D !Op.bytesLess (ak to) p) (SV.bool D (hasB fr to p)))/\((!Op.bytesLess p (ak fr))=D->aa (SV.bool F D) (SV.bool D (hasB fr to p))))):=⟨by kernel_rfl,by kernel_rfl⟩
theorem Ws (fr to p:e_):fR .t (dB CO 140 b! [.str D fr,.str D to,.str D p] (.ret (.bool D (dy fr to p)))) ((fr.length<1099511627776/\to.length<1099511627776/\Fk ((p.length:Int)<=(↑(ak fr).length:Int)) (((0:Int)<=(0:Int)/\0<=(p.length:Int)/\(p.length:Int)<=(↑(ak fr).length:Int))/\((ak to).length<9223372036854775808/\p.length<9223372036854775808)/\Bk (!Op.bytesLess (ak to) p) (Fk (aB (ak fr) J (I (Operand.tmp 22)) 0 (p.length:Int)=p) (aa (SV.bool F F) (SV.bool D (dy fr to p))) ((p.length<9223372036854775808/\(ak fr).length<9223372036854775808)/\aa (SV.bool D !Op.bytesLess p (ak fr)) (SV.bool D (dy fr to p)))) (aa (SV.bool F D) (SV.bool D (dy fr to p)))) (((ak to).length<9223372036854775808/\p.length<9223372036854775808)/\Bk (!Op.bytesLess (ak to) p) ((p.length<9223372036854775808/\(ak fr).length<9223372036854775808)/\aa (SV.bool D !Op.bytesLess p (ak fr)) (SV.bool D (dy fr to p))) (aa (SV.bool F D) (SV.bool D (dy fr to p)))))):=⟨by kernel_rfl,by kernel_rfl⟩
theorem Y6 (x:Lk×e_):fR (.s 0 (.n (.s 11 (.n (.s 0 .k) (.s 4 .k))) (.s 7 (.n (.s 0 .k) (.s 4 .k))))) (runM CO 92 bl JU x) (((((F=F/\0+x.1.s.ns.length<=x.1.s.ns.length)/\True/\True)/\x.1.s.ns.length<9223372036854775808)/\((!qx x.1.s.ns.length (fun(d:Nat)=>x.1.s.ns.getD d []) x.2)=F->(True/\0+x.1.s.ns.length<=x.1.s.ns.length/\2*(0+x.1.s.ns.length)*16<=(281474976710656:Nat)/\0+x.1.s.ns.length<9223372036854775808)/\∀(e:Nat),0+x.1.s.ns.length<=e->(0+(0+x.1.s.ns.length)<=0+x.1.s.ns.length/\True/\2*(0+x.1.s.ns.length+1)*16<=(281474976710656:Nat)/\0+x.1.s.ns.length+1<(9223372036854775808:Nat))/\∀(a:Nat),0+x.1.s.ns.length+1<=a->∃(b:Nat),(bif qx x.1.s.ns.length (fun(f:Nat)=>x.1.s.ns.getD f []) x.2 then x.1.s.ns else x.1.s.ns++[x.2]).length<=b/\(0+x.1.s.ns.length+1=(bif qx x.1.s.ns.length (fun(g:Nat)=>x.1.s.ns.getD g []) x.2 then x.1.s.ns else x.1.s.ns++[x.2]).length/\a=b)/\0<(bif qx x.1.s.ns.length (fun(h:Nat)=>x.1.s.ns.getD h []) x.2 then x.1.s.ns else x.1.s.ns++[x.2]).length /\ah (SB.rows D (0+x.1.s.ns.length+1) [aE.str λc=>if c<0+x.1.s.ns.length then x.1.s.ns.getD c [] else bZ [x.2] (c - (0+x.1.s.ns.length))] D (a*1) 9) (cZ (x.1.s.wH x.2) b))/\((!qx x.1.s.ns.length (fun(i:Nat)=>x.1.s.ns.getD i []) x.2)=D->∃(u2:Nat),(bif qx x.1.s.ns.length (fun(j:Nat)=>x.1.s.ns.getD j []) x.2 then x.1.s.ns else x.1.s.ns++[x.2]).length<=u2/\(x.1.s.ns.length=(bif qx x.1.s.ns.length (fun(l:Nat)=>x.1.s.ns.getD l []) x.2 then x.1.s.ns else x.1.s.ns++[x.2]).length/\x.1.c1=u2)/\ah (SB.rows F x.1.s.ns.length [l8 x.1.s.ns] D (x.1.c1*1) 9) (cZ (x.1.s.wH x.2) u2)))):=⟨by kernel_rfl,by kernel_rfl⟩
theorem m4 {l l':Bool}(h:a=b):aa (.bool l a) (.bool l' b):=by subst h;exact λ_=>rfl
theorem Qi:ax G 139 (bw nW):=Nb Nl λvs q' a' h hq=>by
 unfold nW at h;split at h
 ·rename_i p;cases h;refine⟨_,Jl p,rfl,hq,λm nx K hk=> ?_⟩;have e:kY p=kj p:=by
   unfold kY kj;congr 1;by_cases c:(p.length:Int)% 2=0
   ·rw[decide_eq_true c,decide_eq_false (by omega)];rfl
   ·rw[decide_eq_false c,decide_eq_true (by omega)];rfl
  unfold N4 at hk;unfold Jl;rw[e];simp only[cN.vc] at hk ⊢;rw[c9] at hk ⊢;cases hb:kj p with
  | true =>
    rw[hb] at hk;have hn:cY p=true:=by unfold kj at hb;rw[Y] at hb;exact hb.2
    show((cN.ret (.aD [.str D (sI p),.bool F F])).vc m nx K).holds;rw[Df hn];exact hk
  | false=>rw[hb] at hk;exact hk
 ·cases h
theorem nQ:aQ G (λf=>ay f tL):=.cons abB (aG _) (.cons G3 (aG _) (.cons Qi (aZ _) PB))
theorem aa3:Sx.Good G {bE with cm:=λf=>ay f tL}:=.of bz nQ aU
theorem aaC (a b:e_):Sx.Good G (Zq a b):=.of bz nQ aU
theorem aaK (n:Nat)(g:Nat->e_)(t:e_):Sx.Good G (Zu n g t):=.of bz nQ aU
theorem RR:ax G 96 (aM wJ):=by
 refine cM (cn (n:=20) (fn:=d_) Tryz.func96 (by kernel_rfl) (by kernel_rfl) ?_);intro args p r h hp;unfold wJ at h;split at h
 ·rename_i a b;cases h;refine⟨_,aaC a b,rfl,rfl,av.Mk (YP a b) (by delta Bk Fk;exact rfl) ?_⟩;obtain⟨ha,hb⟩:=hp;refine⟨⟨0,⟨M _,M _,rfl⟩,rfl⟩,λi hi=>⟨λh=>⟨λg=>⟨by grind,by grind,λe=>⟨by grind,by grind,m4 ?_⟩,λe=>⟨by grind,i+1,⟨Ki hi (by grind) (by grind) (by grind),by grind⟩,by grind⟩⟩,λg=>m4 ?_⟩,λh=>m4 ?_⟩⟩
  ·exact(RQ hi (by grind) (by grind) (by grind)).symm
  ·exact(CF hi (by grind)).symm
  ·exact(CF hi (by grind)).symm
 ·cases h
theorem abe:ax G 143 (bQ adk Lb):=by
 refine dN (n:=20) (fn:=cl) Tryz.func143 (by kernel_rfl) (by kernel_rfl) ?_;intro vs l q a h hq;unfold Lb at h;split at h
 ·rename_i v t key z o n c f;cases h;refine⟨_,aaK n f t,rfl,rfl,av.Mk (adr n f t z o c key) (by delta Fk;exact rfl) ?_⟩;simp only[R,Q];refine⟨⟨0,⟨M _,λj hj=>absurd hj (W _)⟩,rfl⟩,λi hi=>⟨λa=>⟨by grind,by grind,λb=>m4 ?_,λb=>⟨by grind,i+1,⟨i6 hi (of_decide_eq_true a) (by grind),by grind⟩,by grind⟩⟩,λa=>m4 ?_⟩⟩
  ·rw[qx,i7 (of_decide_eq_true a) (by rw[b];rfl)];rfl
  ·rw[qx,kK hi (of_decide_eq_false a)];rfl
 ·cases h
theorem rX:aQ G (λf=>ay f xC):=.cons RR (aG _) (.cons abe (bR _ _) nQ)
theorem KZ:Sx.Good G CO:=.of bz rX aU
theorem sr (k:e_):(ak k).length=2*k.length:=by unfold ak;simp[bD]
theorem Yx:ax G 54 (aM BM):=by
 refine cM (cn (n:=20) (fn:=c6) Tryz.func54 (by kernel_rfl) (by kernel_rfl) ?_);intro args p r h hp;unfold BM at h;split at h
 ·rename_i fr to p;cases h;obtain⟨h1,h2,h3⟩:=hp;have l1:=sr fr;have l2:=sr to;refine⟨_,KZ,rfl,rfl,av.pr (ack fr to p) ⟨by omega,by omega,⟨by omega,by omega⟩,λa=>⟨⟨by omega,by omega⟩,m4 ?_⟩,λa=>m4 ?_⟩⟩
  ·rw[hasB,a,vv];rfl
  ·rw[hasB,a];rfl
 ·cases h
theorem QF:ax G 140 (aM uj):=by
 refine cM (cn (n:=20) (fn:=b!) Tryz.func140 (by kernel_rfl) (by kernel_rfl) ?_);intro args p r h hp;unfold uj at h;split at h
 ·rename_i fr to p;cases h;obtain⟨h1,h2,h3⟩:=hp;have l1:=sr fr;have l2:=sr to;refine⟨_,KZ,rfl,rfl,av.Mk (Ws fr to p) (by delta Bk Fk;exact rfl) ?_⟩;have e:dy fr to p=((!Op.bytesLess (ak to) p)&&(!Op.bytesLess p (ak fr)||preB p (ak fr))):=by rw[vv];rfl
  have e2:preB p (ak fr)=(H (p.length<=(ak fr).length)&&H ((ak fr).take p.length=p)):=rfl;have e3: ∀ x:Operand,aB (ak fr) J (I x) 0 (p.length:Int)=(ak fr).take p.length:=λ_=>rfl;simp only[e3]
  repeat' first
   | refine X ?_ ?_
   | intro (_:_=F)
   | intro (_:_=D)
   | fail
  all_goals first
   | omega
   | grind
   | (refine m4 ?_;rw[e,e2];grind)
 ·cases h
theorem Sx.ah.then {A B C:SB}(h:ah A B)(h':ah B C):ah A C :=
 ⟨h'.1.trans h.1,λb a ha=>by obtain⟨g1,g2,g3⟩:=h'.2 b a ha;obtain⟨k1,k2,k3⟩:=h.2 b a g1;exact⟨k1,λE o q=>g2 E o (k2 E o q),λq=>k3 (g3 q)⟩⟩
theorem D9 {n:Nat}{az:List aE}{tot:Nat}{ty:TypeId}:ah (.rows D n az D tot ty) (.rows F n az D tot ty) :=ah.of rfl rfl λ_=>⟨rfl,λ_ _ h=>h,id⟩
theorem M1 {x:Lk×e_}(h:x.1.OK)(hl:x.1.s.ns.length<=1000000):av (runM CO 92 bl JU x):=by
 refine av.pr (Y6 x) ?_;have h1:=h.c1;simp only[Q,true_and,and_true,N];refine⟨by omega,λa=>⟨by omega,λc hc=>⟨by omega,λd hd=>⟨d,?_⟩⟩⟩,λa=>⟨x.1.c1,?_⟩⟩
 ·have a:qx x.1.s.ns.length (λi=>x.1.s.ns.getD i []) x.2=false:=by simpa using a
  have e:(x.1.s.wH x.2).ns=x.1.s.ns++[x.2]:=by unfold Wk.wH;rw[a];rfl
  rw[a];simp only[cond_false,List.length_append,List.length_cons,List.length_nil];refine⟨by omega,⟨trivial,trivial⟩,by omega,D9.then ?_⟩
  unfold cZ;rw[e];exact N7
 ·have a:qx x.1.s.ns.length (λi=>x.1.s.ns.getD i []) x.2=true:=by simpa using a
  have e:(x.1.s.wH x.2).ns=x.1.s.ns:=by unfold Wk.wH;rw[a];rfl
  rw[a];refine⟨h1,⟨rfl,rfl⟩,?_⟩;unfold cZ;rw[e];exact ah.refl _
theorem YK:ax G 92 (gK JU) :=kQ (n:=20) (fn:=bl) Tryz.func92 (by kernel_rfl) (by kernel_rfl) JU fun(x:Lk×e_) hx=>⟨CO,KZ,rfl,M1 hx.1 hx.2⟩
theorem adX {a b c d:e_}{l1 l2 l3 l4:Bool}(h1:a=c)(h2:b=d):aa (.aD [.str l1 a,.str l2 b]) (.aD [.str l3 c,.str l4 d]):=by subst h1;subst h2;exact λ_=>rfl
theorem VM (p:e_)(k:Nat)(x:Operand):aB p J (I x) 0 (k:Int)=p.take k:=rfl
theorem VL (p:e_)(k:Nat)(n:Int)(x:Operand):aB p (I x) J (k:Int) n=p.drop k:=rfl
theorem Rb (p:e_)(n:Int)(x:Operand):aB p (I x) J 1 n=p.drop 1:=rfl
theorem Jp (x:Nd)(p:e_):av (dB S4 164 cB [x.sv,.str D p] (JG x p)):=by
 refine av.Mk (Y4 x p) (by delta Bk Fk;exact rfl) ?_;dsimp only;have hb:=cg p 0;have hs:(ai p 0).toNat<16->bZ [x.r 0,x.r 1,x.r 2,x.r 3,x.r 4,x.r 5,x.r 6,x.r 7,x.r 8,x.r 9,x.r 10,x.r 11,x.r 12,x.r 13,x.r 14,x.r 15] (ai p 0).toNat=x.r (ai p 0).toNat:=λh=>n9 x.r h;simp only[VM,VL,Rb]
 repeat' first
  | refine X ?_ ?_
  | intro (_:_=F)
  | intro (_:_=D)
  | fail
 all_goals first
  | omega
  | grind [List.length_pos_iff]
  | (refine adX ?_ ?_<;>grind [aT,bC,preB])
theorem Vx:ax G 164 (bw oe):=by
 refine cn (n:=20) (fn:=cB) Tryz.func164 (by kernel_rfl) (by kernel_rfl) ?_;intro args p a h hp;unfold oe at h;split at h
 ·split at h
  ·rename_i x hx;cases h;rw[mT hx];exact⟨S4,aa3,rfl,rfl,Jp _ _⟩
  ·cases h
 ·cases h
theorem Yw:ax G 89 (bw Gr):=Nb Nx λvs q' a' h hq=>by
 unfold Gr at h;split at h
 ·rename_i s;cases h;have:=hq.1;refine⟨_,HG s,rfl,⟨by omega,hq.1⟩,λm nx K hk=> ?_⟩;unfold HG;simp only[cN.vc];rw[c9,hq.2];exact hk
 ·cases h
theorem Jk:ax G 142 (bw vM):=Nb Hp λvs q' a' h hq=>by
 unfold vM at h;split at h
 ·rename_i t;cases h;refine⟨_,C' t,rfl,hq.1,λm nx K hk=> ?_⟩;unfold C';simp only[cN.vc];rw[c9,hq.2];exact hk
 ·cases h
theorem Dt:aQ G (λf=>ay f Lz):=.cons Vx (aZ _) (.cons Jk (aZ _) nQ)
section
variable {m : Nat} {q : Wl}
theorem TL (h:aT q.y q.p=[]):gE q.w (m+1) q.y q.p q.w.u=I (q.y,q.p,q.w.u):=by unfold gE;rw[if_pos h]
theorem HJ (h: ¬ aT q.y q.p=[]){y:Nd}{u:Nat}(hf:sK q.w (aT q.y q.p)=I (y,u)):gE q.w (m+1) q.y q.p q.w.u=gE q.w m y (bC q.y q.p) u:=by
 conv=>lhs;rw[gE]
 rw[if_neg h,show sK (q.w.on q.w.u) (aT q.y q.p)=I (y,u)from hf]
theorem zC (w:Wy)(j:Nat): ∀(m:Nat) (y:Nd) (p:e_) (u:Nat),gE (w.on j) m y p u=gE w m y p u
 | 0,_,_,_=>rfl
 | m+1,y,p,u=>by unfold gE;simp only[zC w j m];rfl
theorem XD (h: ¬ aT q.y q.p=[])(hf:sK q.w (aT q.y q.p)=J):gE q.w (m+1) q.y q.p q.w.u=none:=by unfold gE;rw[if_neg h,show sK (q.w.on q.w.u) (aT q.y q.p)=J from hf]
theorem ad3 {v:e_}(hq:q.Pre (m+1))(h:aT q.y q.p=[])(hb:b=eS q.y q.p)(hv:v=fF q.y q.p) :
  ((gE q.w (m+1) q.y q.p q.w.u).isSome=F->∃ r:Wr,r.Ends (m+1) q/\b=r.b/\v=r.v/\q.z=r.z/\q.i=r.i/\q.k=r.k/\q.c=r.c)/\((gE q.w (m+1) q.y q.p q.w.u).isSome=D->∃ _r:Wr,False):=by
 have e:=TL (m:=m) h;rw[e];exact⟨λ_=>⟨⟨b,v,q.z,q.i,q.k,q.c⟩,⟨_,_,_,e,hb,hv,hq.left⟩,rfl,rfl,rfl,rfl,rfl,rfl⟩,(λh=>by cases h)⟩
theorem WR {A:Wr->Prop}{P:Prop}(e:gE q.w (m+1) q.y q.p q.w.u=J)(h:P):((gE q.w (m+1) q.y q.p q.w.u).isSome=F->∃ r:Wr,A r)/\((gE q.w (m+1) q.y q.p q.w.u).isSome=D->P):=by rw[e];exact⟨(λh=>by cases h),λ_=>h⟩
theorem wgo {x:Wl}(e:gE q.w (m+1) q.y q.p q.w.u=gE x.w m x.y x.p x.w.u)(hn:x.w.n=q.w.n)(ho:x.w.o=q.w.o) :
  ((gE x.w m x.y x.p x.w.u).isSome=F->∀ s:Wr,s.Ends m x->((gE q.w (m+1) q.y q.p q.w.u).isSome=F->∃ r:Wr,r.Ends (m+1) q/\s.b=r.b/\s.v=r.v/\s.z=r.z/\x.w.o=q.w.o/\s.i=r.i/\s.k=r.k/\s.c=r.c)/\((gE q.w (m+1) q.y q.p q.w.u).isSome=D->∃ _r:Wr,False)) /\
  ((gE x.w m x.y x.p x.w.u).isSome=D->∀ s:Wr,((gE q.w (m+1) q.y q.p q.w.u).isSome=F->∃ r:Wr,r.Ends (m+1) q/\False)/\((gE q.w (m+1) q.y q.p q.w.u).isSome=D->∃ r:Wr,s.z=r.z/\x.w.o=q.w.o/\s.i=r.i/\s.k=r.k/\s.c=r.c)):=by
 rw[e];refine⟨λh s hs=>⟨λ_=>⟨s,?_,rfl,rfl,rfl,ho,rfl,rfl,rfl⟩,λh'=>by rw[h] at h';cases h'⟩,λh s=>⟨(λh'=>by rw[h] at h';cases h'),λ_=>⟨s,rfl,ho,rfl,rfl,rfl⟩⟩⟩;obtain⟨y,p,u,g1,g2,g3,g4⟩:=hs;exact⟨y,p,u,e.trans g1,g2,g3,g4.trans hn⟩
end
theorem Jg {x:Nd}{p:e_}(hv:aI x=F)(h0: ¬ aT x p=[])(hi:bM (aT x p)=D):bY (aT x p)=true:=by
 have: ∃ j,j<16/\aT x p=x.r j:=by
  have:=cg p 0;unfold aT at h0 ⊢
  grind
 obtain⟨j,hj,e⟩:=this;rw[e] at h0 hi ⊢;rcases(fQ hv).r j hj with h | h
 ·exact absurd h h0
 ·unfold fe at h;simpa [hi] using h
theorem Jr {m:Nat}{q:Wl}(h:q.Pre (m+1)):av (runM (Tb m) 121 aA (B8 (m+1)) q):=by
 refine av.Mk (Y7 m q) (by delta Bk Fk;exact rfl) ?_;simp only[nv,q9,true_and];have hg:=uC h.y;have hr:=y5 hg q.p;have hcv:fF q.y q.p=bif eS q.y q.p then q.y.v else []:=rfl
 have hcb:eS q.y q.p=((H (q.y.k=1)&&H (q.y.p=q.p))||(H (q.y.k=3)&&(H (q.p=[])&& !decide (q.y.v=[])))):=rfl;refine⟨λh0=> ?_,λh0=> ?_⟩
 ·have h0:=of_decide_eq_true h0
  repeat' first
   | (refine ad3 h h0 ?_ ?_)
   | intro (_:_=F)
   | intro (_:_=D)
   | refine X ?_ ?_
   | fail
  all_goals simp_all
 ·have h0:=of_decide_eq_false h0;have hl:=pF hg h0;have hp:=h.p;have hm:=h.m1;have htk:c8 q.w (af (aT q.y q.p))=(H ((q.w.u:Int)<(q.w.n:Int))&&(H (b7 (q.w.f q.w.u)=af (aT q.y q.p))&&aJ (q.w.f q.w.u))):=rfl;have hlf:=h.left;have no:c8 q.w (af (aT q.y q.p))=D->bM (aT q.y q.p)=D->gE q.w (m+1) q.y q.p q.w.u=none:=λa b=>XD h0 (GR b (.inr a));refine⟨⟨.inl hr,hr⟩,λhi=> ?_,λhi=>⟨⟨hr,Jg h.y h0 hi⟩,λhk=>WR (no (by rw[htk,decide_eq_false (by have:=of_decide_eq_true hk;omega)];rfl) hi) ⟨⟨D,[],q.z,q.i,q.k,q.c⟩,rfl,rfl,rfl,rfl⟩,λhk=> ?_⟩⟩
  ·refine⟨⟨q.w,getD (aT q.y q.p),bC q.y q.p,q.z,q.i,q.k,q.c⟩,⟨by show(bC q.y q.p).length<m;omega,h.w,rR hi,h.left,h.i,h.kc,by show(bC q.y q.p).length<_;omega⟩,rfl,rfl,rfl,rfl,rfl,rfl,rfl,rfl,rfl,rfl,rfl,rfl,rfl,rfl,rfl,rfl,rfl,rfl,rfl,rfl,⟨rfl,rfl,rfl,rfl,rfl⟩,ah.refl _,wgo (HJ h0 (OI hi)) rfl rfl⟩
  ·have hk:0<q.k:=by have:=of_decide_eq_false hk;omega
   have hkc:=h.kc;have ei:=h.i hk;have hf:=h.w q.w.u (by omega);rw[Nat.add_zero,ei];refine⟨⟨by omega,by omega⟩,by omega,by omega,λa=>WR (no (by rw[htk,CA a];simp) hi) ⟨⟨D,[],q.z,q.i,q.k,q.c⟩,rfl,ei.symm,rfl,rfl⟩,λa=>⟨⟨by omega,by omega⟩,by omega,⟨by omega,by omega⟩,λb=> ?_,λb=> ?_⟩⟩
   ·have hc:c8 q.w (af (aT q.y q.p))=true:=by rw[htk,CC a,b,decide_eq_true (by omega)];rfl
    refine⟨⟨by omega,by omega,by omega,by omega⟩,⟨q.w.on (q.w.u+1),getD (q.w.f q.w.u),bC q.y q.p,D,qZ (I (Operand.const (Value.int IntKind.i64 1))) q.w.u q.c 1,q.k - 1,q.c - 1⟩,⟨by show(bC q.y q.p).length<m;omega,h.w,iT b,by show q.w.u+1+(q.k - 1)=q.w.n;omega,λh2=> ?_,by show q.k - 1<=q.c - 1;omega,by show(bC q.y q.p).length<_;omega⟩,rfl,rfl,rfl,rfl,rfl,rfl,rfl,rfl,rfl,rfl,rfl,rfl,rfl,rfl,rfl,rfl,rfl,rfl,rfl,rfl,⟨rfl,rfl,rfl,rfl,rfl⟩,ah.refl _,wgo ((HJ h0 (Ek hi (Jg h.y h0 hi) hc)).trans (zC _ _ _ _ _ _).symm) rfl rfl⟩;have h2:0<q.k - 1:=h2;show(if q.c=1 then q.w.u else q.w.u+1)=_
    rw[if_neg (by omega)];rfl
   ·exact WR (no (by rw[htk,b];simp) hi) ⟨⟨D,[],q.z,q.w.u,q.k,q.c⟩,rfl,rfl,rfl,rfl⟩
theorem J1: ∀ m,ax G 121 (gK (B8 m))
 | 0=>kQ (n:=20) (fn:=aA) d! (by kernel_rfl) (by kernel_rfl) (B8 0) fun(x:Wl) (hx:x.Pre 0)=>absurd hx.m1 (W _)
 | m+1=>kQ (n:=20) (fn:=aA) d! (by kernel_rfl) (by kernel_rfl) (B8 (m+1)) λx hx=>⟨Tb m,.of bz (aQ.cons (J1 m) (eX _) Dt) aU,rfl,Jr hx⟩
theorem Gx {w:Wy}(hw:w.jZ){key:e_}(hk:key.length<1000000)(hc:w.n<=w.c)(kk:Option Nat):av (fN (Kw key) 76 c! [.str D w.root,.str D key,.aS 0 1 w.z w.o 0 w.n w.c] [dA w kk] (zS w key)):=by
 refine av.Mk (Wt w key kk) (by delta Bk Fk;exact rfl) ?_;simp only[true_and];have hl:(ak key).length<1099511627776:=by
  have:(ak key).length=2*key.length:=by unfold ak;simp[bD]
  omega
 have bad:ck w (ak key)=J->∀ {A B:Prop},B->((ck w (ak key)).isSome=F->A)/\((ck w (ak key)).isSome=D->B):=λh A B b=>by rw[h];exact⟨(λh=>by cases h),λ_=>b⟩
 have S: ∀ v:SV,aa v v:=λ_ _=>rfl
 have st: ∀ {b:Bool},c8 (w.on 0) w.root=b->ck w (ak key)=if 40<w.n then J else match(bif b then gE w ((ak key).length+1) (getD (w.f 0)) (ak key) 1 else J)with
   | some (y,q,u)=>if u<w.n then J else I (y,q)
   | none=>none:=λh=>by
  unfold ck dg;rw[h];rfl
 have htk:c8 (w.on 0) w.root=(H ((0:Int)<(w.n:Int))&&(H (b7 (w.f 0)=w.root)&&aJ (w.f 0))):=rfl;have no:c8 (w.on 0) w.root=D->ck w (ak key)=none:=λh=>by rw[st h];simp
 refine⟨λh0=>bad (no (by rw[htk,decide_eq_false (by have:=of_decide_eq_true h0;omega)];rfl)) (S _),λh0=>⟨λh40=>bad (by unfold ck;rw[if_pos (by have:=of_decide_eq_true h40;omega)]) (S _),λh40=> ?_⟩⟩;have h0:=of_decide_eq_false h0;have h40:=of_decide_eq_false h40;have hf:=hw.f 0 (by omega);refine⟨⟨by omega,by omega⟩,by omega,by omega,λa=>bad (no (by rw[htk,CA a];simp)) (S _),λa=>⟨⟨by omega,by omega⟩,by omega,⟨by omega,by omega⟩,λb=> ?_,λb=> ?_⟩⟩
 ·have e:=st (b:=F) (by rw[htk,CC a,b,decide_eq_true (by omega)];rfl);rw[if_neg (by omega),cond_true] at e;refine⟨⟨by omega,by omega,by omega,by omega⟩,by omega,⟨w.on 1,getD (w.f 0),ak key,D,qZ (I (Operand.const (Value.int IntKind.i64 1))) 0 w.c 1,w.n - 1,w.c - 1⟩,⟨Nat.lt_succ_self _,hw.f,iT b,by show 1+(w.n - 1)=w.n;omega,λh2=> ?_,by show w.n - 1<=w.c - 1;omega,hl⟩,rfl,rfl,rfl,rfl,rfl,rfl,rfl,rfl,rfl,rfl,rfl,rfl,rfl,rfl,rfl,rfl,rfl,rfl,rfl,rfl,⟨rfl,rfl,rfl,rfl,rfl⟩,ah.refl _,?_⟩
  ·have h2:0<w.n - 1:=h2;show(if w.c=1 then 0 else 0+1)=1
   rw[if_neg (by omega)]
  ·dsimp only;rw[zC];refine⟨λ_ r hr=> ?_,λhs r=>bad ?_ (S _)⟩
   ·obtain⟨y,p,u,g1,g2,g3,g4⟩:=hr;have g1:gE (w.on 1) ((ak key).length+1) (getD (w.f 0)) (ak key) 1=I (y,p,u):=g1;have g4:u+r.k=w.n:=g4;rw[zC] at g1;rw[g1] at e;dsimp only at e;refine⟨λhk=>bad ?_ (S _),λhk=> ?_⟩
    ·rw[e,if_pos (by have:=of_decide_eq_true hk;omega)]
    ·rw[if_neg (by have:=of_decide_eq_false hk;omega)] at e;rw[e];refine⟨λ_=> ?_,(λh=>by cases h)⟩;rw[g2,g3];exact S _
   ·have:gE w ((ak key).length+1) (getD (w.f 0)) (ak key) 1=none:=Option.isSome_eq_false_iff.1 hs |> Option.isNone_iff_eq_none.1
    rw[e,this]
 ·exact bad (no (by rw[htk,b];simp)) (S _)
theorem QI:ax G 76 (bQ shW λvs l=>match JY vs l with
  | some (w,key,_)=>I (w.jZ/\key.length<1000000/\w.n<=w.c,zS w key)
  | none=>J):=by
 refine dN (n:=20) (fn:=c!) Tryz.func76 (by kernel_rfl) (by kernel_rfl) ?_;intro vs l q a h hq;split at h
 ·rename_i w key kk hx;cases h;obtain⟨e1,e2⟩:=JZ hx;rw[e1,e2];exact⟨Kw key,.of bz (aQ.cons (J1 _) (eX _) Dt) aU,rfl,λb=>by cases b<;>exact rfl,Gx hq.1 hq.2.1 hq.2.2 kk⟩
 ·cases h
theorem Dz:aQ G (λf=>ay f LI):=.cons YK (eX _) (.cons Yx (aG _) (.cons QF (aG _) (.cons Jk (aZ _) rX)))
theorem Wk.Bd.mono {d:Nat}(h:s.Bd c)(hd:c<=d):s.Bd d:=⟨O h.ns hd,O h.fs hd,O h.lk hd⟩
theorem Wk.Fit.bd {k:Nat}(h:s.Fit k)(hk:k<=c)(hc:400<=c):s.Bd c:=⟨O h.ns hk,O h.fs (O h.lk hc),O h.lk hc⟩
section
variable {m : Nat} {q : oz}
theorem J2 (h:q.g.b=F):q.GP m=false:=by unfold oz.GP;rw[h];rfl
theorem pM (h:q.g.b=D):q.GP m=iu q.g.w.full m q.g.s q.x q.p:=by unfold oz.GP;rw[h];rfl
theorem FR {d1 d2:Nat}(hw:q.GP m=D)(h1:s.ns.length<=d1)(h2:s.fs.length<=d2)(hb:s.Bd (bif q.g.b then q.C+1 else 500+40*m)):q.Post m (s,F,d1,d2):=⟨h1,h2,(λh=>by rw[hw] at h;cases h),λ_=>⟨rfl,hb⟩⟩
variable {y : Nat × Wk × Bool × Nat × Nat} (h : q.Pre (m + 1)) (hl : ¬ 400 <= q.g.s.lk) (hy : oy m q y)
include h hl hy
theorem oy.fit (hb:y.2.2.1=D):y.2.1.Fit y.2.1.lk/\q.g.s.lk+1<=y.2.1.lk/\zY q.g.w.full y.2.1:=by obtain⟨g1,g2,_⟩:=h.go hy.b;have e:=hy.go hb;obtain⟨k1,k2⟩:=o9 (sB _ _) (g1.jQ (by omega) q.g.w.full q.x q.p) e;exact⟨k1,k2,Mw (w:=q.g.w) (g2.jQ q.x q.p) e⟩
theorem oy.bd:y.2.1.Bd (500+40*m+2*y.1):=by
 cases hb:y.2.2.1 with
 | false =>obtain⟨k1,_⟩:=hy.fit h hl hb;exact k1.bd (by have:=k1.lk;omega) (by omega)
 | true=>exact(hy.bad hb).2.2
omit h hl in
theorem oy.lost (hs:y.2.2.1=D->y.1<16/\fq q.g.w.full (jA q.g.w.full m) q.x q.p y.1 y.2.1=J):cT q.g.w.full (jA q.g.w.full m) q.x q.p 16 (q.g.s.jQ q.g.w.full q.x q.p)=none:=by
 cases hb:y.2.2.1 with
 | false =>obtain⟨h1,h2⟩:=hs hb;exact qT (by omega:y.1+1<=16) ((fP (hy.go hb)).trans h2)
 | true=>exact(hy.bad hb).2.1
theorem oy.stop (hs:y.2.2.1=D->y.1<16/\fq q.g.w.full (jA q.g.w.full m) q.x q.p y.1 y.2.1=J):q.Post (m+1) (y.2.1,F,y.2.2.2.1,y.2.2.2.2):=by
 refine FR ?_ hy.c1 hy.c2 ((hy.bd h hl).mono ?_)
 ·rw[pM hy.b,OC hl (hy.lost hs)]
 ·have:=hy.i;rw[hy.b,cond_false];omega
omit h hl in
theorem oy.skip (hi:y.1<16)(hs:y.2.2.1=D->fq q.g.w.full (jA q.g.w.full m) q.x q.p y.1 y.2.1=I y.2.1):oy m q (y.1+1,y.2) :=⟨hi,hy.b,hy.c1,hy.c2,λhb=>(fP (hy.go hb)).trans (hs hb),λhb=>⟨(hy.bad hb).1,(hy.bad hb).2.1,(hy.bad hb).2.2.mono (by show _<=500+40*m+2*(y.1+1);omega)⟩⟩
omit h hl in
theorem oy.on (hi:y.1<16){u:oz}{r:Wk×Bool×Nat×Nat}(hw:u.g.w=q.g.w)(hb:u.g.b=y.2.2.1)(hs:y.2.2.1=D->fq q.g.w.full (jA q.g.w.full m) q.x q.p y.1 y.2.1=jA q.g.w.full m u.g.s u.x u.p)
  (hC:u.C+1<=500+40*m+2*(y.1+1)) (hr:u.Post m r) (m0:0<m):oy m q (y.1+1,r):=by
 have hwl: ∀ v,u.GP m=v->(v=F->r.1=de q.g.w.full m u.g.s u.x u.p/\r.2.1=D)/\(v=D->r.2.1=F/\r.1.Bd (bif y.2.2.1 then u.C+1 else 500+40*m)):=λv hv=>⟨λe=>by have:=hr.yes (hv.trans e);rwa [hw] at this,λe=>by have:=hr.no (hv.trans e);rwa [hb] at this⟩
 cases hv:u.GP m with
 | true =>
   obtain⟨e1,e2⟩:=(hwl _ hv).1 rfl;have hb':y.2.2.1=false:=by
    cases c:y.2.2.1 with
    | false=>rfl
    | true=>rw[J2 (hb.trans c)] at hv;cases hv
   refine⟨hi,hy.b,hr.c1,hr.c2,λ_=> ?_,(λe=>by have e:r.2.1=true:=e;rw[e2] at e;cases e)⟩;show cT _ _ _ _ (y.1+1) _=I r.1;rw[fP (hy.go hb'),hs hb',e1];rw[pM (hb.trans hb'),hw] at hv;exact zU hv
 | false =>
   obtain⟨e1,e2⟩:=(hwl _ hv).2 rfl;refine⟨hi,hy.b,hr.c1,hr.c2,(λe=>by have e:r.2.1=false:=e;rw[e1] at e;cases e),λ_=>⟨m0,hy.lost λhb'=>⟨hi,?_⟩,e2.mono ?_⟩⟩
   ·rw[hs hb'];rw[pM (hb.trans hb'),hw] at hv;exact sA hv
   ·show _<=500+40*m+2*(y.1+1);cases y.2.2.1<;>simp only[cond_true,cond_false]<;>omega
end
theorem TC {l:List (e_×e_)}{k v:e_}{ty:TypeId}:ah (.rows D (l.length+1) [.str λj=>if j<l.length then(l.getD j ([],[])).1 else bZ [k] (j - l.length),.str λj=>if j<l.length then(l.getD j ([],[])).2 else bZ [v] (j - l.length)] D (c*2) ty) (.rows F (l++[(k,v)]).length [eC (l++[(k,v)]),eD (l++[(k,v)])] D (c*2) ty):=D9.then NL
theorem VT {x:Nd}(hv:aI x=F){p:e_}{i:Nat}(hi:i<16)(h:x.r i≠[]):(x.k=2->pH x p i=cat p x.p)/\(¬ x.k=2->pH x p i=cat p [UInt8.ofNat i]):=by
 refine⟨λe=>by unfold pH;rw[if_neg (by omega)],λe=> ?_⟩;have hk:=YN hv;by_cases k3:x.k=3
 ·have:=OH k3;rw[hv] at this;have:x.p=[]:=by grind
  unfold pH cat;rw[if_pos k3,this];simp
 ·exfalso;by_cases k1:x.k=1
  ·have:=OG k1;rw[hv] at this;have:b8 x.r 16=0:=by grind
   exact h (wV.1 this i hi)
  ·have:=OF (x:=x) (by omega);rw[hv] at this;unfold lZ at this;have:(b9 16).all (λj=>decide (x.r j=[]))=true:=by grind
   exact h (of_decide_eq_true (bn.1 this i (b6.2 hi)))
theorem G1 (u:zY w.full s){h:e_}(hd:w.full.ad h=F):(s.wH (w.full.at h)).ns=(s.take w.full h).ns:=by
 show(bif qx s.ns.length (λi=>s.ns.getD i []) (w.full.at h)then s.ns else s.ns++[w.full.at h])=if s.used h=0 then s.ns++[w.full.at h] else s.ns
 by_cases c:w.full.at h∈ s.ns
 ·rw[NO.2 c,if_neg (λe=>(u.iff h hd).1 e c)];rfl
 ·rw[b_.2 λe=>c (NO.1 e),if_pos ((u.iff h hd).2 c)];rfl
theorem Xc (s:Wk)(t:e_):(s.wH t).ns.length<=s.ns.length+1:=by
 show(bif qx s.ns.length (λi=>s.ns.getD i []) t then s.ns else s.ns++[t]).length<=_
 cases qx s.ns.length (λi=>s.ns.getD i []) t<;>simp
section
attribute [local irreducible] aJ getD bM bY af dJ dy hasB kj ak br pH jA iu de cT Wk.used eH
set_option maxHeartbeats 4000000 in
theorem LQ {m:Nat}{q:oz}(h:q.Pre (m+1)):av (runM (SP m q) 91 a! (A9 (m+1)) q):=by
 refine av.Mk (Y3 m q) (by delta Bk Fk;exact rfl) ?_;dsimp only;simp only[Q,true_and,N];have hw:=h.w;have hx:=fQ h.x;have hxp:=hx.p;have hp:=h.p;have c1:=h.caps.c1;have c2:=h.caps.c2;have hcat:(cat q.p q.x.p).length=q.p.length+q.x.p.length:=by unfold cat;simp
 have S: ∀ B:SB,ah B B:=ah.refl;have hlk:q.g.s.lk<=100000:=by
  cases hb:q.g.b with
  | true=>obtain⟨g,_⟩:=h.bad hb;have:=g.lk;omega
  | false=>obtain⟨g,_⟩:=h.go hb;have:=g.lk;omega
 refine⟨by omega,λhb=>⟨({q.g.s with lk:=q.g.s.lk+1},F,q.g.c1,q.g.c2),FR (J2 hb) c1 c2 ?_,⟨rfl,rfl⟩,⟨rfl,rfl⟩,rfl,rfl,S _,S _⟩,λhb=> ?_⟩
 ·obtain⟨g,_⟩:=h.bad hb;rw[hb];exact⟨ag g.ns,ag g.fs,Nat.succ_le_succ g.lk⟩
 obtain⟨g1,g2,g3,g4⟩:=h.go hb;have gl:=g1.lk;refine⟨λhl=>⟨({q.g.s with lk:=q.g.s.lk+1},F,q.g.c1,q.g.c2),FR ?_ c1 c2 ?_,⟨rfl,rfl⟩,⟨rfl,rfl⟩,rfl,rfl,S _,S _⟩,λhl=> ?_⟩
 ·rw[pM hb];unfold iu jA;rw[if_pos (by have:=of_decide_eq_true hl;omega)];rfl
 ·have:=g1.ns;have:=g1.fs;rw[hb,cond_false];exact⟨by show q.g.s.ns.length<=_;omega,by show q.g.s.fs.length<=_;omega,by show q.g.s.lk+1<=_;omega⟩
 have hl: ¬ 400<=q.g.s.lk:=by have:=of_decide_eq_false hl;omega
 have jQ:(q.g.s.jQ q.g.w.full q.x q.p).fs=if eH q.g.w.full q.x q.p=F then q.g.s.fs++[(br (cat q.p q.x.p),q.x.v)] else q.g.s.fs:=rfl
 have eb:eH q.g.w.full q.x q.p=(!decide (q.x.v=[])&&(hasB q.g.w.fr q.g.w.to (cat q.p q.x.p)&&kj (cat q.p q.x.p))):=by with_unfolding_all rfl
 refine⟨⟨by omega,by omega,λhk=>⟨_,λ_=>rfl,rfl,hk.symm⟩,λhk=>⟨[],λe=>(by rw[hk] at e;cases e),rfl,hk.symm⟩⟩,λt ht=>⟨?_,λe2 he2=>⟨⟨(0,q.g.s.jQ q.g.w.full q.x q.p,D,q.g.c1,e2),⟨M _,hb,c1,he2.2,λ_=>by unfold cT;rfl,λe=>by cases e⟩,rfl,⟨rfl,rfl⟩,⟨rfl,rfl⟩,rfl,rfl,S _,S _⟩,λy hy=>⟨?_,?_⟩⟩⟩⟩
 ·have fl:=g1.fs
  repeat' first
   | refine X ?_ ?_
   | intro (_:_=F)
   | intro (_:_=D)
   | intro (_:Nat) (_:_<=_)
   | fail
  all_goals first
   | omega
   | exact hw.fr
   | exact hw.to
   | (have e0:eH q.g.w.full q.x q.p=false:=by rw[eb];simp_all
      refine⟨q.g.c2,⟨hb,?_⟩,⟨?_,rfl⟩,?_,hb,?_⟩
      ·rw[if_neg (by rw[e0];decide)];exact c2
      ·rw[if_neg (by rw[e0];decide)]
      ·omega
      ·unfold cR;rw[jQ,if_neg (by rw[e0];decide)];exact S _)
   | (have e0:eH q.g.w.full q.x q.p=true:=by rw[eb];simp_all
      have et:t=br (cat q.p q.x.p):=ht (by assumption);refine⟨_,⟨hb,?_⟩,⟨?_,rfl⟩,?_,?_,hb,?_⟩
      ·rw[if_pos e0];simpa using (by assumption)
      ·rw[if_pos e0];simp
      ·rw[if_pos e0];simp
      ·omega
      ·unfold cR;rw[jQ,if_pos e0,et];exact TC)
 ·intro hi;have hi:y.1<16:=by have:=of_decide_eq_true hi;omega
  have hbd:=hy.bd h hl;obtain⟨b1,b2,b3⟩:=hbd;have m1:=h.m1;simp only[R,n9 q.x.r hi];have nxt: ∀ {r:Wk×Bool×Nat×Nat},oy m q (y.1+1,r)->oy m q (y.1+1,r)/\16 - (y.1+1)<16 - y.1:=λa=>⟨a,by omega⟩
  have skp:(y.2.2.1=D->fq q.g.w.full (jA q.g.w.full m) q.x q.p y.1 y.2.1=I y.2.1)->oy m q (y.1+1,y.2)/\16 - (y.1+1)<16 - y.1:=λa=>nxt (hy.skip hi a);refine⟨by omega,⟨λhk=>⟨by omega,cat q.p q.x.p,⟨by omega,λhr=>((VT h.x hi hr).1 (of_decide_eq_true hk)).symm⟩,rfl,S _,S _,S _⟩,λhk=>⟨cat q.p [UInt8.ofNat y.1],⟨by unfold cat;simp,λhr=>((VT h.x hi hr).2 (of_decide_eq_false hk)).symm⟩,by rw[show((y.1:Int)% 256).toNat=y.1 by omega],S _,S _,S _⟩⟩,λt2 ht2=>⟨⟨by omega,by omega⟩,hi,λh0=>⟨⟨by omega,by omega⟩,(y.1+1,y.2),skp λ_=>s6 (of_decide_eq_true h0),by omega,⟨rfl,rfl⟩,⟨rfl,rfl⟩,rfl,rfl,S _,S _⟩,λh0=> ?_⟩⟩;have h0:=of_decide_eq_false h0;obtain⟨ht1,ht2⟩:=ht2;have ht2:=ht2 h0;refine⟨⟨hw.fr,hw.to,by omega⟩,λhM=>⟨⟨by omega,by omega⟩,(y.1+1,y.2),skp λ_=>yT (by rw[← ht2];exact(by simpa using hM:dy q.g.w.fr q.g.w.to t2=D)),by omega,⟨rfl,rfl⟩,⟨rfl,rfl⟩,rfl,rfl,S _,S _⟩,λhM=> ?_⟩;have hM:dy q.g.w.full.fr q.g.w.full.to (pH q.x q.p y.1)=true:=by rw[← ht2];exact(by simpa using hM:dy q.g.w.fr q.g.w.to t2=F)
  have hmay:fe bM (q.x.r y.1)=true:=by
   rcases hx.r y.1 hi with e | e
   ·exact absurd e h0
   ·exact e
  have hrl:(q.x.r y.1).length<9223372036854775808:=by have:=oU hmay;omega
  have hm0:0<m:=by
   cases hbi:y.2.2.1 with
   | false =>obtain⟨k1,k2,_⟩:=hy.fit h hl hbi;have:=k1.lk;omega
   | true=>exact(hy.bad hbi).1
  have pre: ∀ {s2:Wk} {d1:Nat} {x2:Nd} {C:Nat},s2.ns.length<=d1->s2.fs=y.2.1.fs->s2.lk=y.2.1.lk->aI x2=F->C<=100000->(y.2.2.1=D->s2.Fit (s2.lk+1)/\zY q.g.w.full s2)->(y.2.2.1=F->s2.Bd C)->oz.Pre m ⟨q.g.with (s2,y.2.2.1,d1,y.2.2.2.2),C,x2,t2⟩:=λ{s2 d1 x2 C} a1 a2 a3 a4 a5 a6 a7=>by refine⟨hm0,hw,⟨a1,by show s2.fs.length<=_;rw[a2];exact hy.c2,h.caps.h⟩,a4,by show t2.length<=_;omega,by omega,λhbi=> ?_,λhbi=>⟨a7 hbi,a5⟩⟩;obtain⟨k1,k2,_⟩:=hy.fit h hl hbi;obtain⟨f1,f2⟩:=a6 hbi;exact⟨f1,f2,by show 401<=s2.lk+m;omega,by show t2.length<=13*s2.lk;omega⟩
  refine⟨⟨by omega,by omega⟩,hi,⟨.inl hrl,hrl⟩,λhin=> ?_,λhin=> ?_⟩
  ·refine⟨⟨q.g.with y.2,500+40*m+2*y.1,getD (q.x.r y.1),t2⟩,pre hy.c1 rfl rfl (rR hin) (by omega) (λhbi=> ?_) (λ_=>hy.bd h hl),rfl,rfl,⟨rfl,rfl,rfl,rfl⟩,⟨rfl,rfl⟩,⟨rfl,rfl⟩,⟨rfl,rfl⟩,rfl,rfl,rfl,rfl,rfl,rfl,rfl,rfl,rfl,rfl,rfl,rfl,rfl,rfl,rfl,rfl,rfl,rfl,rfl,rfl,rfl,rfl,S _,S _,S _,S _,λr hr=>⟨⟨by omega,by omega⟩,(y.1+1,r),nxt (hy.on hi (u:=⟨q.g.with y.2,500+40*m+2*y.1,getD (q.x.r y.1),t2⟩) rfl rfl (λ_=>by rw[o8 h0 hM (Jz hin),← ht2];rfl) (by show 500+40*m+2*y.1+1<=_;omega) hr hm0),by omega,rfl,rfl,⟨rfl,rfl,rfl,rfl⟩,⟨rfl,rfl⟩,⟨rfl,rfl⟩,⟨rfl,rfl⟩,rfl,rfl,S _,S _,S _⟩⟩;obtain⟨k1,_,k3⟩:=hy.fit h hl hbi;exact⟨k1.mono (Nat.le_succ _),k3⟩
  ·have hhash:bY (q.x.r y.1)=true:=by unfold fe at hmay;rw[hin,Bool.or_false] at hmay;exact hmay
   refine⟨⟨by omega,by omega⟩,hi,⟨hrl,hhash⟩,⟨by omega,by have:=hw.n;omega⟩,⟨(q.g.w.n,-1),⟨N _,fh.none _ _ _⟩,rfl,rfl,S _,S _,S _⟩,λz hz=>⟨λhz0=> ?_,λhz0=> ?_⟩⟩
   ·have hz0:=of_decide_eq_true hz0;have hwn:=hw.n;have hz1:=hz.1;have ez:((z.1:Int) - 1).toNat=z.1 - 1:=by omega
    have ez2:z.1 - 1+1=z.1:=by omega
    rw[ez];refine⟨⟨by omega,by omega⟩,by omega,λe=>⟨⟨by omega,by omega⟩,(z.1 - 1,(z.1:Int) - 1),⟨⟨by show z.1 - 1<=_;omega,?_⟩,by show z.1 - 1<z.1;omega⟩,by show _=((z.1 - 1:Nat):Int) - 1;omega,rfl,S _,S _,S _⟩,λe=>⟨⟨by omega,by omega⟩,(z.1 - 1,z.2),⟨⟨by show z.1 - 1<=_;omega,?_⟩,by show z.1 - 1<z.1;omega⟩,by show _=((z.1 - 1:Nat):Int) - 1;omega,rfl,S _,S _,S _⟩⟩
    ·have:=fh.hit (g:=λi=>b7 (q.g.w.f i)) (n:=q.g.w.n) (lo:=z.1 - 1) (by omega) (of_decide_eq_true e)
     rwa [show((z.1 - 1:Nat):Int)=(z.1:Int) - 1 by omega] at this
    ·exact fh.adT (by rw[ez2];exact hz.2) (of_decide_eq_false e)
   ·have ez:z.1=0:=by have:=of_decide_eq_false hz0;omega
    obtain⟨_,hz⟩:=hz;rw[ez] at hz;have hd:=hz.done;refine⟨λhv=> ?_,λhv=> ?_⟩
    ·have hv:=of_decide_eq_true hv;have hno:cw q.g.w.f q.g.w.n (af (q.x.r y.1))=false:=by
      rcases hd with ⟨_,e⟩ | ⟨_,_,e,_⟩
      ·exact e
      ·omega
     have hlk:dJ q.g.w.full (af (q.x.r y.1))=false:=by unfold dJ;rw[show q.g.w.full.ad (af (q.x.r y.1))=D from hno];rfl
     refine⟨(y.2.1,F,y.2.2.2.1,y.2.2.2.2),hy.stop h hl λ_=>⟨hi,vI h0 hM (JA hin (.inr hlk))⟩,⟨rfl,rfl⟩,⟨rfl,rfl⟩,rfl,rfl,S _,S _⟩
    ·have hv:=of_decide_eq_false hv;obtain⟨hd1,hd2,hd3,hd4⟩:cw q.g.w.f q.g.w.n (af (q.x.r y.1))=F/\z.2=cX q.g.w.f q.g.w.n (af (q.x.r y.1))/\0<=z.2/\z.2<q.g.w.n:=by
      rcases hd with ⟨e,_⟩ | e
      ·omega
      ·exact e
     have ea:q.g.w.full.at (af (q.x.r y.1))=q.g.w.f z.2.toNat:=by rw[hd2];rfl
     have hg:=hw.g z.2.toNat (by omega);have hf:=hw.f z.2.toNat (by omega);have hlk:dJ q.g.w.full (af (q.x.r y.1))=true:=by unfold dJ;rw[show q.g.w.full.ad (af (q.x.r y.1))=F from hd1,ea,hg];rfl
     obtain⟨s2,e1,e2,e3,e4,e5⟩: ∃ s2:Wk,s2.ns=(y.2.1.wH (q.g.w.f z.2.toNat)).ns/\s2.fs=y.2.1.fs/\s2.lk=y.2.1.lk/\(y.2.2.1=D->s2=y.2.1.take q.g.w.full (af (q.x.r y.1))/\s2.Fit (s2.lk+1)/\zY q.g.w.full s2)/\(y.2.2.1=F->s2.Bd (500+40*m+2*y.1+1)):=by
      cases hbi:y.2.2.1 with
      | false =>obtain⟨k1,_,k3⟩:=hy.fit h hl hbi;refine⟨y.2.1.take q.g.w.full (af (q.x.r y.1)),?_,rfl,rfl,λ_=>⟨rfl,k1.take _ _,k3.take (qp q.g.w) hlk⟩,λe=>by cases e⟩;rw[← ea];exact(G1 k3 hd1).symm
      | true =>refine⟨y.2.1.wH (q.g.w.f z.2.toNat),rfl,rfl,rfl,(λe=>by cases e),λ_=> ?_⟩;obtain⟨k1,k2,k3⟩:=(hy.bad hbi).2.2;exact⟨O (Xc _ _) (by omega),ag k2,ag k3⟩
     refine⟨⟨hd3,hd4⟩,by omega,⟨by omega,hg⟩,⟨hd3,hd4⟩,by omega,(q.g.with y.2,q.g.w.f z.2.toNat),⟨⟨hy.c1,hy.c2,h.caps.h⟩,by show y.2.1.ns.length<=_;omega⟩,rfl,rfl,⟨rfl,rfl,rfl,rfl⟩,⟨rfl,rfl⟩,⟨rfl,rfl⟩,⟨rfl,rfl⟩,rfl,rfl,rfl,S _,S _,S _,S _,λc hc=> ?_⟩;have hc:s2.ns.length<=c:=by rw[e1];exact hc
     have e1':(bif qx y.2.1.ns.length (λi=>y.2.1.ns.getD i []) (q.g.w.f z.2.toNat)then y.2.1.ns else y.2.1.ns++[q.g.w.f z.2.toNat])=s2.ns:=e1.symm
     have sn: ∀ l:List e_,l=s2.ns->ah (.rows F l.length [.str λi=>l.getD i []] D (c*1) 9) (cZ s2 c):=by rintro _ rfl;exact S _
     have sf: ∀ l:List (e_×e_),l=s2.fs->ah (.rows F l.length [.str λi=>(l.getD i ([],[])).1,.str λi=>(l.getD i ([],[])).2] D (y.2.2.2.2*2) 50) (cR s2 y.2.2.2.2):=by rintro _ rfl;exact S _
     have hC:500+40*m+2*y.1+1<=100000:=by omega
     refine⟨⟨q.g.with (s2,y.2.2.1,c,y.2.2.2.2),500+40*m+2*y.1+1,getD (q.g.w.f z.2.toNat),t2⟩,pre hc e2 e3 (iT hg) hC (λhbi=>(e4 hbi).2) e5,rfl,rfl,⟨rfl,rfl,rfl,rfl⟩,⟨rfl,rfl⟩,⟨by show y.2.1.fs.length=s2.fs.length;rw[e2],rfl⟩,⟨congrArg ek e1',rfl⟩,by show(y.2.1.lk:Int)=s2.lk;rw[e3],rfl,rfl,rfl,rfl,rfl,rfl,rfl,rfl,rfl,rfl,rfl,rfl,rfl,rfl,rfl,rfl,rfl,rfl,rfl,rfl,rfl,S _,S _,sf _ e2.symm,sn _ e1',λr hr=>⟨⟨by omega,by omega⟩,(y.1+1,r),nxt (hy.on hi (u:=⟨q.g.with (s2,y.2.2.1,c,y.2.2.2.2),500+40*m+2*y.1+1,getD (q.g.w.f z.2.toNat),t2⟩) rfl rfl (λhbi=> ?_) (by show 500+40*m+2*y.1+1+1<=_;omega) hr hm0),by omega,rfl,rfl,⟨rfl,rfl,rfl,rfl⟩,⟨rfl,rfl⟩,⟨rfl,rfl⟩,⟨rfl,rfl⟩,rfl,rfl,S _,S _,S _⟩⟩;rw[o8 h0 hM (BW hin hhash hlk),← ht2,ea];show _=jA q.g.w.full m s2 (getD (q.g.w.f z.2.toNat)) t2;rw[(e4 hbi).1]
 ·intro hi;have e16:y.1=16:=by have:=of_decide_eq_false hi;have:=hy.i;omega
  cases hbi:y.2.2.1 with
  | true =>refine⟨(y.2.1,F,y.2.2.2.1,y.2.2.2.2),hy.stop h hl (λe=>by rw[hbi] at e;cases e),⟨rfl,rfl⟩,⟨rfl,rfl⟩,rfl,rfl,S _,S _⟩
  | false =>have e:=hy.go hbi;rw[e16] at e;obtain⟨k1,k2⟩:=OD hl e;refine⟨(y.2.1,D,y.2.2.2.1,y.2.2.2.2),⟨hy.c1,hy.c2,λ_=>⟨k2.symm,rfl⟩,λe'=> ?_⟩,⟨rfl,rfl⟩,⟨rfl,rfl⟩,rfl,rfl,S _,S _⟩;rw[pM hb,k1] at e';cases e'
end
theorem Ij: ∀ m,ax G 91 (gK (A9 m))
 | 0=>kQ (n:=20) (fn:=a!) ej (by kernel_rfl) (by kernel_rfl) (A9 0) fun(q:oz) (hq:q.Pre 0)=>absurd hq.m0 (Nat.lt_irrefl _)
 | m+1=>kQ (n:=20) (fn:=a!) ej (by kernel_rfl) (by kernel_rfl) (A9 (m+1)) fun(q:oz) hq=>⟨SP m q,.of bz (aQ.cons (Ij m) (eX _) (aQ.cons Yw (aZ _) Dz)) aU,rfl,LQ hq⟩
end
section
open Go Sx
set_option maxRecDepth 20000
theorem PD:aQ G (λf=>ay f Un):=.cons (Ij 401) (eX _) Dz
theorem jC :p8 w=F↔∀ i,i<w.n->aJ (w.f i)=true:=by unfold p8;simp only[bn,b6]
theorem JN (h:p8 w=F):uz w=jA w.full 401 (Wk.start.take w.full (b7 (w.f 0))) (getD (w.f 0)) []:=by unfold uz;rw[h];rfl
theorem YF {i:Nat}(hi:i<w.n)(h:aJ (w.f i)=D):uz w=none:=by
 have:p8 w=false:=b_.2 λe=>by rw[jC.1 e i hi] at h;cases h
 unfold uz;rw[this];rfl
theorem vb (w:Sp):w.full.at (b7 (w.f 0))=w.f 0:=by show w.f (cX w.f w.n (b7 (w.f 0))).toNat=_;rw[tr];rfl
theorem HD (h:0<w.n):w.full.ad (b7 (w.f 0))=true:=lD w.f w.n 0 h
section
attribute [local irreducible] aJ getD bM bY af dy hasB kj ak br pH jA iu de cT
theorem MV (h:Z6 w):av (runM (S8 w) 52 c5 JP w):=by
 refine av.Mk (Y5 w) (by delta Bk Fk;exact rfl) ?_;simp only[Q,true_and,N,R];have S: ∀ B:SB,ah B B:=ah.refl;have h0:=h.n0;have hn:=h.n;refine⟨⟨(0,0),⟨M _,N _,λi hi=>absurd hi (W _)⟩,rfl,rfl,rfl⟩,λy hy=>⟨λhi=> ?_,λhi=> ?_⟩⟩
 ·have hi:y.1<w.n:=by have:=of_decide_eq_true hi;omega
  have hf:=h.f y.1 hi;refine⟨⟨by omega,by omega⟩,hi,⟨by omega,by omega⟩,λhg=>⟨⟨by omega,by omega⟩,hi,by omega,⟨by omega,by omega⟩,λc hc=>⟨⟨by omega,by omega⟩,(y.1+1,c),⟨⟨hi,hc,λi hi'=> ?_⟩,by show w.n - (y.1+1)<_;omega⟩,by omega,⟨rfl,rfl⟩,Sx.ah.iJ rfl rfl λj hj=> ?_⟩⟩,λhg=> ?_⟩
  ·by_cases e:i=y.1
   ·rw[e];exact hg
   ·exact hy.2.2 i (by have:i<y.1+1:=hi';omega)
  ·by_cases e:j<y.1
   ·rw[if_pos e]
   ·rw[if_neg e,show j=y.1 by omega,Nat.sub_self];rfl
  ·rw[YF hi hg];exact⟨(λe=>by cases e),λ_=>⟨(Wk.start,0,0),⟨(λe=>by cases e),N _,N _,⟨M _,M _,M _⟩⟩,rfl,rfl,rfl,rfl⟩⟩
 ·have e:y.1=w.n:=by have:=of_decide_eq_false hi;have:=hy.1;omega
  have hall:p8 w=true:=jC.2 λi hi=>hy.2.2 i (by omega);have hg:=jC.1 hall 0 h0;have hf:=h.f 0 h0;have hd:=HD h0;have hlk:dJ w.full (b7 (w.f 0))=true:=by unfold dJ;rw[hd,vb,hg];rfl
  have e1:(bif qx Wk.start.ns.length (λi=>Wk.start.ns.getD i []) (w.f 0)then Wk.start.ns else Wk.start.ns++[w.f 0])=(Wk.start.take w.full (b7 (w.f 0))).ns:=by have:=G1 (zY.start w.full) hd;rw[vb] at this;exact this
  have hfit:=yb w.full (b7 (w.f 0));have usd:=(zY.start w.full).take (qp w) hlk;have hT:=JN hall;refine⟨⟨by omega,by omega⟩,h0,⟨by omega,by omega⟩,λ_=>⟨⟨by omega,by omega⟩,h0,(⟨w,Wk.start,D,y.2,0,0⟩,w.f 0),⟨⟨N _,N _,by have:=hy.2.1;show w.n<=y.2;omega⟩,M _⟩,rfl,rfl,⟨rfl,rfl,rfl,rfl⟩,⟨e,rfl⟩,rfl,rfl,rfl,rfl,rfl,S _,by rw[e];exact S _,rfl,rfl,λc hc=> ?_⟩,λe=>by rw[hg] at e;cases e⟩;have hc:(Wk.start.take w.full (b7 (w.f 0))).ns.length<=c:=by rw[← e1];exact hc
  generalize hs2:Wk.start.take w.full (b7 (w.f 0))=s2 at *;have el:s2.lk=0:=by rw[← hs2];rfl
  have ef:s2.fs=[]:=by rw[← hs2];rfl
  have sn: ∀ l:List e_,l=s2.ns->ah (.rows F l.length [.str λi=>l.getD i []] D (c*1) 9) (cZ s2 c):=by rintro _ rfl;exact S _
  have sf: ∀ l:List (e_×e_),l=s2.fs->ah (.rows F l.length [.str λi=>(l.getD i ([],[])).1,.str λi=>(l.getD i ([],[])).2] D (0*2) 50) (cR s2 0):=by rintro _ rfl;exact S _
  refine⟨⟨⟨w,s2,D,y.2,c,0⟩,0,getD (w.f 0),[]⟩,⟨by decide,⟨hn,h.f,jC.1 hall,h.fr,h.to⟩,⟨hc,by show s2.fs.length<=0;rw[ef];exact N _,by have:=hy.2.1;show w.n<=y.2;omega⟩,iT hg,M _,by decide,λ_=>⟨by show s2.Fit (s2.lk+1);rw[el];exact hfit,usd,by show 401<=s2.lk+401;omega,M _⟩,λe=>by cases e⟩,rfl,rfl,⟨rfl,rfl,rfl,rfl⟩,⟨rfl,rfl⟩,⟨by show 0=s2.fs.length;rw[ef];rfl,rfl⟩,⟨congrArg ek e1,rfl⟩,by show((0:Nat):Int)=s2.lk;rw[el],rfl,rfl,rfl,rfl,rfl,rfl,rfl,rfl,rfl,rfl,rfl,rfl,rfl,rfl,rfl,rfl,rfl,rfl,rfl,rfl,rfl,S _,S _,sf _ ef.symm,sn _ e1,λr hr=> ?_⟩;have hwl: ∀ v,iu w.full 401 s2 (getD (w.f 0)) []=v->(v=F->r.1=de w.full 401 s2 (getD (w.f 0)) []/\r.2.1=D)/\(v=D->r.2.1=F/\r.1.Bd (500+40*401)):=λv hv=>⟨λe=>hr.yes (by rw[pM rfl];exact hv.trans e),λe=>hr.no (by rw[pM rfl];exact hv.trans e)⟩
  cases hv:iu w.full 401 s2 (getD (w.f 0)) [] with
  | true =>obtain⟨r1,r2⟩:=(hwl _ hv).1 rfl;have ht:=zU hv;have hb:=(sB w.full 401 _ _ _ _ (by rw[el];exact hfit) ht).1;rw[hT,ht];refine⟨λ_=>⟨(r.1,r.2.2.1,r.2.2.2),⟨λ_=>by rw[hT,ht,r1],hr.c1,hr.c2,?_⟩,⟨rfl,rfl⟩,⟨rfl,rfl⟩,by rw[r2];rfl,S _,S _⟩,(λe=>by cases e)⟩;show r.1.Bd _;rw[r1];exact hb.bd (by have:=hb.lk;omega) (by decide)
  | false =>obtain⟨r1,r2⟩:=(hwl _ hv).2 rfl;rw[hT,sA hv];exact⟨(λe=>by cases e),λ_=>⟨(r.1,r.2.2.1,r.2.2.2),⟨(λe=>by cases e),hr.c1,hr.c2,r2.mono (by decide)⟩,⟨rfl,rfl⟩,⟨rfl,rfl⟩,by rw[r1];rfl,S _,S _⟩⟩
theorem YG:ax G 52 (gK JP) :=kQ (n:=20) (fn:=c5) Tryz.func52 (by kernel_rfl) (by kernel_rfl) JP fun(w:Sp) hw=>⟨S8 w,.of bz PD aU,rfl,MV hw⟩
theorem QX (root:e_)(w:Sp):cU root w=bif XY w.fr w.to&&(H (0<w.n)&&(H (w.n<=200)&&H (b7 (w.f 0)=root)))then(match uz w with
  | some s=>bif ec s.ns.length (λi=>s.ns.getD i []) w.n w.f then I s.fs else J
  | none=>J)else none:=by
 unfold cU;cases hc:XY w.fr w.to&&(H (0<w.n)&&(H (w.n<=200)&&H (b7 (w.f 0)=root)))with
 | false=>rw[cond_false,cond_false]
 | true =>
   simp only[Y,decide_eq_true_eq] at hc;obtain⟨_,h0,_,rfl⟩:=hc;have hd:=HD h0;simp only[cond_true];unfold mB;rw[vb];have hlk:dJ w.full (b7 (w.f 0))=aJ (w.f 0):=by unfold dJ;rw[hd,vb];rfl
   rw[hlk];have key: ∀ s,jA w.full 401 (Wk.start.take w.full (b7 (w.f 0))) (getD (w.f 0)) []=I s->aJ (w.f 0)=F->zY w.full s:=λs ht hg=>OE ((zY.start w.full).take (qp w) (by rw[hlk,hg])) ht;have hT:p8 w=F->uz w=jA w.full 401 (Wk.start.take w.full (b7 (w.f 0))) (getD (w.f 0)) []:=JN;generalize jA w.full 401 (Wk.start.take w.full (b7 (w.f 0))) (getD (w.f 0)) []=T at key hT ⊢;cases ha:p8 w with
   | true=>rw[jC.1 ha 0 h0,hT ha];rfl
   | false =>
     have hR:uz w=none:=by unfold uz;rw[ha];rfl
     rw[hR];cases hg:aJ (w.f 0)with
     | false=>rfl
     | true =>
       simp only[cond_true];cases T with
       | none=>rfl
       | some s =>
         have u:=key s rfl hg;cases hs:ec s.ns.length (λi=>s.ns.getD i []) w.n w.f with
         | false=>simp only[hs,cond_false]
         | true =>
           exfalso;refine absurd (jC.2 λi hi=> ?_) (by rw[ha];decide);unfold ec at hs;simp only[Y,decide_eq_true_eq,bn,b6] at hs;have hi':i<s.ns.length:=by omega
           obtain⟨t,h1,h2⟩:=u.look (s.ns.getD i []) (by rw[List.getD_eq_getElem?_getD,List.getElem?_eq_getElem hi'];exact List.getElem_mem hi');unfold dJ at h1;rw[← h2,hs.2 i hi'] at h1;exact(Y _ _▸ h1:_/\_).2
theorem Gz (h:w.jZ)(root:e_)(kk:Option Nat):av (fN (Kx w) 75 c_ [.str D root,.str D w.fr,.str D w.to,.aS 0 1 w.z w.o 0 w.n w.c] [kT w kk] (Gy root w)):=by
 refine av.Mk (Wu root w kk) (by delta Bk Fk;exact rfl) ?_;simp only[Q,true_and,R];have S: ∀ v:SV,aa v v:=λ_ _=>rfl;have hfr:=h.fr;have hto:=h.to;have eR:=QX root w;have hle:XY w.fr w.to= !Op.bytesLess w.to w.fr:=(vv _ _).symm;rw[hle] at eR;have bad:cU root w=J->∀ {A B:Prop},B->((cU root w).isSome=F->A)/\((cU root w).isSome=D->B):=λh A B b=>by rw[h];exact⟨(λh=>by cases h),λ_=>b⟩
 refine⟨⟨by omega,by omega⟩,λa=>bad (by rw[eR,a];rfl) (S _),λa=>⟨λb=>bad (by rw[eR,decide_eq_false (show ¬ 0<w.n by have:=of_decide_eq_true b;omega)];simp) (S _),λb=>⟨λc=>bad (by rw[eR,decide_eq_false (show ¬ w.n<=200 by have:=of_decide_eq_true c;omega)];simp) (S _),λc=> ?_⟩⟩⟩;have b:0<w.n:=by have:=of_decide_eq_false b;omega
 have c:w.n<=200:=by have:=of_decide_eq_false c;omega
 have hf:=h.f 0 b;refine⟨⟨by omega,by omega⟩,b,by omega,λd=>bad (by rw[eR,CA d];simp) (S _),λd=> ?_⟩;rw[a,CC d,decide_eq_true b,decide_eq_true c] at eR;simp only[Bool.not_false,Bool.true_and,cond_true] at eR;refine⟨w,⟨b,c,h.f,hfr,hto⟩,rfl,rfl,⟨rfl,rfl,rfl,rfl⟩,ah.refl _,λ_ y hy=> ?_,λe y _=>bad (by rw[eR];cases hh:uz w with | none=>rfl | some s=>rw[hh] at e;cases e) (S _)⟩;rw[hy.s rfl] at eR;dsimp only at eR;have hs:ec y.1.ns.length (λi=>y.1.ns.getD i []) w.n w.f=(H ((y.1.ns.length:Int)=(w.n:Int))&&(b9 y.1.ns.length).all λi=>decide (y.1.ns.getD i []=w.f i)):=rfl;have hb:=hy.bd.ns;refine⟨λe=>bad (by rw[eR,hs,CA e];rfl) (S _),λe=>⟨⟨0,⟨M _,λj hj=>absurd hj (W _)⟩,rfl⟩,λi hi=>⟨λg=> ?_,λg=> ?_⟩⟩⟩
 ·have g:=of_decide_eq_true g;have en:(y.1.ns.length:Int)=(w.n:Int):=WM e;exact⟨⟨by omega,by omega⟩,by omega,⟨by omega,by omega⟩,by omega,λk=>bad (by rw[eR,hs,i7 g (CA k),an];rfl) (S _),λk=>⟨⟨by omega,by omega⟩,i+1,⟨i6 hi g (CC k),by omega⟩,by omega⟩⟩
 ·have g:=of_decide_eq_false g;have eR:cU root w=I y.1.fs:=by rw[eR,hs,kK hi g,CC e];rfl
  have eL:jy root w=y.1.fs:=by unfold jy;rw[eR]
  rw[eR,eL];exact⟨λ_=>⟨y.2.2,hy.c2,ah.refl _,S _⟩,(λh=>by cases h)⟩
theorem Vl {vs:List SV}{l:List Seen}{root:e_}{kk:Option Nat}(h:Vk vs l=I (root,w,kk)):filled Ot vs l=[.str D root,.str D w.fr,.str D w.to,.aS 0 1 w.z w.o 0 w.n w.c]/\l=[kT w kk]:=by
 unfold Vk at h;split at h
 ·cases h;exact⟨rfl,rfl⟩
 ·cases h
theorem QJ:ax G 75 (bQ Ot pz):=by
 refine dN (n:=20) (fn:=c_) Tryz.func75 (by kernel_rfl) (by kernel_rfl) ?_;intro vs l q a h hq;unfold pz at h;split at h
 ·rename_i root w kk hx;cases h;obtain⟨e1,e2⟩:=Vl hx;rw[e1,e2];refine⟨Kx w,.of bz (aQ.cons YG (eX _) rX) aU,rfl,λb=> ?_,Gz hq root kk⟩;cases b with
  | false=>rfl
  | true =>
    intro c;refine⟨rfl,rfl,λk=>by simp[SV.wf,SV.e9,Nat.blt_eq],λE E' k k' h=> ?_⟩;simp only[SV.val,SV.vals];generalize jy root w=L at h ⊢;cases L with
    | nil=>rfl
    | cons a r=>rw[h (SB.jk (i:=0) (Nat.succ_pos _))]
 ·cases h
end
end
section
open Go Sx
set_option maxRecDepth 20000
def CS (f g f' g':Nat->e_)(i:Nat):Bool:=H (f i=f' i)&&H (g i=g' i)
def eG (n:Nat)(f g:Nat->e_)(n':Nat)(f' g':Nat->e_):Bool:=H ((n:Int)=(n':Int))&&(b9 n).all (CS f g f' g')
def dEn:List aE:=[.str λ_=>[],.str λ_=>[]]
def adj:List zw:=[.of (.slice dEn),.of (.slice dEn)]
def vS (z:Bool)(o c n:Nat)(f g:Nat->e_)(key:Option Nat):Seen:=⟨key,z,o,n,c,[.str f,.str g]⟩
noncomputable def Kv (n:Nat)(f g f' g':Nat->e_):dK:={bE with cm:=λf=>ay f dW,bh:=λh=>if h=17 then [(4,always (oA 5 n (CS f g f' g')))] else []}
theorem XJ (n:Nat)(f g f' g':Nat->e_):Sx.Good G (Kv n f g f' g'):=.of bz cW aU
def Pp.alike (x y:Pp):Bool:=H (x.k=y.k)&&H (x.root=y.root)&&H (x.key=y.key)&&H (x.to=y.to)&&ec x.n x.f y.n y.f
noncomputable def Uo:List (FuncId×PT):=(51,bQ VF jP)::dW
theorem PF:aQ G (λf=>ay f Uo):=.cons CT (bR _ _) cW
noncomputable def Zv:dK:={bE with cm:=λf=>ay f Uo}
theorem aaM:Sx.Good G Zv:=.of bz PF aU
theorem YQ (x y:Pp)(z z':Bool)(o o' c c':Nat)(key key':Option Nat):VC.holds (fN Zv 39 c4 [x.sv (.aS 0 1 z o 0 x.n c),y.sv (.aS 1 1 z' o' 0 y.n c')] [cE z o c x key,cE z' o' c' y key'] (.ret (.bool D (x.alike y))))=(Fk (x.k=y.k) (Fk (x.root=y.root) (Fk (x.key=y.key) (Fk (x.to=y.to) ((((z=z /\o=o /\(0:Nat)+x.n<=x.n) /\(z'=z' /\o'=o' /\(0:Nat)+y.n<=y.n) /\True) /\x.n<(9223372036854775808:Nat)) /\aa (SV.bool D (ec x.n (fun(j:Nat)=>x.f j) y.n fun(j:Nat)=>y.f j)) (SV.bool D (x.alike y))) (aa (SV.bool F D) (SV.bool D (x.alike y)))) (aa (SV.bool F D) (SV.bool D (x.alike y)))) (aa (SV.bool F D) (SV.bool D (x.alike y)))) (aa (SV.bool F D) (SV.bool D (x.alike y)))):=by kernel_rfl
theorem Wz (n n':Nat)(f g f' g':Nat->e_)(z z':Bool)(o c o' c':Nat)(key key':Option Nat):fR (.s 0 (.n (.s 0 (.n .k .t)) (.n (.s 6 (.n .k .t)) .t))) (fN (Kv n f g f' g') 17 a_ [.aS 0 2 z o 0 n c,.aS 1 2 z' o' 0 n' c'] [vS z o c n f g key,vS z' o' c' n' f' g' key'] (.ret (.bool D (eG n f g n' f' g')))) ((Bk (!decide ((n:Int)=(n':Int))) (aa (SV.bool F D) (SV.bool D (eG n f g n' f' g'))) ((∃(u2:Nat),fM n (CS f g f' g') u2/\0=(u2:Int))/\∀(a:Nat),fM n (CS f g f' g') a->Fk ((a:Int)<(n:Int)) ((0<=(a:Int)/\(a:Int)<(n:Int))/\(o=o/\0+(a:Int).toNat<n)/\(0<=(a:Int)/\(a:Int)<(n':Int))/\(o'=o'/\0+(a:Int).toNat<n')/\Bk (!(H (f (0+(a:Int).toNat)=f' (0+(a:Int).toNat))&&(H (g (0+(a:Int).toNat)=g' (0+(a:Int).toNat))&&F))) (aa (SV.bool F D) (SV.bool D (eG n f g n' f' g'))) (I6 ((a:Int)+1)/\∃(b:Nat),(fM n (CS f g f' g') b/\n - b<n - a)/\(a:Int)+1=(b:Int))) (aa (SV.bool F F) (SV.bool D (eG n f g n' f' g')))))):=⟨by kernel_rfl,by kernel_rfl⟩
theorem adQ (h:(!(a&&(b&&F)))=D):(a&&b)=true:=by revert h;cases a<;>cases b<;>decide
theorem adP (h:(!(a&&(b&&F)))=F):(a&&b)=false:=by revert h;cases a<;>cases b<;>decide
def ur (vs:List SV)(l:List Seen):Option (Prop×cN):=match vs,l with
 | [_,_],[⟨_,_,_,n,_,[.str f,.str g]⟩,⟨_,_,_,n',_,[.str f',.str g']⟩]=>I (n<9223372036854775808,.ret (.bool D (eG n f g n' f' g')))
 | _,_=>J
theorem GA {n n':Nat}{f g f' g':Nat->e_}(hn:n<9223372036854775808)(z z':Bool)(o c o' c':Nat)(key key':Option Nat):av (fN (Kv n f g f' g') 17 a_ [.aS 0 2 z o 0 n c,.aS 1 2 z' o' 0 n' c'] [vS z o c n f g key,vS z' o' c' n' f' g' key'] (.ret (.bool D (eG n f g n' f' g')))):=by
 refine av.Mk (Wz n n' f g f' g' z z' o c o' c' key key') (by delta Bk Fk;exact rfl) ?_;simp only[R,Q,true_and];refine⟨λh=>cV (by rw[eG,CA h];rfl),λh=>⟨⟨0,⟨M _,λj hj=>absurd hj (W _)⟩,rfl⟩,λi hi=>⟨λa=> ?_,λa=> ?_⟩⟩⟩
 ·have a:(i:Int)<(n:Int):=of_decide_eq_true a;have e:(n:Int)=(n':Int):=WM h;refine⟨by omega,by omega,by omega,by omega,λb=> ?_,λb=>⟨by omega,i+1,⟨i6 hi a (adQ b),by omega⟩,by omega⟩⟩;exact cV (by rw[eG,i7 a (adP b),an])
 ·have a: ¬ (i:Int)<(n:Int):=of_decide_eq_false a;exact cV (by rw[eG,kK hi a,CC h];rfl)
theorem QK:ax G 17 (bQ adj ur):=by
 refine dN (n:=20) (fn:=a_) Tryz.func17 (by kernel_rfl) (by kernel_rfl) ?_;intro vs l q a h hq;unfold ur at h;split at h
 ·rename_i v v' key z o n c f g key' z' o' n' c' f' g';cases h;exact⟨_,XJ n f g f' g',rfl,rfl,GA hq z z' o c o' c' key key'⟩
 ·cases h
def U9 (vs:List SV)(l:List Seen):Option ((Pp×Bool×Nat×Nat×Option Nat)×(Pp×Bool×Nat×Nat×Option Nat)):=match vs,l with
 | [.agg [.int .i64 D k,.str D root,.str D key,.str D to,_],.agg [.int .i64 D k',.str D root',.str D key',.str D to',_]],[⟨kk,z,o,n,c,[.str f]⟩,⟨kk',z',o',n',c',[.str f']⟩] =>I ((⟨k,root,key,to,n,f⟩,z,o,c,kk),(⟨k',root',key',to',n',f'⟩,z',o',c',kk'))
 | _,_=>J
def VE:List zw:=[.agg [.one,.one,.one,.one,.slice dP],.agg [.one,.one,.one,.one,.slice dP]]
theorem I2 {vs:List SV}{l:List Seen}{x y:Pp}{z z':Bool}{o o' c':Nat}{key key':Option Nat}(h:U9 vs l=I ((x,z,o,c,key),(y,z',o',c',key'))) :
  filled VE vs l=[x.sv (.aS 0 1 z o 0 x.n c),y.sv (.aS 1 1 z' o' 0 y.n c')]/\l=[cE z o c x key,cE z' o' c' y key']:=by
 unfold U9 at h;split at h
 ·injection h with h;injection h with h1 h2;injection h1 with h1 g;injection g with g1 g;injection g with g2 g;injection g with g3 g4;injection h2 with h2 k;injection k with k1 k;injection k with k2 k;injection k with k3 k4;subst h1;subst g1;subst g2;subst g3;subst g4;subst h2;subst k1;subst k2;subst k3;subst k4;exact⟨rfl,rfl⟩
 ·cases h
def lA (vs:List SV)(l:List Seen):Option (Prop×cN):=match U9 vs l with
 | some ((x,_),(y,_))=>I (x.n<9223372036854775808,.ret (.bool D (x.alike y)))
 | none=>J
theorem RS:ax G 39 (bQ VE lA):=by
 refine dN (n:=20) (fn:=c4) Tryz.func39 (by kernel_rfl) (by kernel_rfl) ?_;intro vs l q a h hq;unfold lA at h;split at h
 ·rename_i x r y r' hx;obtain⟨z,o,c,key⟩:=r;obtain⟨z',o',c',key'⟩:=r';cases h;obtain⟨e1,e2⟩:=I2 hx;rw[e1,e2];refine⟨_,aaM,rfl,rfl,av.gV (YQ x y z z' o o' c c' key key') (by delta Fk;exact rfl) ?_⟩;unfold Pp.alike;generalize H (x.k=y.k)=b1;generalize H (x.root=y.root)=b2;generalize H (x.key=y.key)=b3;generalize H (x.to=y.to)=b4;generalize ec x.n x.f y.n y.f=b5;refine⟨λh1=>⟨λh2=>⟨λh3=>⟨λh4=>⟨⟨⟨⟨rfl,rfl,by omega⟩,⟨rfl,rfl,by omega⟩,trivial⟩,hq⟩,?_⟩,λh4=> ?_⟩,λh3=> ?_⟩,λh2=> ?_⟩,λh1=> ?_⟩
  all_goals (apply cV;simp_all)
 ·cases h
theorem WN {f:FuncId}{sh:List zw}{spec spec':List SV->List Seen->Option (Prop×cN)}(h:ax G f (bQ sh spec))(hi: ∀ vs l q a',spec' vs l=I (q,a')->∃ a,spec vs l=I (q,a)/\∀ m nx K,(a'.vc m nx K).holds->(a.vc m nx K).holds):ax G f (bQ sh spec'):=by
 intro args m nx K hk;refine h args m nx K ?_;unfold bQ at hk ⊢;split at hk
 ·rename_i vs p l hp;split at hk
  ·rename_i q a' hs;obtain⟨a,e,g⟩:=hi vs l q a' hs;simp only[e];exact⟨hk.1,g m nx K hk.2⟩
  ·exact hk.elim
 ·exact hk.elim
def FB (x:Pp):cN:=.fork x.jN λb=>match b with
 | true=>.all (List (e_×e_)) λl=>.req (l=x.jL) (.all Nat λc=>.req (l.length<=c) (.new (λk=>.aD [.bx k 2 F 0 l.length c,.int .i64 F 0]) (.rows F l.length [eC l,eD l] D (c*2) 50)))
 | false=>.all Int λe=>.req (e=x.jE) (.ret (.aD [.aK,.int .i64 D e]))
theorem De (x:Pp)(m:Mem)(nx:Nat)(K:SV->Mem->Nat->VC)(h:((FB x).vc m nx K).holds):((qB x).vc m nx K).holds:=by
 unfold FB at h;unfold qB;simp only[cN.vc] at h ⊢;rw[c9] at h ⊢;cases hb:x.jN with
 | true=>rw[hb] at h;exact h x.jL rfl
 | false=>rw[hb] at h;exact h x.jE rfl
def tG (vs:List SV)(l:List Seen):Option (Prop×cN):=match k9 vs l with
 | some (x,_)=>I (True,FB x)
 | none=>J
theorem Pu:ax G 34 (bQ BU tG):=WN T7 λvs l q a' h=>by
 unfold tG at h;split at h
 ·rename_i x r hx;cases h;exact⟨qB x,by unfold xj;rw[hx],De x⟩
 ·cases h
section
attribute [local irreducible] cU jy ck Qs Yi Pp.ok ak
theorem Gs (x:Pp)(z:Bool)(o c:Nat)(key:Option Nat)(hc:x.n<=c):av (fN SN 35 cH [x.sv (.aS 0 1 z o 0 x.n c)] [cE z o c x key] (nc x (x.sp z o c) (x.wy z o c))):=by
 refine av.Mk (Wq x z o c key) (by delta Bk Fk;exact rfl) ?_;dsimp only;have S: ∀ v:SV,aa v v:=λ_ _=>rfl;have V:(((True/\True/\True/\True/\(z=z/\o=o/\(0:Nat)+x.n<=x.n)/\True)/\True)/\True):=⟨⟨⟨trivial,trivial,trivial,trivial,⟨rfl,rfl,by omega⟩,trivial⟩,trivial⟩,trivial⟩
 have e1:(⟨x.key,x.to,x.n,x.f,z,o+0,c,λ_=>D,λ_=>0⟩:Sp)=x.sp z o c:=rfl;have e2:(⟨x.root,x.n,x.f,z,o+0,c,0⟩:Wy)=x.wy z o c:=rfl;rw[e1,e2];unfold Pp.qA Pp.jl Pp.zl;cases hok:x.ok with
 | false=>exact⟨V,λ_=>⟨(λh=>by cases h),λ_ _=>rfl⟩,(λh=>by cases h)⟩
 | true =>
   have hs:=Pp.qM hok;have hkey:=hs.key;have f1:(x.sp z o c).jZ:=⟨hs.row,by show x.key.length<=1000;omega,by have:=hs.to;show x.to.length<=1000;omega⟩
   have f2:(x.wy z o c).jZ:=⟨hs.row⟩
   generalize x.sp z o c=w at f1 ⊢;generalize x.wy z o c=y at f2 ⊢;refine⟨V,(λh=>by cases h),λ_=> ?_⟩;cases hk:H (x.k=1)with
   | true =>
     refine⟨λ_=>⟨⟨⟨trivial,trivial,trivial,⟨rfl,rfl,by omega⟩,trivial⟩,f1⟩,?_⟩,(λh=>by cases h)⟩;cases hr:(cU x.root w).isSome with
     | true=>exact⟨λ_ c' hc=>⟨λ_=>⟨c',hc,ah.refl _,S _⟩,(λh=>by cases h)⟩,(λh=>by cases h)⟩
     | false=>exact⟨(λh=>by cases h),λ_=>⟨(λh=>by cases h),λ_ _=>rfl⟩⟩
   | false =>
     refine⟨(λh=>by cases h),λ_=>⟨⟨⟨trivial,trivial,⟨rfl,rfl,by omega⟩,trivial⟩,f2,by omega,hc⟩,?_⟩⟩;cases hr:(ck y (ak x.key)).isSome with
     | true =>
       cases hb:Qs (ck y (ak x.key))with
       | true=>exact⟨λ_=>⟨(λh=>by cases h),λ_=>⟨λ_=>⟨1,N _,ah.entry rfl,λ_=>rfl⟩,(λh=>by cases h)⟩⟩,(λh=>by cases h)⟩
       | false=>exact⟨λ_=>⟨λ_=>⟨(λh=>by cases h),λ_ _=>rfl⟩,(λh=>by cases h)⟩,(λh=>by cases h)⟩
     | false=>exact⟨(λh=>by cases h),λ_=>⟨(λh=>by cases h),λ_ _=>rfl⟩⟩
end
def uh (vs:List SV)(l:List Seen):Option (Prop×cN):=match k9 vs l with
 | some (x,_,_,c,_)=>I (x.n<=c,qB x)
 | none=>J
theorem PE:aQ G (λf=>ay f ((36,bQ BU eY)::(75,bQ Ot pz)::(76,bQ shW BQ)::xC)):=.cons wX (bR _ _) (.cons QJ (bR _ _) (.cons QI (bR _ _) rX))
theorem QD:ax G 35 (bQ BU uh):=by
 refine dN (n:=20) (fn:=cH) Tryz.func35 (by kernel_rfl) (by kernel_rfl) ?_;intro vs l q a h hq;unfold uh at h;split at h
 ·rename_i x z o c key hx;cases h;obtain⟨e1,e2⟩:=iP hx;rw[e1,e2,← yL x z o c];exact⟨SN,.of bz PE aU,rfl,Dd x _ _,Gs x z o c key hq⟩
 ·cases h
def qX (vs:List SV)(l:List Seen):Option (Prop×cN):=match k9 vs l with
 | some (x,_,_,c,_)=>I (x.n<=c,FB x)
 | none=>J
theorem MC:ax G 35 (bQ BU qX):=WN QD λvs l q a' h=>by
 unfold qX at h;split at h
 ·rename_i x z o c key hx;cases h;exact⟨qB x,by unfold uh;rw[hx],De x⟩
 ·cases h
end
section
open Go Sx
set_option maxRecDepth 20000
noncomputable def Zw (n:Nat)(f f':Nat->e_):dK:={bE with cm:=λf=>ay f dW,bh:=λg=>if g=15 then [(4,always (oA 5 n λi=>decide (f i=f' i)))] else []}
theorem aaO (n:Nat)(f f':Nat->e_):Sx.Good G (Zw n f f'):=.of bz cW aU
noncomputable def Zy:dK:={bE with cm:=λf=>ay f ((15,bQ VF jP)::dW)}
theorem Wd (n n':Nat)(f f':Nat->e_)(z z':Bool)(o o' c c':Nat)(key key':Option Nat):fR (.s 0 (.n (.s 0 (.n .k .t)) (.n (.s 6 (.n .k .t)) .t))) (fN (Zw n f f') 15 cx [.aS 0 1 z o 0 n c,.aS 1 1 z' o' 0 n' c'] [js z o c n f key,js z' o' c' n' f' key'] (.ret (.bool D (ec n f n' f')))) (Bk (!decide ((↑n:Int)=(↑n':Int))) (aa (SV.bool F D) (SV.bool D (ec n f n' f'))) ((∃(y:Nat),fM n (fun(i:Nat)=>decide (f i=f' i)) y /\(0:Int)=(↑y:Int)) /\∀(x:Nat),fM n (fun(i:Nat)=>decide (f i=f' i)) x ->Fk ((↑x:Int)<(↑n:Int)) (((0:Int)<=(↑x:Int) /\(↑x:Int)<(↑n:Int)) /\(o=o /\(0:Nat)+(↑x:Int).toNat<n) /\((0:Int)<=(↑x:Int) /\(↑x:Int)<(↑n':Int)) /\(o'=o' /\(0:Nat)+(↑x:Int).toNat<n') /\Bk (!decide (f ((0:Nat)+(↑x:Int).toNat)=f' ((0:Nat)+(↑x:Int).toNat))) (aa (SV.bool F D) (SV.bool D (ec n f n' f'))) (((-9223372036854775808:Int)<=(↑x:Int)+(1:Int) /\(↑x:Int)+(1:Int)<=(9223372036854775807:Int)) /\∃(y:Nat),(fM n (fun(i:Nat)=>decide (f i=f' i)) y /\n - y<n - x) /\(↑x:Int)+(1:Int)=(↑y:Int))) (aa (SV.bool F F) (SV.bool D (ec n f n' f'))))):=⟨by kernel_rfl,by kernel_rfl⟩
theorem Rp (x y:Pp)(z z':Bool)(o o' c c':Nat)(key key':Option Nat):fR .t (fN Zy 37 cL [x.sv (.aS 0 1 z o 0 x.n c),y.sv (.aS 1 1 z' o' 0 y.n c')] [cE z o c x key,cE z' o' c' y key'] (.ret (.bool D (x.alike y)))) (Fk (x.k=y.k) (Fk (x.root=y.root) (Fk (x.key=y.key) (Fk (x.to=y.to) ((((z=z /\o=o /\(0:Nat)+x.n<=x.n) /\(z'=z' /\o'=o' /\(0:Nat)+y.n<=y.n) /\True) /\x.n<(9223372036854775808:Nat)) /\aa (SV.bool D (ec x.n (fun(j:Nat)=>x.f j) y.n fun(j:Nat)=>y.f j)) (SV.bool D (x.alike y))) (aa (SV.bool F D) (SV.bool D (x.alike y)))) (aa (SV.bool F D) (SV.bool D (x.alike y)))) (aa (SV.bool F D) (SV.bool D (x.alike y)))) (aa (SV.bool F D) (SV.bool D (x.alike y)))):=⟨by kernel_rfl,by kernel_rfl⟩
theorem Pv:ax G 15 (bQ VF jP):=by
 refine dN (n:=20) (fn:=cx) Tryz.func15 (by kernel_rfl) (by kernel_rfl) ?_;intro vs l q a h hq;unfold jP at h;split at h
 ·rename_i v v' key z o n c f key' z' o' n' c' f';cases h;refine⟨_,aaO n f f',rfl,rfl,av.Mk (Wd n n' f f' z z' o o' c c' key key') (by delta Bk Fk;exact rfl) ?_⟩;simp only[R,Q];have hq:n<9223372036854775808:=hq;refine⟨λh=>cV (by rw[ec,CA h];rfl),λh=>⟨⟨0,⟨M _,λj hj=>absurd hj (W _)⟩,rfl⟩,λi hi=>⟨λa=> ?_,λa=> ?_⟩⟩⟩
  ·simp only[decide_eq_true_eq] at a;have e:(n:Int)=(n':Int):=WM h;have a:i<n:=by omega
   have e:n=n':=by omega
   subst e;refine⟨by omega,by first | exact a | exact⟨rfl,a⟩ | exact⟨trivial,a⟩,by omega,by first | exact a | exact⟨rfl,a⟩ | exact⟨trivial,a⟩,λb=> ?_,λb=>⟨by omega,i+1,⟨i6 hi (by omega) (CC b),by omega⟩,by omega⟩⟩
   exact cV (by rw[ec,i7 (by omega) (CA b),an])
  ·simp only[decide_eq_false_iff_not] at a;exact cV (by rw[ec,kK hi a,CC h];rfl)
 ·cases h
theorem aaP:Sx.Good G Zy:=.of bz (aQ.cons Pv (bR _ _) cW) aU
theorem Li:ax G 37 (bQ VE lA):=by
 refine dN (n:=20) (fn:=cL) Tryz.func37 (by kernel_rfl) (by kernel_rfl) ?_;intro vs l q a h hq;unfold lA at h;split at h
 ·rename_i x r y r' hx;obtain⟨z,o,c,key⟩:=r;obtain⟨z',o',c',key'⟩:=r';cases h;obtain⟨e1,e2⟩:=I2 hx;rw[e1,e2];refine⟨_,aaP,rfl,rfl,av.Mk (Rp x y z z' o o' c c' key key') (by delta Fk;exact rfl) ?_⟩;have hq:x.n<9223372036854775808:=hq;unfold Pp.alike;simp only[Q,true_and,and_true,N];generalize H (x.k=y.k)=b1;generalize H (x.root=y.root)=b2;generalize H (x.key=y.key)=b3;generalize H (x.to=y.to)=b4;generalize ec x.n x.f y.n y.f=b5
  repeat' first
   | refine X ?_ ?_
   | intro (_:_=F)
   | intro (_:_=D)
   | fail
  all_goals first
   | omega
   | (apply cV;simp_all;done)
 ·cases h
noncomputable def Uq:List (FuncId×PT):=(29,bw Cc)::(30,bQ BU Bx)::(31,bQ BU mb)::(32,bQ BU mb) ::
 (34,bQ BU tG)::(35,bQ BU qX)::(36,bQ BU eY)::(38,bQ BU eY) ::
 (37,bQ VE lA)::(39,bQ VE lA)::(17,bQ adj ur)::dW
theorem PI (hw:Es):aQ G (λf=>ay f Uq):=.cons hw (aZ _) (.cons Yf (bR _ _) (.cons Ob (bR _ _) (.cons XL (bR _ _)
 (.cons Pu (bR _ _) (.cons MC (bR _ _) (.cons wX (bR _ _) (.cons xT (bR _ _)
 (.cons Li (bR _ _) (.cons RS (bR _ _) (.cons QK (bR _ _) cW))))))))))
noncomputable def aan:dK:={bE with cm:=λf=>ay f Uq}
theorem acZ (hw:Es):Sx.Good G aan:=.of bz (PI hw) aU
end
end Go.Proofs.YtoibaecagklkaaaGreatDoor
