/- A part of the proof. -/
import Derived.Test.YtoibaecagklkaaaGreatDoorMv
open Bool renaming and_eq_true->M,false->d,false_eq_true->O,true->C,true_eq_false->W
open Go.IntKind renaming i64->I
open Go.Proofs.Tryz renaming f132->Q,f47->X,f83->S,f84->L,func84->Y,prog->J
open List renaming append_nil->Z,length_append->V,length_drop->ag,length_pos_iff->an,mem_range->az
open Option renaming none->F,some->H
namespace Go.Proofs.YtoibaecagklkaaaGreatDoor
open Go Sx
variable {t:f_}{m:Nat}{x:Nd}
section
open Go Sx
set_option maxRecDepth 20000
theorem Y0 (x:vf×f_):dB (.n (.s 1 (.n (.n (.s 2 (.n (.s 0 (.n .k (.s 3 (.n (.s 0 .k) (.s 1 (.n (.s 1 .k) (.s 0 (.m 2 (.n .k .t))))))))) .t)) (.s 0 (.n (.s 0 (.n .k (.s 3 (.n (.s 0 .k) (.s 1 (.n (.s 1 .k) (.s 0 (.m 2 (.n .k .t))))))))) .t))) (.s 0 (.n .k (.s 0 .k))))) (.s 0 (.n .k (.s 0 .k)))) (runM oK 83 S xL x) ((λf:SV=>((Bk (x.1.w.ad x.2) (x.1.y.A.D (x.1.y.g x.2)=C/\((x.1.y.A.dm (x.1.y.g x.2)).length<=9223372036854775808/\(x.1.y.A.dm (x.1.y.g x.2)).length<1099511627776)/\Bk (bG (x.1.y.A.dm (x.1.y.g x.2))) (Fk (dflt (x.1.s.ud x.2) (x.1.s.us x.2)=0) ((0+x.1.s.ns.length<=x.1.s.ns.length/\True/\2*(x.1.s.ns.length+1)*16<=(281474976710656:Nat)/\x.1.s.ns.length+1<(9223372036854775808:Nat))/\∀(c:Nat),x.1.s.ns.length+1<=c->I6 (dflt (x.1.s.ud x.2) (x.1.s.us x.2)+1)/\Bk (cL x.1.w x.2) (∃(a:Nat×Nat),((if x.1.s.used x.2=0 then x.1.s.ns++[x.1.w.at x.2] else x.1.s.ns).length<=a.1/\x.1.s.fs.length<=a.2)/\(∀(h:Nat->Nat),SV.val h (SV.agg (bh (getD (x.1.y.A.dm (x.1.y.g x.2)))))=SV.val h (getD (x.1.w.at x.2)).sv)/\(x.1.s.ns.length+1=(if x.1.s.used x.2=0 then x.1.s.ns++[x.1.w.at x.2] else x.1.s.ns).length/\c=a.1)/\x.1.c2=a.2/\aa (SB.fmap (dZ x.1.s.ud x.2) (aE.int I (gA x.1.s.us x.2 (dflt (x.1.s.ud x.2) (x.1.s.us x.2)+1))) F) (SB.fmap (dZ x.1.s.ud x.2) (aE.int I (gA x.1.s.us x.2 (x.1.s.used x.2+1))) F)/\aa (SB.rows C (x.1.s.ns.length+1) [av.str λe=>if e<x.1.s.ns.length then x.1.s.ns.getD e [] else ck [x.1.y.A.dm (x.1.y.g x.2)] (e-x.1.s.ns.length)] d (c*1) 9) (SB.rows C (if x.1.s.used x.2=0 then x.1.s.ns++[x.1.w.at x.2] else x.1.s.ns).length [av.str λu=>(if x.1.s.used x.2=0 then x.1.s.ns++[x.1.w.at x.2] else x.1.s.ns).getD u []] d (a.1*1) 9)/\aa (SB.rows C x.1.s.fs.length [bU x.1.s.fs,bV x.1.s.fs] d (x.1.c2*2) 50) (SB.rows C x.1.s.fs.length [bU x.1.s.fs,bV x.1.s.fs] d (a.2*2) 50)) (∃(_u11:f_×f_),False)) (((-9223372036854775808:Int)<=dflt (x.1.s.ud x.2) (x.1.s.us x.2)+1/\dflt (x.1.s.ud x.2) (x.1.s.us x.2)+1<=(9223372036854775807:Int))/\Bk (cL x.1.w x.2) (∃(b:Nat×Nat),((if x.1.s.used x.2=0 then x.1.s.ns++[x.1.w.at x.2] else x.1.s.ns).length<=b.1/\x.1.s.fs.length<=b.2)/\(∀(i:Nat->Nat),SV.val i (SV.agg (bh (getD (x.1.y.A.dm (x.1.y.g x.2)))))=SV.val i (getD (x.1.w.at x.2)).sv)/\(x.1.s.ns.length=(if x.1.s.used x.2=0 then x.1.s.ns++[x.1.w.at x.2] else x.1.s.ns).length/\x.1.c1=b.1)/\x.1.c2=b.2/\aa (SB.fmap (dZ x.1.s.ud x.2) (aE.int I (gA x.1.s.us x.2 (dflt (x.1.s.ud x.2) (x.1.s.us x.2)+1))) F) (SB.fmap (dZ x.1.s.ud x.2) (aE.int I (gA x.1.s.us x.2 (x.1.s.used x.2+1))) F)/\aa (SB.rows C x.1.s.ns.length [av.str λv=>x.1.s.ns.getD v []] d (x.1.c1*1) 9) (SB.rows C (if x.1.s.used x.2=0 then x.1.s.ns++[x.1.w.at x.2] else x.1.s.ns).length [av.str λz=>(if x.1.s.used x.2=0 then x.1.s.ns++[x.1.w.at x.2] else x.1.s.ns).getD z []] d (b.1*1) 9)/\aa (SB.rows C x.1.s.fs.length [bU x.1.s.fs,bV x.1.s.fs] d (x.1.c2*2) 50) (SB.rows C x.1.s.fs.length [bU x.1.s.fs,bV x.1.s.fs] d (b.2*2) 50)) (∃(_u6:f_×f_),False))) (Bk (cL x.1.w x.2) (∃(j:Nat×Nat),((if x.1.s.used x.2=0 then x.1.s.ns++[x.1.w.at x.2] else x.1.s.ns).length<=j.1/\x.1.s.fs.length<=j.2)/\False) (∃(l:f_×f_),(∀(o:Nat->Nat),SV.val o f=SV.val o dc)/\aa (SB.cells [SV.str C [(110:UInt8),(111:UInt8),(32:UInt8),(110:UInt8),(111:UInt8),(100:UInt8),(101:UInt8),(58:UInt8)],SV.str d x.2] 2 207) (SB.cells [SV.str d l.1,SV.str d l.2] 2 207)))) (Bk (cL x.1.w x.2) (∃(p:Nat×Nat),((if x.1.s.used x.2=0 then x.1.s.ns++[x.1.w.at x.2] else x.1.s.ns).length<=p.1/\x.1.s.fs.length<=p.2)/\False) (∃(q:f_×f_),(∀(r:Nat->Nat),SV.val r f=SV.val r dc)/\aa (SB.cells [SV.str C [(110:UInt8),(111:UInt8),(116:UInt8),(32:UInt8),(116:UInt8),(104:UInt8),(101:UInt8),(114:UInt8),(101:UInt8),(58:UInt8)],SV.str d x.2] 2 207) (SB.cells [SV.str d q.1,SV.str d q.2] 2 207)))))) (SV.agg (SV.int .i64 C 0::SV.str C []::SV.str C []::Jo))):=⟨by kernel_rfl,by kernel_rfl⟩
section
attribute [local irreducible] bG getD
theorem I1 {x:vf×f_}(hw:BG x.1.w x.1.y)(hs:x.1.s.Small)(hc:x.1.s.ns.length<=x.1.c1/\x.1.s.fs.length<=x.1.c2):ay (runM oK 83 S xL x):=by
 refine ay.A5 (Y0 x) (by delta Bk Fk;exact rfl) ?_;obtain⟨⟨w,s,c1,c2,y,room⟩,t⟩:=x;dsimp only at hw hs hc ⊢;have hu:=hs.u t;have hn:=hs.ns;have eu:dflt (s.ud t) (s.us t)=s.used t:=rfl;have el:cL w t=(w.ad t&&bG (w.at t)):=rfl;obtain⟨hc1,hc2⟩:=hc;have ez:=ZB.zero;simp only[eu,Nat.zero_add];cases hA:w.ad t with
 | false =>rw[hA] at el;simp only[el,Bool.false_and,O,false_imp_iff,forall_const,true_and];exact⟨(_,_),ez,nL⟩
 | true =>
   have hf:=hw.f t hA;have eT:=hw.dm t hA;rw[hA] at el;rw[eT];simp only[hw.dom t hA,W,false_imp_iff,forall_const,true_and,and_true];refine⟨⟨by omega,by omega⟩,λhB=> ?_,λhB=> ?_⟩
   ·rw[hB] at el;simp only[el,Bool.and_self,W,false_imp_iff,forall_const,and_true];refine⟨λh0=>⟨⟨Nat.le_refl _,by omega,by omega⟩,λc hcc=>⟨⟨by omega,by omega⟩,?_⟩⟩,λh0=>⟨⟨by omega,by omega⟩,?_⟩⟩
    ·have h0:=l_ h0;rw[r_ h0];exact⟨(c,c2),⟨by rw[V];exact hcc,hc2⟩,λ_=>rfl,⟨by rw[V];rfl,rfl⟩,rfl,aa.refl _,QK,aa.refl _⟩
    ·have h0:=m_ h0;rw[s_ h0];exact⟨(c1,c2),⟨hc1,hc2⟩,λ_=>rfl,⟨rfl,rfl⟩,rfl,aa.refl _,aa.refl _,aa.refl _⟩
   ·rw[hB] at el;simp only[el,Bool.and_false,O,false_imp_iff,forall_const,true_and];exact⟨(_,_),ez,nL⟩
end
theorem Ty:ax J 83 (cM xL) :=fT (n:=20) Tryz.func83 (by kernel_rfl) (by kernel_rfl) xL λx hx=>⟨oK,Cp,rfl,I1 hx.1 hx.2.1 hx.2.2.1⟩
noncomputable def ND:List (FuncId×PT):=(83,cM xL)::gy
theorem FE:bp J (λf=>aD f ND):=.cons Ty (cz _) dj
noncomputable def PC:fD:={cv with cT:=λf=>aD f ND}
theorem adm:Sx.Good J PC:=.of bR FE bq
end
section
open Go Sx
set_option maxRecDepth 20000
theorem Pe (x:vf×f_):dB (.s 0 (.n (.c d 0 (.s 0 (.n .k (.s 3 (.n (.s 1 .k) (.s 1 (.n (.s 1 .k) (.s 1 (.n .k (.n .k .t)))))))))) (.s 0 (.n (.s 1 (.n .k (.s 0 (.m 2 (.s 0 (.n (.s 0 .k) (.s 0 (.n .k (.n (.s 0 .k) (.s 0 (.m 3 (.s 0 (.m 3 (.n (.c d 2 (.c d 1 (.n (.s 0 (.n .k (.s 0 (.m 2 (.s 0 (.n (.s 0 .k) (.s 0 (.n .k (.n (.s 0 .k) .k))))))))) .t))) (.c d 2 (.c d 1 (.s 0 (.n .k (.s 0 .k))))))))))))))))))) (.c d 1 (.c d 0 (.n .k (.s 0 .k)))))))) (runM PC 132 Q pJ x) ((λh:SV=>((Rel 9223372036854775808 x.2/\Bk (bH x.2) (∃(b:Nat×Nat),(x.1.s.ns.length<=b.1/\x.1.s.fs.length<=b.2)/\(∀(i:Nat->Nat),SV.val i (SV.agg (bh (getD x.2)))=SV.val i (getD x.2).sv)/\x.1.c1=b.1/\x.1.c2=b.2/\aa (SB.rows C x.1.s.ns.length [jz x.1.s.ns] d (x.1.c1*1) 9) (dY x.1.s b.1)/\aa (SB.rows C x.1.s.fs.length [bU x.1.s.fs,bV x.1.s.fs] d (x.1.c2*2) 50) (dH x.1.s b.2)) (x.2.length<9223372036854775808/\Bk (bw x.2) (∃(a:vf×f_),(BG a.1.w a.1.y/\a.1.s.Small/\(a.1.s.ns.length<=a.1.c1/\a.1.s.fs.length<=a.1.c2)/\True)/\af x.2=a.2/\x.1.w.fr=a.1.w.fr/\x.1.w.to=a.1.w.to/\(x.1.s.ns.length=a.1.s.ns.length/\x.1.c1=a.1.c1)/\(x.1.s.lk:Int)=(a.1.s.lk:Int)/\(x.1.s.fs.length=a.1.s.fs.length/\x.1.c2=a.1.c2)/\aa (SB.fmap x.1.s.ud (aE.int I x.1.s.us) F) (ff a.1.s)/\aa (SB.rows C x.1.s.ns.length [jz x.1.s.ns] d (x.1.c1*1) 9) (dY a.1.s a.1.c1)/\aa (SB.rows C x.1.s.fs.length [bU x.1.s.fs,bV x.1.s.fs] d (x.1.c2*2) 50) (dH a.1.s a.1.c2)/\x.1.room=a.1.room/\aa (SB.fmap x.1.w.ad (aE.ref 6 x.1.y.g) F) (SB.fmap a.1.w.ad (aE.ref 6 a.1.y.g) F)/\aa (SB.eD x.1.y.A.D [av.str x.1.y.A.dm] 4 133 C) a.1.y.A.rK/\Bk (cL a.1.w a.2) (∀(e:Nat×Nat),(if a.1.s.used a.2=0 then a.1.s.ns++[a.1.w.at a.2] else a.1.s.ns).length<=e.1/\a.1.s.fs.length<=e.2->Bk (cL x.1.w (af x.2)) (∃(f:Nat×Nat),((if x.1.s.used (af x.2)=0 then x.1.s.ns++[x.1.w.at (af x.2)] else x.1.s.ns).length<=f.1/\x.1.s.fs.length<=f.2)/\(∀(j:Nat->Nat),SV.val j (SV.agg (bh (getD (a.1.w.at a.2))))=SV.val j (getD (x.1.w.at (af x.2))).sv)/\a.1.w.fr=x.1.w.fr/\a.1.w.to=x.1.w.to/\((if a.1.s.used a.2=0 then a.1.s.ns++[a.1.w.at a.2] else a.1.s.ns).length=(if x.1.s.used (af x.2)=0 then x.1.s.ns++[x.1.w.at (af x.2)] else x.1.s.ns).length/\e.1=f.1)/\(a.1.s.lk:Int)=(x.1.s.lk:Int)/\(a.1.s.fs.length=x.1.s.fs.length/\e.2=f.2)/\aa (SB.fmap (dZ a.1.s.ud a.2) (aE.int I (gA a.1.s.us a.2 (a.1.s.used a.2+1))) F) (ff (Wk.take x.1.w x.1.s (af x.2)))/\aa (SB.rows C (if a.1.s.used a.2=0 then a.1.s.ns++[a.1.w.at a.2] else a.1.s.ns).length [av.str λv=>(if a.1.s.used a.2=0 then a.1.s.ns++[a.1.w.at a.2] else a.1.s.ns).getD v []] d (e.1*1) 9) (dY (Wk.take x.1.w x.1.s (af x.2)) f.1)/\aa (SB.rows C a.1.s.fs.length [av.str λz=>(a.1.s.fs.getD z ([],[])).1,av.str λB=>(a.1.s.fs.getD B ([],[])).2] d (e.2*2) 50) (dH (Wk.take x.1.w x.1.s (af x.2)) f.2)/\aa (SB.cells [SV.int .i64 d a.1.room,SV.map 5] 2 126) (fA x.1.room 5)/\aa (SB.fmap a.1.w.ad (aE.ref 6 a.1.y.g) F) (SB.fmap x.1.w.ad (aE.ref 6 x.1.y.g) F)) (∃(_u6:f_×f_),False)) (∀(l:f_×f_),Bk (cL x.1.w (af x.2)) (∃(o:Nat×Nat),((if x.1.s.used (af x.2)=0 then x.1.s.ns++[x.1.w.at (af x.2)] else x.1.s.ns).length<=o.1/\x.1.s.fs.length<=o.2)/\False) (∃(p:f_×f_),(∀(q:Nat->Nat),SV.val q h=SV.val q dc)/\aa (SB.cells [SV.str d l.1,SV.str d l.2] 2 207) (SB.cells [SV.str d p.1,SV.str d p.2] 2 207)))) (∃(r:f_×f_),(∀(u:Nat->Nat),SV.val u h=SV.val u dc)/\aa (SB.cells [SV.str C [(110:UInt8),(111:UInt8),(32:UInt8),(114:UInt8),(101:UInt8),(102:UInt8),(58:UInt8)],SV.str d x.2] 2 207) (SB.cells [SV.str d r.1,SV.str d r.2] 2 207)))))) (SV.agg (SV.int .i64 C 0::SV.str C []::SV.str C []::Jo))):=⟨by kernel_rfl,by kernel_rfl⟩
section
attribute [local irreducible] bG getD bH bw af cL
theorem DL {x:vf×f_}(hw:BG x.1.w x.1.y)(hs:x.1.s.Small)(hc:x.1.s.ns.length<=x.1.c1/\x.1.s.fs.length<=x.1.c2)(ht:x.2.length<9223372036854775808) :
  ay (runM PC 132 Q pJ x):=by
 refine ay.A5 (Pe x) (by delta Bk;exact rfl) ?_;obtain⟨⟨w,s,c1,c2,y,room⟩,t⟩:=x;dsimp only at hw hs hc ht ⊢;have hr:Rel 9223372036854775808 t:=⟨.inl ht,ht⟩
 have ez:=ZB.zero;refine⟨hr,λh1=>⟨(c1,c2),hc,λ_=>rfl,rfl,rfl,aa.refl _,aa.refl _⟩,λh1=>⟨ht,λh2=>⟨(⟨w,s,c1,c2,y,room⟩,af t),⟨hw,hs,hc,trivial⟩,rfl,rfl,rfl,⟨rfl,rfl⟩,rfl,⟨rfl,rfl⟩,aa.refl _,aa.refl _,aa.refl _,rfl,aa.refl _,aa.refl _,λh3 c hc=>⟨λ_=>⟨c,hc,λ_=>rfl,rfl,rfl,⟨rfl,rfl⟩,rfl,⟨rfl,rfl⟩,aa.refl _,aa.refl _,aa.refl _,aa.refl _,aa.refl _⟩,λh4=> ?_⟩,λh3 c=>⟨λh4=> ?_,λh4=>⟨c,ez,aa.refl _⟩⟩⟩,λh2=>⟨(_,_),ez,nL⟩⟩⟩
 ·rw[show cL w (af t)=C from h3] at h4;cases h4
 ·rw[show cL w (af t)=d from h3] at h4;cases h4
end
theorem LP:ax J 132 (cM pJ) :=fT (n:=20) Tryz.func132 (by kernel_rfl) (by kernel_rfl) pJ λx hx=>⟨PC,adm,rfl,DL hx.1 hx.2.1 hx.2.2.1 hx.2.2.2⟩
end
section
open Go Sx
set_option maxRecDepth 20000
def AP (m:Nat):gP:=sbC (Nd×f_) (λy=>[y.1.sv,.str d y.2]) (λg y=>g.s.Fit (g.s.lk+1)/\401<=g.s.lk+m/\y.1.lZ/\y.2.length<=13*g.s.lk) λg y=>.fork (fC g.w m g.s y.1 y.2) λb=>match b with
 | true=>aeE .aC g (bz g.w m g.s y.1 y.2)
 | false=>OM λv=>v
def aau (g:vf)(x:Nd)(p:f_):aY :={α:=Nat,pre:=λ_ c2=>(g.s.jm g.w x p).fs.length<=c2,kH:=λ_ _=>0,fresh:=1,slots:=λ_ _=>[],mem:=λst c2=>[(0,abK g.w (g.s.jm g.w x p) 2 st.nx g.c1 c2),(st.nx,dH (g.s.jm g.w x p) c2)],drop:=λ_=>[3]}
def acP (m:Nat)(g:vf)(x:Nd)(p:f_):aY :=
 {α:=Nat×Wk×Nat×Nat,pre:=λ_ y=>y.1<=16/\cA g.w (lQ g.w m) x p y.1 (g.s.jm g.w x p)=H y.2.1/\y.2.1.ns.length<=y.2.2.1/\y.2.1.fs.length<=y.2.2.2,kH:=λ_ y=>16-y.1,fresh:=2,slots:=λ_ y=>[(10,.int .i64 d y.1)],
  mem:=λst y=>[(0,abK g.w y.2.1 st.nx (st.nx+1) y.2.2.1 y.2.2.2),(1,ff y.2.1),(st.nx,dY y.2.1 y.2.2.1),(st.nx+1,dH y.2.1 y.2.2.2)],drop:=Q5}
noncomputable def H7 (m:Nat):List (FuncId×PT):=(84,cM (AP m))::(132,cM pJ)::(43,bn Bh)::(42,bn tT)::(130,bY xq)::ND
noncomputable def Vg (m:Nat)(g:vf)(x:Nd)(p:f_):fD:={cv with cT:=λf=>aD f (H7 m),aW:=λf=>if f=171 then [(1,always (acP m g x p)),(105007,Kk x p)] else if f=84 then [(104009,always (aau g x p))] else []}
theorem Mp (m:Nat)(x:vf×Nd×f_):dB (.n (.s 1 .k) (.s 0 (.n (.s 0 (.n (.s 0 (.n (.s 0 (.n (.s 12 (.n .k (.n (.s 0 .k) (.s 0 (.n .k .t))))) (.s 6 (.n .k (.n (.s 0 .k) (.s 0 (.n .k .t))))))) (.s 6 (.n .k (.n (.s 0 .k) (.s 0 (.n .k .t))))))) (.s 6 (.n .k (.n (.s 0 .k) (.s 0 (.n .k .t))))))) (.n (.s 0 (.n .k (.s 3 (.n (.s 0 .k) (.s 0 (.n .k (.n (.s 0 .k) (.s 0 (.m 2 (.n .k .t)))))))))) (.n (.s 0 (.n (.s 1 (.n .k (.s 3 (.n (.s 0 .k) (.s 0 (.n .k (.n (.s 0 .k) (.s 0 (.m 2 (.n .k .t)))))))))) (.s 0 (.n (.n (.s 1 (.n .k (.s 1 (.n .k (.n .k .t))))) (.s 0 (.n .k (.s 1 (.n .k (.n .k .t)))))) (.s 0 (.n (.s 2 (.n .k (.s 0 (.m 2 (.s 0 (.n (.s 0 .k) (.s 0 (.n .k (.n (.s 0 .k) (.s 0 (.m 3 (.s 0 (.m 3 (.n (.s 1 (.m 20 (.s 0 (.m 2 (.s 0 (.n (.s 0 .k) (.s 0 (.n .k (.n (.s 0 .k) (.s 0 (.m 3 (.s 0 (.m 3 (.n (.s 1 (.n .k (.s 0 (.m 2 (.s 0 (.n (.s 0 .k) (.s 0 (.n .k (.n (.s 0 .k) (.s 0 (.m 3 (.s 6 (.n .k (.n .k .t)))))))))))))) (.s 1 .k))))))))))))))) (.n (.n (.s 1 (.m 20 (.s 0 (.m 2 (.s 0 (.n (.s 0 .k) (.s 0 (.n .k (.n (.s 0 .k) (.s 0 (.m 3 (.s 0 (.m 3 (.n (.s 1 (.n .k (.s 0 (.m 2 (.s 0 (.n (.s 0 .k) (.s 0 (.n .k (.n (.s 0 .k) (.s 0 (.m 3 (.s 6 (.n .k (.n .k .t)))))))))))))) (.s 1 .k))))))))))))))) (.s 1 .k)) (.s 1 .k)))))))))))))))) (.s 1 (.n .k (.s 3 (.n (.s 0 .k) (.s 0 (.n .k (.n (.s 0 .k) (.s 0 (.m 2 (.n .k .t)))))))))))))))) (.n (.s 4 (.n (.s 0 .k) (.s 0 (.n .k (.n (.s 0 .k) (.s 0 (.m 2 (.n .k .t)))))))) .t)))))) (runM (Vg m x.1 x.2.1 x.2.2) 84 L (AP (m+1)) x) ((λf:(vf×f_)->Nd=>((λq:(Nat×Wk×Nat×Nat)->SB=>((λu:(Nat×Wk×Nat×Nat)->SB=>((λT:SB=>((Fk (400<=(x.1.s.lk:Int)) (Bk (fC x.1.w (m+1) x.1.s x.2.1 x.2.2) (∃(U:Nat×Nat),((bz x.1.w (m+1) x.1.s x.2.1 x.2.2).ns.length<=U.1/\(bz x.1.w (m+1) x.1.s x.2.1 x.2.2).fs.length<=U.2)/\False) (∃(V:f_×f_),aa (SB.cells [SV.str C [(116:UInt8),(111:UInt8),(111:UInt8),(32:UInt8),(109:UInt8),(97:UInt8),(110:UInt8),(121:UInt8),(32:UInt8),(110:UInt8),(111:UInt8),(100:UInt8),(101:UInt8),(115:UInt8)],SV.str C []] 2 207) (SB.cells [SV.str d V.1,SV.str d V.2] 2 207))) (I6 ((x.1.s.lk:Int)+1)/\((x.2.2.length:Int)+(x.2.1.p.length:Int)<=9223372036854775807/\Bk (!decide (x.2.1.v=[])) ((x.1.w.fr.length<=1000/\x.1.w.to.length<=1000)/\Bk (hasB x.1.w.fr x.1.w.to (cat x.2.2 x.2.1.p)) ((cat x.2.2 x.2.1.p).length<1099511627776/\Bk (oS (cat x.2.2 x.2.1.p)) (H T=H T/\H (SB.cells [SV.ptr 0 C 0] 1 82)=H (SB.cells [SV.ptr 0 C 0] 1 82)/\H (SB.cells [SV.ptr 0 C 0] 1 82)=H (SB.cells [SV.ptr 0 C 0] 1 82)/\(0+x.1.s.fs.length<=x.1.s.fs.length/\True/\2*(x.1.s.fs.length+1)*32<=(281474976710656:Nat)/\x.1.s.fs.length+1<(9223372036854775808:Nat))/\∀(K:Nat),x.1.s.fs.length+1<=K->H (SB.cells [SV.ptr 0 C 0] 1 82)=H (SB.cells [SV.ptr 0 C 0] 1 82)/\∃(M:Nat),(if fe x.1.w x.2.1 x.2.2=C then x.1.s.fs++[(br (cat x.2.2 x.2.1.p),x.2.1.v)] else x.1.s.fs).length<=M/\(x.1.s.lk:Int)+1=(↑(x.1.s.lk+1):Int)/\(x.1.s.fs.length+1=(if fe x.1.w x.2.1 x.2.2=C then x.1.s.fs++[(br (cat x.2.2 x.2.1.p),x.2.1.v)] else x.1.s.fs).length/\K=M)/\aa (SB.rows C (x.1.s.fs.length+1) [av.str λN=>if N<x.1.s.fs.length then(x.1.s.fs.getD N ([],[])).1 else ck [br (cat x.2.2 x.2.1.p)] (N-x.1.s.fs.length),av.str λO=>if O<x.1.s.fs.length then(x.1.s.fs.getD O ([],[])).2 else ck [x.2.1.v] (O-x.1.s.fs.length)] d (K*2) 50) (dH (Wk.jm x.1.w x.1.s x.2.1 x.2.2) M)) (∃(P:Nat),(if fe x.1.w x.2.1 x.2.2=C then x.1.s.fs++[(br (cat x.2.2 x.2.1.p),x.2.1.v)] else x.1.s.fs).length<=P/\(x.1.s.lk:Int)+1=(↑(x.1.s.lk+1):Int)/\(x.1.s.fs.length=(if fe x.1.w x.2.1 x.2.2=C then x.1.s.fs++[(br (cat x.2.2 x.2.1.p),x.2.1.v)] else x.1.s.fs).length/\x.1.c2=P)/\aa (SB.rows C x.1.s.fs.length [bU x.1.s.fs,bV x.1.s.fs] d (x.1.c2*2) 50) (dH (Wk.jm x.1.w x.1.s x.2.1 x.2.2) P))) (∃(Q:Nat),(if fe x.1.w x.2.1 x.2.2=C then x.1.s.fs++[(br (cat x.2.2 x.2.1.p),x.2.1.v)] else x.1.s.fs).length<=Q/\(x.1.s.lk:Int)+1=(↑(x.1.s.lk+1):Int)/\(x.1.s.fs.length=(if fe x.1.w x.2.1 x.2.2=C then x.1.s.fs++[(br (cat x.2.2 x.2.1.p),x.2.1.v)] else x.1.s.fs).length/\x.1.c2=Q)/\aa (SB.rows C x.1.s.fs.length [bU x.1.s.fs,bV x.1.s.fs] d (x.1.c2*2) 50) (dH (Wk.jm x.1.w x.1.s x.2.1 x.2.2) Q))) (∃(R:Nat),(if fe x.1.w x.2.1 x.2.2=C then x.1.s.fs++[(br (cat x.2.2 x.2.1.p),x.2.1.v)] else x.1.s.fs).length<=R/\(x.1.s.lk:Int)+1=(↑(x.1.s.lk+1):Int)/\(x.1.s.fs.length=(if fe x.1.w x.2.1 x.2.2=C then x.1.s.fs++[(br (cat x.2.2 x.2.1.p),x.2.1.v)] else x.1.s.fs).length/\x.1.c2=R)/\aa (SB.rows C x.1.s.fs.length [bU x.1.s.fs,bV x.1.s.fs] d (x.1.c2*2) 50) (dH (Wk.jm x.1.w x.1.s x.2.1 x.2.2) R)))/\∀(S:Nat),(if fe x.1.w x.2.1 x.2.2=C then x.1.s.fs++[(br (cat x.2.2 x.2.1.p),x.2.1.v)] else x.1.s.fs).length<=S->∀(_u42:Loop),(∃(o:Nat×Wk×Nat×Nat),(o.1<=16/\cA x.1.w (lQ x.1.w m) x.2.1 x.2.2 o.1 (Wk.jm x.1.w x.1.s x.2.1 x.2.2)=H o.2.1/\o.2.1.ns.length<=o.2.2.1/\o.2.1.fs.length<=o.2.2.2)/\0=(o.1:Int)/\(x.1.s.ns.length=o.2.1.ns.length/\x.1.c1=o.2.2.1)/\(↑(x.1.s.lk+1):Int)=(o.2.1.lk:Int)/\((if fe x.1.w x.2.1 x.2.2=C then x.1.s.fs++[(br (cat x.2.2 x.2.1.p),x.2.1.v)] else x.1.s.fs).length=o.2.1.fs.length/\S=o.2.2.2)/\aa (SB.fmap x.1.s.ud (aE.int I x.1.s.us) F) (ff o.2.1)/\aa (SB.rows C x.1.s.ns.length [jz x.1.s.ns] d (x.1.c1*1) 9) (dY o.2.1 o.2.2.1)/\aa (SB.rows C (if fe x.1.w x.2.1 x.2.2=C then x.1.s.fs++[(br (cat x.2.2 x.2.1.p),x.2.1.v)] else x.1.s.fs).length [bU (if fe x.1.w x.2.1 x.2.2=C then x.1.s.fs++[(br (cat x.2.2 x.2.1.p),x.2.1.v)] else x.1.s.fs),bV (if fe x.1.w x.2.1 x.2.2=C then x.1.s.fs++[(br (cat x.2.2 x.2.1.p),x.2.1.v)] else x.1.s.fs)] d (S*2) 50) (dH o.2.1 o.2.2.2))/\∀(e:Nat×Wk×Nat×Nat),e.1<=16/\cA x.1.w (lQ x.1.w m) x.2.1 x.2.2 e.1 (Wk.jm x.1.w x.1.s x.2.1 x.2.2)=H e.2.1/\e.2.1.ns.length<=e.2.2.1/\e.2.1.fs.length<=e.2.2.2->Fk ((e.1:Int)<16) ((0<=(e.1:Int)/\(e.1:Int)<16/\(e.1:Int)<(↑(16:Nat):Int))/\Fk (ck (c9 x.2.1.r []) (e.1:Int).toNat=[]) (I6 ((e.1:Int)+1)/\∃(h:Nat×Wk×Nat×Nat),((h.1<=16/\cA x.1.w (lQ x.1.w m) x.2.1 x.2.2 h.1 (Wk.jm x.1.w x.1.s x.2.1 x.2.2)=H h.2.1/\h.2.1.ns.length<=h.2.2.1/\h.2.1.fs.length<=h.2.2.2)/\16-h.1<16-e.1)/\(e.1:Int)+1=(h.1:Int)/\(e.2.1.ns.length=h.2.1.ns.length/\e.2.2.1=h.2.2.1)/\(e.2.1.lk:Int)=(h.2.1.lk:Int)/\(e.2.1.fs.length=h.2.1.fs.length/\e.2.2.2=h.2.2.2)/\aa (SB.fmap e.2.1.ud (aE.int I e.2.1.us) F) (ff h.2.1)/\aa (u e) (dY h.2.1 h.2.2.1)/\aa (q e) (dH h.2.1 h.2.2.2)) ((x.2.2.length:Int)+(x.2.1.p.length:Int)<=9223372036854775807/\(Fk (x.2.1.k=3) ((↑(cat x.2.2 x.2.1.p).length:Int)+(↑(1:Nat):Int)<=9223372036854775807/\∃(_u38:Unit),True/\cat (cat x.2.2 x.2.1.p) [UInt8.ofNat ((e.1:Int)%256).toNat]=eV x.2.1 x.2.2 (e.1:Int).toNat/\aa (u e) (dY e.2.1 e.2.2.1)/\aa (q e) (dH e.2.1 e.2.2.2)) (∃(_u37:Unit),True/\cat x.2.2 x.2.1.p=eV x.2.1 x.2.2 (e.1:Int).toNat/\aa (u e) (dY e.2.1 e.2.2.1)/\aa (q e) (dH e.2.1 e.2.2.2)))/\∀(_u36:Unit),True->(x.1.w.fr.length<=1000/\x.1.w.to.length<=1000)/\Bk (bW x.1.w.fr x.1.w.to (eV x.2.1 x.2.2 (e.1:Int).toNat)) (∃(a:vf×f_),(BG a.1.w a.1.y/\a.1.s.Small/\(a.1.s.ns.length<=a.1.c1/\a.1.s.fs.length<=a.1.c2)/\a.2.length<9223372036854775808)/\ck (c9 x.2.1.r []) (e.1:Int).toNat=a.2/\x.1.w.fr=a.1.w.fr/\x.1.w.to=a.1.w.to/\(e.2.1.ns.length=a.1.s.ns.length/\e.2.2.1=a.1.c1)/\(e.2.1.lk:Int)=(a.1.s.lk:Int)/\(e.2.1.fs.length=a.1.s.fs.length/\e.2.2.2=a.1.c2)/\aa (SB.fmap e.2.1.ud (aE.int I e.2.1.us) F) (ff a.1.s)/\aa (u e) (dY a.1.s a.1.c1)/\aa (q e) (dH a.1.s a.1.c2)/\x.1.room=a.1.room/\aa (SB.fmap x.1.w.ad (aE.ref 6 x.1.y.g) F) (SB.fmap a.1.w.ad (aE.ref 6 a.1.y.g) F)/\aa (SB.eD x.1.y.A.D [av.str x.1.y.A.dm] 4 133 C) a.1.y.A.rK/\Bk (bH a.2) (∀(z:Nat×Nat),a.1.s.ns.length<=z.1/\a.1.s.fs.length<=z.2->∃(b:vf×Nd×f_),(BG b.1.w b.1.y/\b.1.s.Small/\(b.1.s.ns.length<=b.1.c1/\b.1.s.fs.length<=b.1.c2)/\b.1.s.Fit (b.1.s.lk+1)/\401<=b.1.s.lk+m/\b.2.1.lZ/\b.2.2.length<=13*b.1.s.lk)/\(getD a.2).k=b.2.1.k/\(getD a.2).p=b.2.1.p/\(getD a.2).v=b.2.1.v/\(getD a.2).r 0=b.2.1.r 0/\(getD a.2).r 1=b.2.1.r 1/\(getD a.2).r 2=b.2.1.r 2/\(getD a.2).r 3=b.2.1.r 3/\(getD a.2).r 4=b.2.1.r 4/\(getD a.2).r 5=b.2.1.r 5/\(getD a.2).r 6=b.2.1.r 6/\(getD a.2).r 7=b.2.1.r 7/\(getD a.2).r 8=b.2.1.r 8/\(getD a.2).r 9=b.2.1.r 9/\(getD a.2).r 10=b.2.1.r 10/\(getD a.2).r 11=b.2.1.r 11/\(getD a.2).r 12=b.2.1.r 12/\(getD a.2).r 13=b.2.1.r 13/\(getD a.2).r 14=b.2.1.r 14/\(getD a.2).r 15=b.2.1.r 15/\eV x.2.1 x.2.2 (e.1:Int).toNat=b.2.2/\a.1.w.fr=b.1.w.fr/\a.1.w.to=b.1.w.to/\(a.1.s.ns.length=b.1.s.ns.length/\z.1=b.1.c1)/\(a.1.s.lk:Int)=(b.1.s.lk:Int)/\(a.1.s.fs.length=b.1.s.fs.length/\z.2=b.1.c2)/\aa (SB.fmap a.1.s.ud (aE.int I a.1.s.us) F) (ff b.1.s)/\aa (SB.rows C a.1.s.ns.length [av.str λa8=>a.1.s.ns.getD a8 []] d (z.1*1) 9) (dY b.1.s b.1.c1)/\aa (SB.rows C a.1.s.fs.length [av.str λa9=>(a.1.s.fs.getD a9 ([],[])).1,av.str λa_=>(a.1.s.fs.getD a_ ([],[])).2] d (z.2*2) 50) (dH b.1.s b.1.c2)/\a.1.room=b.1.room/\aa (SB.fmap a.1.w.ad (aE.ref 6 a.1.y.g) F) (SB.fmap b.1.w.ad (aE.ref 6 b.1.y.g) F)/\aa (SB.eD x.1.y.A.D [av.str x.1.y.A.dm] 4 133 C) b.1.y.A.rK/\Bk (fC b.1.w m b.1.s b.2.1 b.2.2) (∀(B:Nat×Nat),(bz b.1.w m b.1.s b.2.1 b.2.2).ns.length<=B.1/\(bz b.1.w m b.1.s b.2.1 b.2.2).fs.length<=B.2->I6 ((e.1:Int)+1)/\∃(i:Nat×Wk×Nat×Nat),((i.1<=16/\cA x.1.w (lQ x.1.w m) x.2.1 x.2.2 i.1 (Wk.jm x.1.w x.1.s x.2.1 x.2.2)=H i.2.1/\i.2.1.ns.length<=i.2.2.1/\i.2.1.fs.length<=i.2.2.2)/\16-i.1<16-e.1)/\(e.1:Int)+1=(i.1:Int)/\b.1.w.fr=x.1.w.fr/\b.1.w.to=x.1.w.to/\((bz b.1.w m b.1.s b.2.1 b.2.2).ns.length=i.2.1.ns.length/\B.1=i.2.2.1)/\(↑(bz b.1.w m b.1.s b.2.1 b.2.2).lk:Int)=(i.2.1.lk:Int)/\((bz b.1.w m b.1.s b.2.1 b.2.2).fs.length=i.2.1.fs.length/\B.2=i.2.2.2)/\aa (SB.fmap (bz b.1.w m b.1.s b.2.1 b.2.2).ud (aE.int I (bz b.1.w m b.1.s b.2.1 b.2.2).us) F) (ff i.2.1)/\aa (SB.rows C (bz b.1.w m b.1.s b.2.1 b.2.2).ns.length [av.str λb0=>(bz b.1.w m b.1.s b.2.1 b.2.2).ns.getD b0 []] d (B.1*1) 9) (dY i.2.1 i.2.2.1)/\aa (SB.rows C (bz b.1.w m b.1.s b.2.1 b.2.2).fs.length [av.str λb1=>((bz b.1.w m b.1.s b.2.1 b.2.2).fs.getD b1 ([],[])).1,av.str λb2=>((bz b.1.w m b.1.s b.2.1 b.2.2).fs.getD b2 ([],[])).2] d (B.2*2) 50) (dH i.2.1 i.2.2.2)/\aa (SB.cells [SV.int .i64 d b.1.room,SV.map 5] 2 126) (fA x.1.room 5)/\aa (SB.fmap b.1.w.ad (aE.ref 6 b.1.y.g) F) (SB.fmap x.1.w.ad (aE.ref 6 x.1.y.g) F)) (∀(W:f_×f_),Bk (fC x.1.w (m+1) x.1.s x.2.1 x.2.2) (∃(X:Nat×Nat),((bz x.1.w (m+1) x.1.s x.2.1 x.2.2).ns.length<=X.1/\(bz x.1.w (m+1) x.1.s x.2.1 x.2.2).fs.length<=X.2)/\False) (∃(Y:f_×f_),aa (SB.cells [SV.str d W.1,SV.str d W.2] 2 207) (SB.cells [SV.str d Y.1,SV.str d Y.2] 2 207)))) (Bk (bw a.2) (Bk (cL a.1.w (af a.2)) (∀(E:Nat×Nat),(if a.1.s.used (af a.2)=0 then a.1.s.ns++[a.1.w.at (af a.2)] else a.1.s.ns).length<=E.1/\a.1.s.fs.length<=E.2->∃(c:vf×Nd×f_),(BG c.1.w c.1.y/\c.1.s.Small/\(c.1.s.ns.length<=c.1.c1/\c.1.s.fs.length<=c.1.c2)/\c.1.s.Fit (c.1.s.lk+1)/\401<=c.1.s.lk+m/\c.2.1.lZ/\c.2.2.length<=13*c.1.s.lk)/\(f a).k=c.2.1.k/\(f a).p=c.2.1.p/\(f a).v=c.2.1.v/\(f a).r 0=c.2.1.r 0/\(f a).r 1=c.2.1.r 1/\(f a).r 2=c.2.1.r 2/\(f a).r 3=c.2.1.r 3/\(f a).r 4=c.2.1.r 4/\(f a).r 5=c.2.1.r 5/\(f a).r 6=c.2.1.r 6/\(f a).r 7=c.2.1.r 7/\(f a).r 8=c.2.1.r 8/\(f a).r 9=c.2.1.r 9/\(f a).r 10=c.2.1.r 10/\(f a).r 11=c.2.1.r 11/\(f a).r 12=c.2.1.r 12/\(f a).r 13=c.2.1.r 13/\(f a).r 14=c.2.1.r 14/\(f a).r 15=c.2.1.r 15/\eV x.2.1 x.2.2 (e.1:Int).toNat=c.2.2/\a.1.w.fr=c.1.w.fr/\a.1.w.to=c.1.w.to/\((if a.1.s.used (af a.2)=0 then a.1.s.ns++[a.1.w.at (af a.2)] else a.1.s.ns).length=c.1.s.ns.length/\E.1=c.1.c1)/\(a.1.s.lk:Int)=(c.1.s.lk:Int)/\(a.1.s.fs.length=c.1.s.fs.length/\E.2=c.1.c2)/\aa (SB.fmap (dZ a.1.s.ud (af a.2)) (aE.int I (gA a.1.s.us (af a.2) (a.1.s.used (af a.2)+1))) F) (ff c.1.s)/\aa (SB.rows C (if a.1.s.used (af a.2)=0 then a.1.s.ns++[a.1.w.at (af a.2)] else a.1.s.ns).length [av.str λb3=>(if a.1.s.used (af a.2)=0 then a.1.s.ns++[a.1.w.at (af a.2)] else a.1.s.ns).getD b3 []] d (E.1*1) 9) (dY c.1.s c.1.c1)/\aa (SB.rows C a.1.s.fs.length [av.str λb4=>(a.1.s.fs.getD b4 ([],[])).1,av.str λb5=>(a.1.s.fs.getD b5 ([],[])).2] d (E.2*2) 50) (dH c.1.s c.1.c2)/\a.1.room=c.1.room/\aa (SB.fmap a.1.w.ad (aE.ref 6 a.1.y.g) F) (SB.fmap c.1.w.ad (aE.ref 6 c.1.y.g) F)/\aa (SB.eD x.1.y.A.D [av.str x.1.y.A.dm] 4 133 C) c.1.y.A.rK/\Bk (fC c.1.w m c.1.s c.2.1 c.2.2) (∀(G:Nat×Nat),(bz c.1.w m c.1.s c.2.1 c.2.2).ns.length<=G.1/\(bz c.1.w m c.1.s c.2.1 c.2.2).fs.length<=G.2->I6 ((e.1:Int)+1)/\∃(j:Nat×Wk×Nat×Nat),((j.1<=16/\cA x.1.w (lQ x.1.w m) x.2.1 x.2.2 j.1 (Wk.jm x.1.w x.1.s x.2.1 x.2.2)=H j.2.1/\j.2.1.ns.length<=j.2.2.1/\j.2.1.fs.length<=j.2.2.2)/\16-j.1<16-e.1)/\(e.1:Int)+1=(j.1:Int)/\c.1.w.fr=x.1.w.fr/\c.1.w.to=x.1.w.to/\((bz c.1.w m c.1.s c.2.1 c.2.2).ns.length=j.2.1.ns.length/\G.1=j.2.2.1)/\(↑(bz c.1.w m c.1.s c.2.1 c.2.2).lk:Int)=(j.2.1.lk:Int)/\((bz c.1.w m c.1.s c.2.1 c.2.2).fs.length=j.2.1.fs.length/\G.2=j.2.2.2)/\aa (SB.fmap (bz c.1.w m c.1.s c.2.1 c.2.2).ud (aE.int I (bz c.1.w m c.1.s c.2.1 c.2.2).us) F) (ff j.2.1)/\aa (SB.rows C (bz c.1.w m c.1.s c.2.1 c.2.2).ns.length [av.str λb6=>(bz c.1.w m c.1.s c.2.1 c.2.2).ns.getD b6 []] d (G.1*1) 9) (dY j.2.1 j.2.2.1)/\aa (SB.rows C (bz c.1.w m c.1.s c.2.1 c.2.2).fs.length [av.str λb7=>((bz c.1.w m c.1.s c.2.1 c.2.2).fs.getD b7 ([],[])).1,av.str λb8=>((bz c.1.w m c.1.s c.2.1 c.2.2).fs.getD b8 ([],[])).2] d (G.2*2) 50) (dH j.2.1 j.2.2.2)/\aa (SB.cells [SV.int .i64 d c.1.room,SV.map 5] 2 126) (fA x.1.room 5)/\aa (SB.fmap c.1.w.ad (aE.ref 6 c.1.y.g) F) (SB.fmap x.1.w.ad (aE.ref 6 x.1.y.g) F)) (∀(Z:f_×f_),Bk (fC x.1.w (m+1) x.1.s x.2.1 x.2.2) (∃(a0:Nat×Nat),((bz x.1.w (m+1) x.1.s x.2.1 x.2.2).ns.length<=a0.1/\(bz x.1.w (m+1) x.1.s x.2.1 x.2.2).fs.length<=a0.2)/\False) (∃(u9:f_×f_),aa (SB.cells [SV.str d Z.1,SV.str d Z.2] 2 207) (SB.cells [SV.str d u9.1,SV.str d u9.2] 2 207)))) (∀(u8:f_×f_),Bk (fC x.1.w (m+1) x.1.s x.2.1 x.2.2) (∃(u7:Nat×Nat),((bz x.1.w (m+1) x.1.s x.2.1 x.2.2).ns.length<=u7.1/\(bz x.1.w (m+1) x.1.s x.2.1 x.2.2).fs.length<=u7.2)/\False) (∃(u6:f_×f_),aa (SB.cells [SV.str d u8.1,SV.str d u8.2] 2 207) (SB.cells [SV.str d u6.1,SV.str d u6.2] 2 207)))) (∀(u5:f_×f_),Bk (fC x.1.w (m+1) x.1.s x.2.1 x.2.2) (∃(u4:Nat×Nat),((bz x.1.w (m+1) x.1.s x.2.1 x.2.2).ns.length<=u4.1/\(bz x.1.w (m+1) x.1.s x.2.1 x.2.2).fs.length<=u4.2)/\False) (∃(u3:f_×f_),aa (SB.cells [SV.str d u5.1,SV.str d u5.2] 2 207) (SB.cells [SV.str d u3.1,SV.str d u3.2] 2 207))))) (I6 ((e.1:Int)+1)/\∃(l:Nat×Wk×Nat×Nat),((l.1<=16/\cA x.1.w (lQ x.1.w m) x.2.1 x.2.2 l.1 (Wk.jm x.1.w x.1.s x.2.1 x.2.2)=H l.2.1/\l.2.1.ns.length<=l.2.2.1/\l.2.1.fs.length<=l.2.2.2)/\16-l.1<16-e.1)/\(e.1:Int)+1=(l.1:Int)/\(e.2.1.ns.length=l.2.1.ns.length/\e.2.2.1=l.2.2.1)/\(e.2.1.lk:Int)=(l.2.1.lk:Int)/\(e.2.1.fs.length=l.2.1.fs.length/\e.2.2.2=l.2.2.2)/\aa (SB.fmap e.2.1.ud (aE.int I e.2.1.us) F) (ff l.2.1)/\aa (u e) (dY l.2.1 l.2.2.1)/\aa (q e) (dH l.2.1 l.2.2.2)))) (Bk (fC x.1.w (m+1) x.1.s x.2.1 x.2.2) (∃(J:Nat×Nat),((bz x.1.w (m+1) x.1.s x.2.1 x.2.2).ns.length<=J.1/\(bz x.1.w (m+1) x.1.s x.2.1 x.2.2).fs.length<=J.2)/\(e.2.1.ns.length=(bz x.1.w (m+1) x.1.s x.2.1 x.2.2).ns.length/\e.2.2.1=J.1)/\(e.2.1.lk:Int)=(↑(bz x.1.w (m+1) x.1.s x.2.1 x.2.2).lk:Int)/\(e.2.1.fs.length=(bz x.1.w (m+1) x.1.s x.2.1 x.2.2).fs.length/\e.2.2.2=J.2)/\aa (SB.fmap e.2.1.ud (aE.int I e.2.1.us) F) (ff (bz x.1.w (m+1) x.1.s x.2.1 x.2.2))/\aa (u e) (dY (bz x.1.w (m+1) x.1.s x.2.1 x.2.2) J.1)/\aa (q e) (dH (bz x.1.w (m+1) x.1.s x.2.1 x.2.2) J.2)) (∃(_u0:f_×f_),False)))))) (SB.cells [SV.str d x.1.w.fr,SV.str d x.1.w.to,SV.func (Fn.func (47:FuncId)) [SV.ptr 4 C 0] [],SV.map 1,SV.aX 2 1 C 0 x.1.s.ns.length x.1.c1,SV.int .i64 d ((x.1.s.lk:Int)+1),SV.aX 3 2 C 0 x.1.s.fs.length x.1.c2] 7 92))) (fun(e:Nat×Wk×Nat×Nat)=>(SB.rows C e.2.1.ns.length [jz e.2.1.ns] d (e.2.2.1*1) 9)))) (fun(e:Nat×Wk×Nat×Nat)=>(SB.rows C e.2.1.fs.length [bU e.2.1.fs,bV e.2.1.fs] d (e.2.2.2*2) 50)))) (fun(a:vf×f_)=>(getD (a.1.w.at (af a.2))))):=⟨by kernel_rfl,by kernel_rfl⟩
section
attribute [local irreducible] bG getD bH bw af cL bW hasB oS au br eV lQ fC bz cA Wk.used
set_option maxHeartbeats 4000000 in
theorem A6 {x:vf×Nd×f_}(hx:(AP (m+1)).pre x):ay (runM (Vg m x.1 x.2.1 x.2.2) 84 L (AP (m+1)) x):=by
 refine ay.A5 (Mp m x) (by delta Bk Fk;exact rfl) ?_;obtain⟨⟨w,s,c1,c2,yy,room⟩,y,p⟩:=x;obtain⟨hw,_,⟨hc1,hc2⟩,hf,hm,hy,hp⟩:=hx;dsimp only at hw hc1 hc2 hf hm hy hp ⊢;have hm:401<=s.lk+(m+1):=hm;have hyp:=hy.p;have hcat:(cat p y.p).length=p.length+y.p.length:=by unfold cat;simp
 have hlk:=hf.lk;have hfs:=hf.fs;have hns:=hf.ns;by_cases hl:400<=s.lk
 ·have hB:fC w (m+1) s y p=false:=by unfold fC lQ;rw[r_ hl];rfl
  rw[hB,n_ (show(400:Int)<=(s.lk:Int)by omega)];exact⟨λ_=>⟨(λh=>by cases h),λ_=>⟨(_,_),J8⟩⟩,(λh=>by cases h)⟩
 refine⟨λh=>absurd (l_ h) (by omega),λ_=>⟨⟨by omega,by omega⟩,⟨by omega,?_⟩,?_⟩⟩
 ·
  have no:fe w y p=d->(s.jm w y p).fs=s.fs:=λh=>by show(if fe w y p=C then _ else _)=_;rw[h];rfl
  have yes:fe w y p=C->(s.jm w y p).fs=s.fs++[(br (cat p y.p),y.v)]:=λh=>by show(if fe w y p=C then _ else _)=_;rw[h];rfl
  have eb:fe w y p=(!decide (y.v=[])&&(hasB w.fr w.to (cat p y.p)&&oS (cat p y.p))):=rfl;have le0:fe w y p=d->aa (SB.rows C s.fs.length [bU s.fs,bV s.fs] d (c2*2) 50) (dH (s.jm w y p) c2):=λh=>by unfold dH;rw[no h];exact aa.refl _
  have le1:fe w y p=C->∀ c,aa (SB.rows C (s.fs.length+1) [.str λj=>if j<s.fs.length then(s.fs.getD j ([],[])).1 else ck [br (cat p y.p)] (j-s.fs.length),.str λj=>if j<s.fs.length then(s.fs.getD j ([],[])).2 else ck [y.v] (j-s.fs.length)] d (c*2) 50) (dH (s.jm w y p) c):=λh c=>by unfold dH;rw[yes h];exact Qi
  have wfr:=hw.fr;have wto:=hw.to;refine⟨λhv=>⟨⟨wfr,wto⟩,λhh=>⟨by omega,λhk=> ?_,λhk=> ?_⟩,λhh=> ?_⟩,λhv=> ?_⟩
  ·rw[hv,hh,hk] at eb;have l1:=le1 eb;refine⟨rfl,rfl,rfl,⟨by omega,trivial,by omega,by omega⟩,λc hc=>⟨rfl,⟨c,?_⟩⟩⟩;rw[r_ (show fe w y p=C from eb),V]
   exact⟨hc,by omega,⟨rfl,rfl⟩,l1 c⟩
  all_goals
   first
    | rw[hv,hh,hk] at eb
    | rw[hv,hh] at eb
    | rw[hv] at eb
   have l0:=le0 (eb.trans (by first | rfl | simp))
   have e0:fe w y p=false:=eb.trans (by first | rfl | simp)
   refine⟨c2,?_⟩;rw[e0];simp only[O,if_false]
   repeat' first
    | exact l0
    | refine And.intro ?_ ?_
    | exact trivial
    | assumption
    | omega
    | fail
 ·intro c2' hc2' R;refine⟨⟨(0,s.jm w y p,c1,c2'),⟨Nat.zero_le _,by unfold cA;rfl,hc1,hc2'⟩,rfl,⟨rfl,rfl⟩,rfl,⟨rfl,rfl⟩,aa.refl _,aa.refl _,aa.refl _⟩,λz hz=> ?_⟩;obtain⟨i,si,d1,d2⟩:=z;obtain⟨hi16,hi,hd1,hd2⟩:=hz;dsimp only at hi16 hi hd1 hd2 ⊢;obtain⟨fi,hlki⟩:=qG (BB w m) (hf.jm (by omega) w y p) hi;have hlki:s.lk+1<=si.lk:=hlki;have fil:=fi.lk;simp only[-eq_self,Int.toNat_natCast];refine⟨λhlt=> ?_,λhlt=> ?_⟩
  ·have hlt:i<16:=by have:=l_ hlt;omega
   simp only[-eq_self,uU y.r hlt];have bad:cA w (lQ w m) y p (i+1) (s.jm w y p)=F->∀(a b:f_),(fC w (m+1) s y p=C->∃(q:Nat×Nat),((bz w (m+1) s y p).ns.length<=q.1/\(bz w (m+1) s y p).fs.length<=q.2)/\False)/\(fC w (m+1) s y p=d->∃(q:f_×f_),aa (SB.cells [SV.str d a,SV.str d b] 2 207) (SB.cells [SV.str d q.1,SV.str d q.2] 2 207)):=λh a b=>by have hB:=Rl hl (sK (by omega:i+1<=16) h);rw[hB];exact⟨(λh=>by cases h),λ_=>⟨(a,b),J7⟩⟩
   have hsuc:i+1<=16:=by omega
   have hmea:16-(i+1)<16-i:=by omega
   have same: ∀ {s':Wk},cA w (lQ w m) y p (i+1) (s.jm w y p)=H s'->s'.ns.length<=d1->s'.fs.length<=d2->((i+1<=16/\cA w (lQ w m) y p (i+1) (s.jm w y p)=H s'/\s'.ns.length<=d1/\s'.fs.length<=d2)/\16-(i+1)<16-i):=λh a b=>⟨⟨hsuc,h,a,b⟩,hmea⟩
   refine⟨⟨by omega,by omega,by omega⟩,λh0=>⟨⟨by omega,by omega⟩,(i+1,si,d1,d2),same ((eJ hi).trans (kV (l_ h0))) hd1 hd2,by omega,⟨rfl,rfl⟩,rfl,⟨rfl,rfl⟩,aa.refl _,aa.refl _,aa.refl _⟩,λh0=> ?_⟩;have h0:=m_ h0;have htl:=Rn hy p i;refine⟨by omega,⟨λh3=>⟨by omega,(),trivial,Yw (l_ h3) i hlt,aa.refl _,aa.refl _⟩,λh3=>⟨(),trivial,by unfold eV;rw[s_ (m_ h3)],aa.refl _,aa.refl _⟩⟩,λ_ _=>⟨⟨hw.fr,hw.to⟩,λhM=> ?_,λhM=>⟨⟨by omega,by omega⟩,(i+1,si,d1,d2),same ((eJ hi).trans (sJ hM)) hd1 hd2,by omega,⟨rfl,rfl⟩,rfl,⟨rfl,rfl⟩,aa.refl _,aa.refl _,aa.refl _⟩⟩⟩;have hrl:(y.r i).length<9223372036854775808:=by
    rcases hy.r i hlt with e | e
    ·exact absurd e h0
    ·have:=nR e;omega
   have go: ∀ {yy:Nd} {s2:Wk},i7 w si (y.r i)=H (yy,s2)->s2.Fit (s2.lk+1)/\(401<=s2.lk+m)/\yy.lZ/\(eV y p i).length<=13*s2.lk/\s2.Small:=λh=>by obtain⟨q1,q2,q3⟩:=zL fi h;exact⟨by rw[q2];exact q1,by omega,gE q3,by omega,q1.small (by omega)⟩
   have on: ∀ {yy:Nd} {s2:Wk},i7 w si (y.r i)=H (yy,s2)->fC w m s2 yy (eV y p i)=C->cA w (lQ w m) y p (i+1) (s.jm w y p)=H (bz w m s2 yy (eV y p i)):=λh hb=>by rw[eJ hi,kL h0 hM h,Jb hb]
   have off: ∀ {yy:Nd} {s2:Wk},i7 w si (y.r i)=H (yy,s2)->fC w m s2 yy (eV y p i)=d->cA w (lQ w m) y p (i+1) (s.jm w y p)=none:=λh hb=>by rw[eJ hi,kL h0 hM h,zT hb]
   refine⟨(⟨w,si,d1,d2,yy,room⟩,y.r i),⟨hw,fi.small (by omega),⟨hd1,hd2⟩,hrl⟩,rfl,rfl,rfl,⟨rfl,rfl⟩,rfl,⟨rfl,rfl⟩,aa.refl _,aa.refl _,aa.refl _,rfl,aa.refl _,aa.refl _,?_⟩;dsimp only;have inn:bH (y.r i)=C->i7 w si (y.r i)=H (getD (y.r i),si):=DQ;have inh:bH (y.r i)=d->bw (y.r i)=C->cL w (af (y.r i))=C->i7 w si (y.r i)=H (getD (w.at (af (y.r i))),si.take w (af (y.r i))):=vY;have inb:bH (y.r i)=d->(bw (y.r i)=d∨cL w (af (y.r i))=d)->cA w (lQ w m) y p (i+1) (s.jm w y p)=none:=λh1 h2=>by rw[eJ hi,xE h0 hM (LX h1 h2)]
   refine⟨λh1 e he=> ?_,λh1=>⟨λh2=>⟨λh3 e he=> ?_,λh3 z=>bad (inb h1 (.inr h3)) _ _⟩,λh2 z=>bad (inb h1 (.inl h2)) _ _⟩⟩
   ·have hfol:=inn h1;obtain⟨g1,g2,g3,g4,g5⟩:=go hfol;refine⟨(⟨w,si,e.1,e.2,yy,room⟩,getD (y.r i),eV y p i),⟨hw,g5,he,g1,g2,g3,g4⟩,rfl,rfl,rfl,rfl,rfl,rfl,rfl,rfl,rfl,rfl,rfl,rfl,rfl,rfl,rfl,rfl,rfl,rfl,rfl,rfl,rfl,rfl,⟨rfl,rfl⟩,rfl,⟨rfl,rfl⟩,aa.refl _,aa.refl _,aa.refl _,rfl,aa.refl _,aa.refl _,?_⟩;dsimp only;exact⟨λhb q hq=>⟨⟨by omega,by omega⟩,(i+1,bz w m si (getD (y.r i)) (eV y p i),q.1,q.2),⟨⟨hsuc,on hfol hb,hq.1,hq.2⟩,hmea⟩,by omega,rfl,rfl,⟨rfl,rfl⟩,rfl,⟨rfl,rfl⟩,aa.refl _,aa.refl _,aa.refl _,aa.refl _,aa.refl _⟩,λhb z=>bad (off hfol hb) _ _⟩
   ·have hfol:=inh h1 h2 h3;obtain⟨g1,g2,g3,g4,g5⟩:=go hfol;refine⟨(⟨w,si.take w (af (y.r i)),e.1,e.2,yy,room⟩,getD (w.at (af (y.r i))),eV y p i),⟨hw,g5,he,g1,g2,g3,g4⟩,rfl,rfl,rfl,rfl,rfl,rfl,rfl,rfl,rfl,rfl,rfl,rfl,rfl,rfl,rfl,rfl,rfl,rfl,rfl,rfl,rfl,rfl,⟨rfl,rfl⟩,rfl,⟨rfl,rfl⟩,aa.refl _,aa.refl _,aa.refl _,rfl,aa.refl _,aa.refl _,?_⟩;dsimp only;exact⟨λhb q hq=>⟨⟨by omega,by omega⟩,(i+1,bz w m (si.take w (af (y.r i))) (getD (w.at (af (y.r i)))) (eV y p i),q.1,q.2),⟨⟨hsuc,on hfol hb,hq.1,hq.2⟩,hmea⟩,by omega,rfl,rfl,⟨rfl,rfl⟩,rfl,⟨rfl,rfl⟩,aa.refl _,aa.refl _,aa.refl _,aa.refl _,aa.refl _⟩,λhb z=>bad (off hfol hb) _ _⟩
  ·have e16:i=16:=by have:=m_ hlt;omega
   subst e16;obtain⟨k1,k2⟩:=Rm hl hi;rw[k1,k2];exact⟨λ_=>⟨(d1,d2),⟨hd1,hd2⟩,⟨rfl,rfl⟩,rfl,⟨rfl,rfl⟩,aa.refl _,aa.refl _,aa.refl _⟩,(λh=>by cases h)⟩
end
end
section
open Go Sx
set_option maxRecDepth 20000
theorem FF (h:ax J 84 (cM (AP m))):bp J (λf=>aD f (H7 m)):=.cons h (cz _) (.cons LP (cz _) (.cons V6 (aS _) (.cons KS (aS _) (.cons QG (bO _) FE))))
theorem L6: ∀ m,ax J 84 (cM (AP m))
 | 0=>fT (n:=20) Y (by kernel_rfl) (by kernel_rfl) (AP 0) λx hx=>by obtain⟨_,_,_,hf,hm,_⟩:=hx;have:=hf.lk;omega
 | m+1=>fT (n:=20) Y (by kernel_rfl) (by kernel_rfl) (AP (m+1)) λx hx=>⟨Vg m x.1 x.2.1 x.2.2,.of bR (FF (L6 m)) bq,rfl,A6 hx⟩
theorem SI (m:Nat):bp J (λf=>aD f (H7 m)):=FF (L6 m)
structure BlG where
 n:Nat
 f:Nat->f_
 g:Nat->f_
 y:uZ
 fr:f_
 to:f_
 root:f_
 room:Int
noncomputable def BlG.ns (x:BlG):List f_:=pV x.fr x.to (aB x.n (λi=>au (x.f i)) x.g)
structure BF (n:Nat)(f g:Nat->f_)(y:uZ):Prop where
 oC:ew n f g=0
 apart:fu (mX n f g).length (iK n f g)=C
 st:rz (mX n f g).length (iK n f g) (aK (iK n f g 0)) y
structure Zx (x:BlG):Prop where
 held:BF x.n x.f x.g x.y
 fr:x.fr.length<=1000
 to:x.to.length<=1000
 root:x.root=cH x.n x.f x.g∨x.root.length≠32
def qg (room:Int)(y:uZ):Mem:=[(0,fA room 1),(1,.fmap (cY y.Fr) (.ref 2 y.g) F)]
noncomputable def wC:gP :=
 {G:=BlG,n:=3,N:=4,pre:=Zx,args:=λx=>[.ptr 0 C 0,.str d x.root,.agg [.str d x.fr,.str d x.to]],mem:=λx=>qg x.room x.y++[(2,x.y.A.rK)],
  wo:=λx=>.fork (decide (x.root=cH x.n x.f x.g)) λb=>match b with
   | false=>.ret (.aN [.aO,.int .i64 C 4]) (qg x.room x.y)
   | true=>.fork (Bo x.fr x.to) λb=>match b with
     | false=>.ret (.aN [.aO,.int .i64 C 1]) (qg x.room x.y)
     | true=>.all Nat λc=>.req (x.ns.length<=c) (.ret (.aN [.aX 3 1 C 0 x.ns.length c,.int .i64 C 0]) (qg x.room x.y++[(3,.rows C x.ns.length [jz x.ns] d (c*1) 9)]))}
noncomputable def PD:fD:={cv with cT:=λf=>aD f (H7 401)}
theorem adp:Sx.Good J PD:=.of bR (SI 401) bq
def eH (x:Nd)(q:f_):Option (Nat×f_):=if x.k=2 then(bif preB x.p q then H (0,q.drop x.p.length)else F)else if x.k=3 then(match q with
 | []=>F
 | b::q'=>H (b.toNat,q'))else F
def mj:Nat->List Rw->f_->List f_
 | 0,_,_=>[]
 | m+1,l,q=>match eH (bF (m+1) l) q with
   | none=>[]
   | some (i,q')=>if aG l i=[] then [] else(if(ctext m (aG l i)).length<32 then [] else [ctext m (aG l i)])++mj m (aG l i) q'
theorem S4 {key:f_}:bW key key t=C↔∃ u,au key=t++u:=by
 rw[NR];constructor
 ·rintro⟨h1,h2 | h2⟩
  ·have:=sD h1;rw[h2,Bool.false_or,p_] at this;exact⟨[],by rw[Z];exact this.symm⟩
  ·exact h2
 ·rintro⟨u,h⟩;exact⟨by rw[h];exact zk t u,.inr ⟨u,h⟩⟩
theorem At {α:Type}{f:Nat->List α}{k:Nat}: ∀ {n:Nat},k<n->(∀ i,i<n->i≠k->f i=[])->(List.range n).flatMap f=f k
 | 0,h,_=>absurd h (Nat.not_lt_zero _)
 | n+1,h,h'=>by
   rw[nh];by_cases e:k=n
   ·subst e;rw[mT λi hi=>h' i (by have:=az.1 hi;omega) (by have:=az.1 hi;omega),List.nil_append]
   ·rw[At (by omega) λi hi=>h' i (by omega),h' n (Nat.lt_succ_self n) (λe'=>e e'.symm),Z]
theorem Vq {l:List Rw}:(bF (m+1) l).k=3/\(bF (m+1) l).p=[]∨(bF (m+1) l).k=2/\(∀ i,0<i->aG l i=[])∨(bF (m+1) l).k≠2/\(bF (m+1) l).k≠3/\∀ i,aG l i=[]:=by
 match l with
 | []=>exact .inr (.inr ⟨by show(0:Int)≠2;decide,by show(0:Int)≠3;decide,λ_=>rfl⟩)
 | [_]=>exact .inr (.inr ⟨by show(1:Int)≠2;decide,by show(1:Int)≠3;decide,λ_=>rfl⟩)
 | r::s::t =>
   have e:bF (m+1) (r::s::t)=fP (λl'=>if l'=[] then [] else eY (cZ (bF m l'))) (r::s::t):=rfl
   rw[e];unfold fP;dsimp only;by_cases hk:0<bL r.1 ((s::t).getLastD r).1
   ·rw[r_ hk];exact .inr (.inl ⟨rfl,λi hi=>by rw[cq,r_ hk,s_ (by omega)]⟩)
   ·rw[s_ hk];exact .inl ⟨rfl,rfl⟩
theorem DV: ∀ {n:Nat} {c:Nat->Nat},(∀ i,i<n->c i=0)->cQ c n=0
 | 0,_,_=>rfl
 | n+1,c,h=>by show cQ c n+c n=0;rw[DV λi hi=>h i (by omega),h n (Nat.lt_succ_self n)]
structure Zt where
 n:Nat
 f:Nat->f_
 g:Nat->f_
 y:uZ
 key:f_
 root:f_
 room:Int
noncomputable def Zt.w (x:Zt):Sp:=pM x.n x.f x.g x.y [] []
def Zt.rows (x:Zt):List Rw:=aB x.n (λi=>au (x.f i)) x.g
noncomputable def bt (key:f_)(l:List Rw):List f_:=ctext 13 l::mj 13 l (au key)
structure ZA (x:Zt):Prop where
 held:BF x.n x.f x.g x.y
 key:x.key.length<=1000
 root:x.root=cH x.n x.f x.g
noncomputable def zu:gP :=
 {G:=Zt,n:=3,N:=4,pre:=ZA,args:=λx=>[.ptr 0 C 0,.str d x.root,.str d x.key],mem:=λx=>qg x.room x.y++[(2,x.y.A.rK)],
  wo:=λx=>.all Nat λc=>.req ((bt x.key x.rows).length<=c) (.ret (.aN [.aX 3 1 C 0 (bt x.key x.rows).length c,.int .i64 C 0]) (qg x.room x.y++[(3,.rows C (bt x.key x.rows).length [jz (bt x.key x.rows)] d (c*1) 9)]))}
structure PaH where
 m:Nat
 l:List Rw
 q:f_
 T:List f_
 c:Nat
 y:Nd
structure Ef (w:Sp)(N:List f_)(x:PaH):Prop where
 m:x.m<=13
 rows:cc x.m x.l
 full:Full w (cR x.m x.l)
 all:x.T++mj x.m x.l x.q=N
 N1: ∀ b,b∈ x.q->b.toNat<16
 len:x.q.length<=2000
 c:x.T.length<=x.c
 y:x.y=bF x.m x.l
def QD (st:Sx.St):List Nat:=match st.m.get (zh 29 st.m)with
 | some (.cells (.slc k _ _ _ _::_) _ _)=>[k]
 | some (.cells (.aX k _ _ _ _ _::_) _ _)=>[k]
 | _=>[]
noncomputable def acW (w:Sp)(N:List f_):aY :=
 {α:=PaH,pre:=λ_ x=>Ef w N x,kH:=λ_ x=>x.m+1,fresh:=1,slots:=λ_ x=>[(11,.bool C C),(12,.str d x.q)],
  mem:=λst x=>[(rm st 10,.cells (bh x.y) 19 138),(zh 29 st.m,.cells [.aX st.nx 1 C 0 x.T.length x.c] 1 29),(st.nx,.rows C x.T.length [jz x.T] d (x.c*1) 9)],drop:=QD}
def acX (N:List f_):aY :=
 {α:=Nd×f_×Nat,pre:=λ_ x=>N.length<=x.2.2,kH:=λ_ _=>0,fresh:=1,slots:=λ_ x=>[(11,.bool C d),(12,.str d x.2.1)],
  mem:=λst x=>[(rm st 10,.cells (bh x.1) 19 138),(zh 29 st.m,.cells [.aX st.nx 1 C 0 N.length x.2.2] 1 29),(st.nx,.rows C N.length [jz N] d (x.2.2*1) 9)],drop:=QD}
def acw (i:Nat)(st:Sx.St):Nat:=match slot st.tmps i with
 | some (.bool C d)=>1
 | _=>0
noncomputable def afo (w:Sp)(N:List f_):lY:=⟨[0,1],acw 11,λt=>match t with
 | 1=>acX N
 | _=>acW w N⟩
theorem Pj {f:FuncId}{spec spec':List SV->Option (Prop×cK)}(h:ax J f (bY spec))(hi: ∀ vs q' a',spec' vs=H (q',a')->q'->∃ q a,spec vs=H (q,a)/\q/\∀ m nx K,(a'.vc m nx K).holds->(a.vc m nx K).holds):ax J f (bY spec'):=by
 intro args m nx K hk;refine h args m nx K ?_;unfold bY at hk ⊢;split at hk
 ·rename_i q' a' hs;obtain⟨q,a,e,hq,g⟩:=hi _ _ _ hs hk.1;rw[e];exact⟨hq,g m nx K hk.2⟩
 ·exact hk.elim
def vu (vs:List SV):Option (Prop×cK):=match vs with
 | [.str d s]=>H (s.length<1099511627776/\bG s=C,.ret (.aN [(getD s).sv,.int .i64 C 0]))
 | _=>F
theorem Sk:ax J 127 (bY vu):=Pj (vL (mY 1099511627776)) λvs q' a' h hq=>by
 unfold vu at h;split at h
 ·cases h;refine⟨_,_,rfl,⟨Nat.le_of_lt hq.1,hq.1⟩,λm nx K hk=> ?_⟩;unfold VS;simp only[cK.vc];rw[bP,hq.2];exact hk
 ·cases h
structure GtG where
 w:Sp
 y:uZ
 h:f_
 room:Int
structure Up (x:GtG):Prop where
 has:x.w.ad x.h=C
 dom:x.y.A.D (x.y.g x.h)=C
 dm:x.y.A.dm (x.y.g x.h)=x.w.at x.h
def Qj:gP :=
 {G:=GtG,n:=3,N:=3,pre:=Up,args:=λx=>[.ptr 0 C 0,.str d x.h],mem:=λx=>[(0,fA x.room 1),(1,.fmap x.w.ad (.ref 2 x.y.g) F),(2,x.y.A.rK)],
  wo:=λx=>.ret (.aN [.str d (x.w.at x.h),.bool C C]) [(0,fA x.room 1),(1,.fmap x.w.ad (.ref 2 x.y.g) F)]}
theorem abD (x:GtG):dB (.n (.s 0 (.n .k .t)) .t) (runM cv 47 X Qj x) ((x.w.ad x.h=C->x.y.A.D (x.y.g x.h)=C/\x.y.A.dm (x.y.g x.h)=x.w.at x.h)/\(x.w.ad x.h=d->False)):=⟨by kernel_rfl,by kernel_rfl⟩
theorem Yn:ax J 47 (cM Qj) :=
 fT (n:=20) Tryz.func47 (by kernel_rfl) (by kernel_rfl) Qj λx hx=>⟨cv,mU,rfl,by refine ay.pr (abD x) ?_;obtain⟨h1,h2,h3⟩:=hx;rw[h1];exact⟨λ_=>⟨h2,h3⟩,(λh=>by cases h)⟩⟩
noncomputable def WS:List (FuncId×PT):=(47,cM Qj)::(127,bY vu)::gy
theorem SP:bp J (λf=>aD f WS):=.cons Yn (cz _) (.cons Sk (bO _) dj)
def acj:List SV->Nat->f_
 | .str _ t::_,0=>t
 | _::r,i+1=>acj r i
 | _,_=>[]
def dA (k:Int)(p q:f_)(rs:List SV):f_:=match eH ⟨k,p,[],bJ⟩ q with
 | some (i,_)=>acj rs i
 | none=>[]
def fX (k:Int)(p q:f_):f_:=match eH ⟨k,p,[],bJ⟩ q with
 | some (_,q')=>q'
 | none=>q
def iQ (k:Int)(p v q:f_):Bool:=dO ⟨k,p,v,bJ⟩ q
def ad4 (st:Sx.St):Option lY:=match slot st.tmps 12,st.m.get (rm st 10)with
 | some (.str _ q),H (.cells (.int _ _ k::.str _ p::.str _ v::_) _ _)=>H (one {α:=Unit,pre:=λ_ _=>True,kH:=λ_ _=>0,fresh:=0,slots:=λ_ _=>[(28,.bool d (iQ k p v q))],mem:=λ_ _=>[]})
 | _,_=>F
def ad5 (st:Sx.St):Option lY:=match slot st.tmps 12,st.m.get (rm st 10)with
 | some (.str _ q),H (.cells (.int _ _ k::.str _ p::_::rs) _ _)=>H (one {α:=Unit,pre:=λ_ _=>True,kH:=λ_ _=>0,fresh:=0,slots:=λ_ _=>[(12,.str d (fX k p q)),(13,.str d (dA k p q rs))],mem:=λ_ _=>[]})
 | _,_=>F
noncomputable def U6 (w:Sp)(N:List f_):fD:={cv with cT:=λf=>aD f WS,aW:=λf=>if f=108 then [(5,λst=>match acw 11 st with
 | 1=>F
 | _=>H (afo w N)),(107014,ad5),(107009,ad4)] else []}
theorem adL (w:Sp)(N:List f_):Sx.Good J (U6 w N):=.of bR SP bq
theorem T1 (x:Zt):dB (.s 1 (.n .k (.s 0 (.m 3 (.s 1 (.n .k (.s 0 (.m 3 (.s 1 (.n (.s 0 (.m 3 (.s 0 (.n (.s 0 .k) (.s 0 (.n .k .t)))))) (.n (.n (.n (.n (.n (.s 0 (.n .k .t)) (.n (.n (.s 0 (.n .k .t)) (.s 0 (.n .k .t))) (.s 0 (.n .k .t)))) (.n (.n (.s 0 (.n .k .t)) (.s 0 (.n .k .t))) (.s 0 (.n .k .t)))) (.n (.s 0 (.n (.s 0 .k) (.s 1 .k))) (.n (.n (.s 0 (.n (.s 1 (.n .k (.n .k .t))) (.n (.n (.s 4 (.n .k (.n .k .t))) (.s 0 (.n .k (.n .k .t)))) (.s 0 (.n .k (.n .k .t)))))) (.n (.n (.s 4 (.n .k (.n .k .t))) (.s 0 (.n .k (.n .k .t)))) (.s 0 (.n .k (.n .k .t))))) (.n (.n (.s 4 (.n .k (.n .k .t))) (.s 0 (.n .k (.n .k .t)))) (.s 0 (.n .k (.n .k .t))))))) (.s 0 (.n (.s 1 (.n .k (.s 0 (.m 3 (.s 3 (.m 3 (.s 0 (.n (.s 0 .k) (.s 0 (.n .k (.s 1 (.n .k (.n .k .t))))))))))))) (.s 0 (.n (.s 1 (.m 2 (.s 0 (.n (.s 0 .k) (.s 0 (.n .k .t)))))) (.s 1 (.m 2 (.s 0 (.n (.s 0 .k) (.s 0 (.n .k .t))))))))))) (.s 0 (.n (.s 1 .k) (.s 1 .k)))))))))))))) (runM (U6 x.w (bt x.key x.rows)) 27 Tryz.f27 zu x) ((∃(f:GtG),Up f/\x.root=f.h/\x.room=f.room/\aa (SB.fmap (cY x.y.Fr) (aE.ref 2 x.y.g) F) (SB.fmap f.w.ad (aE.ref 2 f.y.g) F)/\aa (SB.eD x.y.A.D [av.str x.y.A.dm] 4 133 C) (SB.eD f.y.A.D [av.str f.y.A.dm] 4 133 C)/\∃(b:GtG),Up b/\x.root=b.h/\f.room=b.room/\aa (SB.fmap f.w.ad (aE.ref 2 f.y.g) F) (SB.fmap b.w.ad (aE.ref 2 b.y.g) F)/\aa (SB.eD x.y.A.D [av.str x.y.A.dm] 4 133 C) (SB.eD b.y.A.D [av.str b.y.A.dm] 4 133 C)/\∀(u:Nat),1<=u->((b.w.at b.h).length<1099511627776/\bG (b.w.at b.h)=C)/\x.key.length<1099511627776/\(∃(i:PaH),Ef x.w (bt x.key x.rows) i/\decide ((0:Int)=(0:Int))=C/\au x.key=i.q/\aa (SB.cells (bh (getD (b.w.at b.h))) 19 138) (SB.cells (bh i.y) 19 138)/\(1=i.T.length/\u=i.c)/\0<i.T.length/\aa (SB.cells [SV.str d (b.w.at b.h)] (u*1) 9) (SB.rows C i.T.length [av.str λK=>i.T.getD K []] d (i.c*1) 9))/\(∀(a:PaH),Ef x.w (bt x.key x.rows) a->((Fk (a.y.k=1) (Fk (a.y.p=a.q) (∃(_u36:Unit),True/\decide (a.y.p=a.q)=iQ a.y.k a.y.p a.y.v a.q) (Fk (a.y.k=3) (Fk (a.q=[]) (∃(_u35:Unit),True/\(!decide (a.y.v=[]))=iQ a.y.k a.y.p a.y.v a.q) (∃(_u34:Unit),True/\d=iQ a.y.k a.y.p a.y.v a.q)) (∃(_u33:Unit),True/\d=iQ a.y.k a.y.p a.y.v a.q))) (Fk (a.y.k=3) (Fk (a.q=[]) (∃(_u32:Unit),True/\(!decide (a.y.v=[]))=iQ a.y.k a.y.p a.y.v a.q) (∃(_u31:Unit),True/\d=iQ a.y.k a.y.p a.y.v a.q)) (∃(_u30:Unit),True/\d=iQ a.y.k a.y.p a.y.v a.q)))/\∀(_u29:Unit),True->Bk (iQ a.y.k a.y.p a.y.v a.q) (∃(z:Nat),(bt x.key x.rows).length<=z/\(a.T.length=(bt x.key x.rows).length/\a.c=z)/\aa (SB.cells [SV.int .i64 d b.room,SV.map 1] 2 126) (fA x.room 1)/\aa (SB.fmap b.w.ad (aE.ref 2 b.y.g) F) (SB.fmap (cY x.y.Fr) (aE.ref 2 x.y.g) F)/\aa (SB.rows C a.T.length [av.str λL=>a.T.getD L []] d (a.c*1) 9) (SB.rows C (bt x.key x.rows).length [av.str λM=>(bt x.key x.rows).getD M []] d (z*1) 9)) (Fk (a.y.k=2) (Fk ((a.y.p.length:Int)<=(a.q.length:Int)) (((0:Int)<=(0:Int)/\0<=(a.y.p.length:Int)/\(a.y.p.length:Int)<=(a.q.length:Int))/\Fk (bX a.q F (H (Operand.tmp 13)) 0 (a.y.p.length:Int)=a.y.p) ((0<=(a.y.p.length:Int)/\(a.y.p.length:Int)<=(a.q.length:Int)/\(a.q.length:Int)<=(a.q.length:Int))/\∃(_u25:Unit),True/\bX a.q (H (Operand.tmp 68)) F (a.y.p.length:Int) (a.q.length:Int)=fX a.y.k a.y.p a.q/\a.y.r 0=dA a.y.k a.y.p a.q (bB a.y.r)) (Fk (a.y.k=3) (Bk (!decide (a.q=[])) (((0:Int)<=(0:Int)/\0<(a.q.length:Int))/\(0<=ai a.q 0/\ai a.q 0<16)/\(ai a.q 0).toNat<16/\((0:Int)<=(1:Int)/\1<=(a.q.length:Int)/\(a.q.length:Int)<=(a.q.length:Int))/\∃(_u24:Unit),True/\bX a.q (H (Operand.const (Value.int I 1))) F 1 (a.q.length:Int)=fX a.y.k a.y.p a.q/\ck (c9 a.y.r []) (ai a.q 0).toNat=dA a.y.k a.y.p a.q (bB a.y.r)) (∃(_u23:Unit),True/\a.q=fX a.y.k a.y.p a.q/\[]=dA a.y.k a.y.p a.q (bB a.y.r))) (∃(_u22:Unit),True/\a.q=fX a.y.k a.y.p a.q/\[]=dA a.y.k a.y.p a.q (bB a.y.r)))) (Fk (a.y.k=3) (Bk (!decide (a.q=[])) (((0:Int)<=(0:Int)/\0<(a.q.length:Int))/\(0<=ai a.q 0/\ai a.q 0<16)/\(ai a.q 0).toNat<16/\((0:Int)<=(1:Int)/\1<=(a.q.length:Int)/\(a.q.length:Int)<=(a.q.length:Int))/\∃(_u21:Unit),True/\bX a.q (H (Operand.const (Value.int I 1))) F 1 (a.q.length:Int)=fX a.y.k a.y.p a.q/\ck (c9 a.y.r []) (ai a.q 0).toNat=dA a.y.k a.y.p a.q (bB a.y.r)) (∃(_u20:Unit),True/\a.q=fX a.y.k a.y.p a.q/\[]=dA a.y.k a.y.p a.q (bB a.y.r))) (∃(_u19:Unit),True/\a.q=fX a.y.k a.y.p a.q/\[]=dA a.y.k a.y.p a.q (bB a.y.r)))) (Fk (a.y.k=3) (Bk (!decide (a.q=[])) (((0:Int)<=(0:Int)/\0<(a.q.length:Int))/\(0<=ai a.q 0/\ai a.q 0<16)/\(ai a.q 0).toNat<16/\((0:Int)<=(1:Int)/\1<=(a.q.length:Int)/\(a.q.length:Int)<=(a.q.length:Int))/\∃(_u18:Unit),True/\bX a.q (H (Operand.const (Value.int I 1))) F 1 (a.q.length:Int)=fX a.y.k a.y.p a.q/\ck (c9 a.y.r []) (ai a.q 0).toNat=dA a.y.k a.y.p a.q (bB a.y.r)) (∃(_u17:Unit),True/\a.q=fX a.y.k a.y.p a.q/\[]=dA a.y.k a.y.p a.q (bB a.y.r))) (∃(_u16:Unit),True/\a.q=fX a.y.k a.y.p a.q/\[]=dA a.y.k a.y.p a.q (bB a.y.r)))))/\∀(_u15:Unit),True->(dA a.y.k a.y.p a.q (bB a.y.r)).length<9223372036854775808/\Bk (bw (dA a.y.k a.y.p a.q (bB a.y.r))) (∃(e:GtG),Up e/\af (dA a.y.k a.y.p a.q (bB a.y.r))=e.h/\b.room=e.room/\aa (SB.fmap b.w.ad (aE.ref 2 b.y.g) F) (SB.fmap e.w.ad (aE.ref 2 e.y.g) F)/\aa (SB.eD x.y.A.D [av.str x.y.A.dm] 4 133 C) (SB.eD e.y.A.D [av.str e.y.A.dm] 4 133 C)/\(0+a.T.length<=a.T.length/\True/\2*(a.T.length+1)*16<=(281474976710656:Nat)/\a.T.length+1<(9223372036854775808:Nat))/\∀(B:Nat),a.T.length+1<=B->((e.w.at e.h).length<1099511627776/\bG (e.w.at e.h)=C)/\∃(j:PaH),(Ef x.w (bt x.key x.rows) j/\j.m+1<a.m+1)/\decide ((0:Int)=(0:Int))=C/\fX a.y.k a.y.p a.q=j.q/\aa (SB.cells (bh (getD (e.w.at e.h))) 19 138) (SB.cells (bh j.y) 19 138)/\(a.T.length+1=j.T.length/\B=j.c)/\aa (SB.rows C (a.T.length+1) [av.str λE=>if E<a.T.length then a.T.getD E [] else ck [e.w.at e.h] (E-a.T.length)] d (B*1) 9) (SB.rows C j.T.length [av.str λN=>j.T.getD N []] d (j.c*1) 9)/\aa (SB.cells [SV.int .i64 d e.room,SV.map 1] 2 126) (SB.cells [SV.int .i64 d b.room,SV.map 1] 2 126)/\aa (SB.fmap e.w.ad (aE.ref 2 e.y.g) F) (SB.fmap b.w.ad (aE.ref 2 b.y.g) F)) (Rel 9223372036854775808 (dA a.y.k a.y.p a.q (bB a.y.r))/\Bk (bH (dA a.y.k a.y.p a.q (bB a.y.r))) (∃(l:PaH),(Ef x.w (bt x.key x.rows) l/\l.m+1<a.m+1)/\fX a.y.k a.y.p a.q=l.q/\aa (SB.cells (bh (getD (dA a.y.k a.y.p a.q (bB a.y.r)))) 19 138) (SB.cells (bh l.y) 19 138)/\(a.T.length=l.T.length/\a.c=l.c)/\aa (SB.rows C a.T.length [av.str λO=>a.T.getD O []] d (a.c*1) 9) (SB.rows C l.T.length [av.str λP=>l.T.getD P []] d (l.c*1) 9)) (∃(o:Nd×f_×Nat),((bt x.key x.rows).length<=o.2.2/\0<a.m+1)/\fX a.y.k a.y.p a.q=o.2.1/\aa (SB.cells (SV.int .i64 C 0::SV.str C []::SV.str C []::Jo) 19 138) (SB.cells (bh o.1) 19 138)/\(a.T.length=(bt x.key x.rows).length/\a.c=o.2.2)/\aa (SB.rows C a.T.length [av.str λQ=>a.T.getD Q []] d (a.c*1) 9) (SB.rows C (bt x.key x.rows).length [av.str λR=>(bt x.key x.rows).getD R []] d (o.2.2*1) 9))))/\∀(G:Nd×f_×Nat),(bt x.key x.rows).length<=G.2.2->∃(J:Nat),(bt x.key x.rows).length<=J/\G.2.2=J/\aa (SB.cells [SV.int .i64 d b.room,SV.map 1] 2 126) (fA x.room 1)/\aa (SB.fmap b.w.ad (aE.ref 2 b.y.g) F) (SB.fmap (cY x.y.Fr) (aE.ref 2 x.y.g) F)/\aa (SB.rows C (bt x.key x.rows).length [av.str λS=>(bt x.key x.rows).getD S []] d (G.2.2*1) 9) (SB.rows C (bt x.key x.rows).length [av.str λU=>(bt x.key x.rows).getD U []] d (J*1) 9))):=⟨by kernel_rfl,by kernel_rfl⟩
theorem wj (h:aZ x=C):x.Good:=by
 refine⟨λhk hp=> ?_,λj hj=> ?_⟩
 ·rcases jB h with ⟨h1,_⟩ | ⟨h1,_⟩ | ⟨_,h2⟩ | ⟨h1,_⟩
  ·omega
  ·omega
  ·simp only[nB,iB,M,p_,hp] at h2;have:=h2.1.1.1;simp at this
  ·omega
 ·rcases(gE h).r j hj with e | e
  ·rw[e];decide
  ·have:=nR e;omega
theorem uW (x:Nd)(p:f_):bD x.again p=bD x p:=by
 unfold bD;show(if x.k=3 then(if p≠[]/\ai p 0<16 then x.again.r (ai p 0).toNat else [])else if x.k=2 then(bif preB x.p p then x.r 0 else [])else [])=_
 by_cases h:p≠[]/\ai p 0<16
 ·have:=dW p 0;rw[r_ h,r_ h,show x.again.r (ai p 0).toNat=x.r (ai p 0).toNat from fF x.r _ (by omega)]
 ·rw[s_ h,s_ h]
theorem DT (x:Nd)(p:f_):cC x.again p=cC x p:=by unfold cC;rw[uW];rfl
theorem Hh (x:Nd)(p:f_):dO x.again p=dO x p:=rfl
theorem Hi (x:Nd)(p:f_):gp x.again p=gp x p:=rfl
theorem L5 (h:x.Good)(p:f_):(bD x p).length<9223372036854775808:=by
 unfold bD;split
 ·split
  ·rename_i h1;have:=dW p 0;exact h.2 _ (by omega)
  ·decide
 ·split
  ·cases preB x.p p with
   | true=>exact h.2 0 (by decide)
   | false=>exact(show([]:f_).length<_ by decide)
  ·decide
theorem I7 (h:x.Good){p:f_}(h0:bD x p≠[]):(cC x p).length<p.length:=by
 unfold cC;rw[s_ h0];unfold bD at h0;by_cases h3:x.k=3
 ·rw[r_ h3] at h0 ⊢;by_cases hp:p≠[]/\ai p 0<16
  ·have:=an.2 hp.1;rw[ag];omega
  ·rw[s_ hp] at h0;exact absurd rfl h0
 ·rw[s_ h3] at h0 ⊢;by_cases h2:x.k=2
  ·rw[r_ h2] at h0;cases hb:preB x.p p with
   | false=>rw[hb] at h0;exact absurd rfl h0
   | true =>simp only[preB,M,p_] at hb;have:=an.2 (h.1 h2);rw[ag];omega
  ·rw[s_ h2] at h0;exact absurd rfl h0
section
variable {w : Wy} {P p : f_} {y : Nd} {u m : Nat}
theorem abL (h:bH t=C):x9 w t=H (getD t,w.u):=by rw[x9,r_ h]
theorem Ug (h:bH t=d)(h1:bw t=C)(h2:cJ w (af t)=C):x9 w t=H (getD (w.f w.u),w.u+1):=by rw[x9,s_ (by rw[h];simp),r_ (by rw[h1,h2];rfl)]
theorem Ry (h:bH t=d)(h1:bw t=d∨cJ w (af t)=d):x9 w t=none:=by rw[x9,s_ (by rw[h];simp),s_ (by rcases h1 with h1 | h1<;>rw[h1]<;>simp)]
theorem DZ {h:f_}(ht:cJ w h=C):w.u<w.n/\aK (w.f w.u)=h/\bG (w.f w.u)=true:=by simp only[cJ,M,p_] at ht;exact⟨by omega,ht.2.1,ht.2.2⟩
end
structure Wy.rB (w:Wy):Prop where
 f: ∀ i,i<w.n->(w.f i).length<=1000
def Y8 (vs:List SV)(l:List Seen):Option (Wy×f_×Option Nat):=match vs,l with
 | [.str d root,.str d key,_],[⟨kk,z,o,n,c,[.str f]⟩]=>H (⟨root,n,f,z,o,c,0⟩,key,kk)
 | _,_=>F
theorem Y9 {vs:List SV}{l:List Seen}{w:Wy}{key:f_}{kk:Option Nat}(h:Y8 vs l=H (w,key,kk)):filled shW vs l=[.str d w.root,.str d key,.bE 0 1 w.z w.o 0 w.n w.c]/\l=[Yc w kk]:=by
 unfold Y8 at h;split at h
 ·cases h;exact⟨rfl,rfl⟩
 ·cases h
end
end Go.Proofs.YtoibaecagklkaaaGreatDoor
