/- A part of the proof. -/
import Derived.Test.YtoibaecagklkaaaGreatDoorMy
open Bool renaming and_eq_true->O,eq_false_iff->R,false->H,not_eq_false'->W,not_eq_true'->P,true->G
open Decidable renaming decide->M
open Go.IntKind renaming i64->Q
open Go.Proofs.Tryz renaming f29->aC,f34->b6,f40->a_,f41->b7,f78->a!,prog->J
open List renaming all_cons->b9,getElem?_eq_getElem->Y,getElem?_eq_none->b_,getElem?_map->b!,length_append->cl,mem_cons->ct,mem_cons_of_mem->cx,mem_cons_self->cy,mem_range->bf
open Nat renaming blt_eq->cD,le_refl->Z,le_trans->an,lt_of_le_of_lt->b5,not_lt_zero->c4,zero_add->X,zero_le->az
open Option renaming none->L,some->I
namespace Go.Proofs.YtoibaecagklkaaaGreatDoor
open Go Sx
variable {key root s to:f_}{k n:Nat}{f g:Nat->f_}{q x:Pp}
section
open Go Sx
set_option maxRecDepth 20000
theorem abw (s:f_):VC.holds (IY G7 (BI s) a! [.str H s] (cr s) (Oi s) nG)=((λb:Nat->SB=>((λg:SB=>((λo:SB=>((λp:(Nat×Nat)->SB=>((λq:SB=>((λd:f_=>((λe:SV=>((λj:SB=>((λh:SV=>((Bk (!decide ((s.length:Int)<=65536)) (cr s=H/\∃(v:Int),aa j (SB.cells [SV.int .i64 H v,SV.iface 30 (SV.int .i64 G 2)] 2 255)/\ah (SV.iface 253 (SV.ptr 1 G 0)) (SV.iface 253 (SV.ptr 1 G 0))) (s.length<1099511627776/\Bk (fO s) (∀(a:Nat),aA (af s)<=a->Bk (!decide ((↑(aA (af s)):Int)=5)) (cr s=H/\∃(w:Int),aa j (SB.cells [SV.int .i64 H w,SV.iface 30 (SV.int .i64 G 2)] 2 255)/\ah h h) (((0:Int)<=(0:Int)/\0<(↑(aA (af s)):Int))/\0<aA (af s)/\(aj (af s) 0).length<9223372036854775808/\Bk (lT (aj (af s) 0)) (Bk (!decide (num (af (aj (af s) 0))<=1)) (cr s=H/\∃(x:Int),aa (SB.cells [SV.int .i64 G 0,SV.iface 30 (SV.int .i64 G 2)] 2 255) (SB.cells [SV.int .i64 H x,SV.iface 30 (SV.int .i64 G 2)] 2 255)/\ah h h) ((((-9223372036854775808:Int)<=num (af (aj (af s) 0))/\num (af (aj (af s) 0))<=9223372036854775807)/\((0:Int)<=(1:Int)/\1<(↑(aA (af s)):Int))/\1<aA (af s)/\((0:Int)<=(2:Int)/\2<(↑(aA (af s)):Int))/\2<aA (af s)/\((0:Int)<=(3:Int)/\3<(↑(aA (af s)):Int))/\3<aA (af s)/\((aj (af s) 1).length<9223372036854775808/\Bk (cB (aj (af s) 1) H) (I (b a)=I (b a)/\I (b a)=I (b a)/\((aj (af s) 2).length<9223372036854775808/\Bk (cB (aj (af s) 2) H) (I (b a)=I (b a)/\((aj (af s) 3).length<9223372036854775808/\Bk (cB (aj (af s) 3) H) (I (b a)=I (b a)/\I (b a)=I (b a)/\I (b a)=I (b a)/\∃(_u49:Unit),True/\(0:Nat)=(0:Nat)/\aa o q/\aa (b a) (b a)/\aa g g/\True) (∀(y:Int),cr s=H/\∃(z:Int),aa (SB.cells [SV.int .i64 H y,SV.iface 30 (SV.int .i64 G 2)] 2 255) (SB.cells [SV.int .i64 H z,SV.iface 30 (SV.int .i64 G 2)] 2 255)/\ah h h))/\I (b a)=I (b a)/\I (b a)=I (b a)/\I (b a)=I (b a)/\(aj (af s) 3).length<9223372036854775808/\Bk (cB (aj (af s) 3) H) (∃(_u46:Unit),True/\(0:Nat)=(0:Nat)/\aa o q/\aa (b a) (b a)/\aa g g/\True) (∀(A:Int),cr s=H/\∃(B:Int),aa (SB.cells [SV.int .i64 H A,SV.iface 30 (SV.int .i64 G 2)] 2 255) (SB.cells [SV.int .i64 H B,SV.iface 30 (SV.int .i64 G 2)] 2 255)/\ah e e)) (∀(C:Int),cr s=H/\∃(D:Int),aa (SB.cells [SV.int .i64 H C,SV.iface 30 (SV.int .i64 G 2)] 2 255) (SB.cells [SV.int .i64 H D,SV.iface 30 (SV.int .i64 G 2)] 2 255)/\ah h h))/\I (b a)=I (b a)/\I (b a)=I (b a)/\I (b a)=I (b a)/\(aj (af s) 2).length<9223372036854775808/\Bk (cB (aj (af s) 2) H) (I (b a)=I (b a)/\(aj (af s) 3).length<9223372036854775808/\Bk (cB (aj (af s) 3) H) (∃(_u41:Unit),True/\(0:Nat)=(0:Nat)/\aa o q/\aa (b a) (b a)/\aa g g/\True) (∀(E:Int),cr s=H/\∃(F:Int),aa (SB.cells [SV.int .i64 H E,SV.iface 30 (SV.int .i64 G 2)] 2 255) (SB.cells [SV.int .i64 H F,SV.iface 30 (SV.int .i64 G 2)] 2 255)/\ah e e)) (∀(J:Int),cr s=H/\∃(K:Int),aa (SB.cells [SV.int .i64 H J,SV.iface 30 (SV.int .i64 G 2)] 2 255) (SB.cells [SV.int .i64 H K,SV.iface 30 (SV.int .i64 G 2)] 2 255)/\ah e e)) (∀(L:Int),cr s=H/\∃(N:Int),aa (SB.cells [SV.int .i64 H L,SV.iface 30 (SV.int .i64 G 2)] 2 255) (SB.cells [SV.int .i64 H N,SV.iface 30 (SV.int .i64 G 2)] 2 255)/\ah h h))/\I (b a)=I (b a)/\I (b a)=I (b a)/\I (b a)=I (b a)/\(aj (af s) 1).length<9223372036854775808/\Bk (cB (aj (af s) 1) H) (I (b a)=I (b a)/\I (b a)=I (b a)/\(aj (af s) 2).length<9223372036854775808/\Bk (cB (aj (af s) 2) H) (I (b a)=I (b a)/\(aj (af s) 3).length<9223372036854775808/\Bk (cB (aj (af s) 3) H) (∃(_u34:Unit),True/\(0:Nat)=(0:Nat)/\aa o q/\aa (b a) (b a)/\aa g g/\True) (∀(O:Int),cr s=H/\∃(P:Int),aa (SB.cells [SV.int .i64 H O,SV.iface 30 (SV.int .i64 G 2)] 2 255) (SB.cells [SV.int .i64 H P,SV.iface 30 (SV.int .i64 G 2)] 2 255)/\ah e e)) (∀(Q:Int),cr s=H/\∃(R:Int),aa (SB.cells [SV.int .i64 H Q,SV.iface 30 (SV.int .i64 G 2)] 2 255) (SB.cells [SV.int .i64 H R,SV.iface 30 (SV.int .i64 G 2)] 2 255)/\ah e e)) (∀(S:Int),cr s=H/\∃(T:Int),aa (SB.cells [SV.int .i64 H S,SV.iface 30 (SV.int .i64 G 2)] 2 255) (SB.cells [SV.int .i64 H T,SV.iface 30 (SV.int .i64 G 2)] 2 255)/\ah e e))/\∀(_u27:Unit),True->((0:Int)<=(4:Int)/\4<(↑(aA (af s)):Int))/\4<aA (af s)/\(aj (af s) 4).length<1099511627776/\Bk (fO (aj (af s) 4)) (∀(l:Nat),aA d<=l->(∃(m:Nat×Nat),va (aA (af (aU s 4))) m/\0=(m.1:Int)/\(5:Nat)=(5:Nat)/\j7 (aU s 0)=j7 (aU s 0)/\af (aU s 1)=af (aU s 1)/\af (aU s 2)=af (aU s 2)/\af (aU s 3)=af (aU s 3)/\m.1=0/\(SB.rows G m.1 [av.str λU=>af (aj (af (aU s 4)) U)] H m.2 9).no=G/\aa (SB.rows G (aA d) [av.str (aj d)] H l 9) (SB.rows G (aA d) [av.str (aj d)] H l 9)/\aa (b a) (b a)/\aa g g/\True)/\∀(c:Nat×Nat),va (aA (af (aU s 4))) c->Fk ((c.1:Int)<(↑(aA d):Int)) ((0<=(c.1:Int)/\(c.1:Int)<(↑(aA d):Int))/\0+(c.1:Int).toNat<aA d/\(aj d (0+(c.1:Int).toNat)).length<9223372036854775808/\Bk (cB (aj d (0+(c.1:Int).toNat)) H) (I (p c)=I (p c)/\I (p c)=I (p c)/\(0+c.1<=c.1/\True/\2*(c.1+1)*16<=(281474976710656:Nat)/\c.1+1<(9223372036854775808:Nat))/\c.2=c.2*1/\∀(r:Nat),c.1+1<=r->I6 ((c.1:Int)+1)/\∃(i:Nat×Nat),(va (aA (af (aU s 4))) i/\aA (af (aU s 4))-i.1<aA (af (aU s 4))-c.1)/\(c.1:Int)+1=(i.1:Int)/\(5:Nat)=(5:Nat)/\j7 (aU s 0)=j7 (aU s 0)/\af (aU s 1)=af (aU s 1)/\af (aU s 2)=af (aU s 2)/\af (aU s 3)=af (aU s 3)/\((0:Nat)=(0:Nat)/\c.1+1=i.1/\r=i.2)/\True/\aa (SB.rows G (c.1+1) [av.str λt=>if t<c.1 then af (aj (af (aU s 4)) t)else ck [af (aj d (0+(c.1:Int).toNat))] (t-c.1)] H (r*1) 9) (SB.rows G i.1 [av.str λV=>af (aj (af (aU s 4)) V)] H i.2 9)/\aa (SB.rows G (aA d) [av.str (aj d)] H l 9) (SB.rows G (aA d) [av.str (aj d)] H l 9)/\aa (b a) (b a)/\aa g g/\True) (∀(W:Int),cr s=H/\∃(X:Int),aa (SB.cells [SV.int .i64 H W,SV.iface 30 (SV.int .i64 G 2)] 2 255) (SB.cells [SV.int .i64 H X,SV.iface 30 (SV.int .i64 G 2)] 2 255)/\ah (SV.iface 253 (SV.ptr 5 G 0)) (SV.iface 253 (SV.ptr 5 G 0)))) ((((True/\True/\True/\True/\(G=G/\0+c.1<=c.1)/\True)/\True)/\True)/\({k:=j7 (aU s 0),root:=af (aU s 1),key:=af (aU s 2),to:=af (aU s 3),n:=c.1,f:=fun(Y:Nat)=>af (aj (af (aU s 4)) Y):Pp}.ok=G->(M (65536<(↑{k:=j7 (aU s 0),root:=af (aU s 1),key:=af (aU s 2),to:=af (aU s 3),n:=c.1,f:=fun(Z:Nat)=>af (aj (af (aU s 4)) Z):Pp}.put.length:Int))=G->cr s=H/\∃(a0:Int),aa j (SB.cells [SV.int .i64 H a0,SV.iface 30 (SV.int .i64 G 2)] 2 255)/\ah (SV.iface 253 (SV.ptr 5 G 0)) (SV.iface 253 (SV.ptr 5 G 0)))/\(M (65536<(↑{k:=j7 (aU s 0),root:=af (aU s 1),key:=af (aU s 2),to:=af (aU s 3),n:=c.1,f:=fun(a1:Nat)=>af (aj (af (aU s 4)) a1):Pp}.put.length:Int))=H->((!decide ({k:=j7 (aU s 0),root:=af (aU s 1),key:=af (aU s 2),to:=af (aU s 3),n:=c.1,f:=fun(a2:Nat)=>af (aj (af (aU s 4)) a2):Pp}.put=s))=G->cr s=H/\∃(a3:Int),aa j (SB.cells [SV.int .i64 H a3,SV.iface 30 (SV.int .i64 G 2)] 2 255)/\ah (SV.iface 253 (SV.ptr 5 G 0)) (SV.iface 253 (SV.ptr 5 G 0)))/\((!decide ({k:=j7 (aU s 0),root:=af (aU s 1),key:=af (aU s 2),to:=af (aU s 3),n:=c.1,f:=fun(a4:Nat)=>af (aj (af (aU s 4)) a4):Pp}.put=s))=H->cr s=G/\∃(u:Nat),aA (af (aU s 4))<=u/\aa (SB.rows G c.1 [av.str λu8=>af (aj (af (aU s 4)) u8)] H c.2 9) (SB.rows G (aA (af (aU s 4))) [av.str λu7=>af (aj (af (aU s 4)) u7)] H u 9)/\ah (SV.agg [SV.int .i64 H (j7 (aU s 0)),SV.str H (af (aU s 1)),SV.str H (af (aU s 2)),SV.str H (af (aU s 3)),SV.aX 4 1 G 0 c.1 c.2]) (SV.agg [SV.int .i64 H (j7 (aU s 0)),SV.str H (af (aU s 1)),SV.str H (af (aU s 2)),SV.str H (af (aU s 3)),SV.aX 4 1 G 0 (aA (af (aU s 4))) u]))))/\({k:=j7 (aU s 0),root:=af (aU s 1),key:=af (aU s 2),to:=af (aU s 3),n:=c.1,f:=fun(u6:Nat)=>af (aj (af (aU s 4)) u6):Pp}.ok=H->cr s=H/\∃(u5:Int),aa j (SB.cells [SV.int .i64 H u5,SV.iface 30 (SV.int .i64 G 2)] 2 255)/\ah (SV.iface 253 (SV.ptr 5 G 0)) (SV.iface 253 (SV.ptr 5 G 0))))) (∀(u4:Int),cr s=H/\∃(u3:Int),aa (SB.cells [SV.int .i64 H u4,SV.iface 30 (SV.int .i64 G 2)] 2 255) (SB.cells [SV.int .i64 H u3,SV.iface 30 (SV.int .i64 G 2)] 2 255)/\ah e e))) (cr s=H/\∃(u2:Int),aa (SB.cells [SV.int .i64 G 0,SV.iface 30 (SV.int .i64 G 2)] 2 255) (SB.cells [SV.int .i64 H u2,SV.iface 30 (SV.int .i64 G 2)] 2 255)/\ah h h))) (∀(u1:Int),cr s=H/\∃(u0:Int),aa (SB.cells [SV.int .i64 H u1,SV.iface 30 (SV.int .i64 G 2)] 2 255) (SB.cells [SV.int .i64 H u0,SV.iface 30 (SV.int .i64 G 2)] 2 255)/\ah (SV.iface 253 (SV.ptr 1 G 0)) (SV.iface 253 (SV.ptr 1 G 0))))))) (SV.iface 253 (SV.ptr 2 G 0)))) (SB.cells [SV.int .i64 G (-1:Int),SV.iface 30 (SV.int .i64 G 2)] 2 255))) (SV.iface 253 (SV.ptr 3 G 0)))) (af (aj (af s) 4)))) (SB.cells [SV.int .i64 H (j7 (aU s 0)),SV.str H (af (aU s 1)),SV.str H (af (aU s 2)),SV.str H (af (aU s 3)),SV.aO] 5 63))) (fun(c:Nat×Nat)=>(SB.cells [SV.int .i64 H (j7 (aU s 0)),SV.str H (af (aU s 1)),SV.str H (af (aU s 2)),SV.str H (af (aU s 3)),SV.aX 4 1 G 0 c.1 c.2] 5 63)))) (SB.cells [SV.int .i64 H (num (af (aj (af s) 0))),SV.str H (af (aj (af s) 1)),SV.str H (af (aj (af s) 2)),SV.str H (af (aj (af s) 3)),SV.aO] 5 63))) (SB.cells (SV.agg [SV.int .i64 G 0,SV.str G [],SV.str G [],SV.str G [],SV.aO]).cells 5 63))) (fun(a:Nat)=>(SB.rows G (aA (af s)) [av.str (aj (af s))] H a 9))):=by kernel_rfl
theorem OG (h:x.Small): ∀ y∈ x.rows,Whole y:=λy hy=>by obtain⟨i,hi,rfl⟩:=LI hy;have:=h.row i hi;exact mh (by omega)
theorem Pp.DE (h:x.Small):pR (cU x.rows) x.rows:=CU (OG h) (by have:=Pp.DF h;omega)
theorem Pp.QS (h:x.Small):pR x.put x.items:=by
 refine CU (λy hy=> ?_) (by have:=Pp.Fw h;omega);have:=h.k;have:=h.root;have:=h.key;have:=h.to;simp only[Pp.items,ct,List.not_mem_nil,or_false] at hy;rcases hy with rfl | rfl | rfl | rfl | rfl
 ·exact Le (by omega) (by omega)
 ·exact mh (by omega)
 ·exact mh (by omega)
 ·exact mh (by omega)
 ·exact(Pp.DE h).whole
theorem nN {b:f_}(h:b.length<=1048576):cB (aq b) H=true:=by obtain⟨h1,h2,h3,_⟩:=jo h;simp[cB,h1,h2,h3]
theorem pR.inside {t:f_}{l:List f_}(h:pR t l):cB t G=G/\fO t=true:=by
 have:cB t G=true:=by simp[cB,h.b,h.li,h.r]
 exact⟨this,by simp[fO,this,h.ib]⟩
structure ym (s:f_):Prop where
 len:(s.length:Int)<=65536
 whole:fO s=G
 n5:aA (af s)=5
 g0:lT (aj (af s) 0)=G
 k0:0<=num (af (aj (af s) 0))/\num (af (aj (af s) 0))<=1
 i1:cB (aj (af s) 1) H=G
 i2:cB (aj (af s) 2) H=G
 i3:cB (aj (af s) 3) H=G
 w4:fO (aj (af s) 4)=G
 n4:aA (af (aj (af s) 4))<=200
 r4: ∀ i,i<aA (af (aj (af s) 4))->cB (aj (af (aj (af s) 4)) i) H=G
theorem Oc (h:x.fits=G):ym x.put:=by
 unfold Pp.fits at h;simp only[O,P,q_] at h;have hs:=Pp.Df h.1;have hc:=Pp.QS hs;have hr:=Pp.DE hs;obtain⟨h1,h2,h3,h4,h5,h6⟩:=hs;have e0:=hc.at' 0 _ rfl;have e1:=hc.at' 1 _ rfl;have e2:=hc.at' 2 _ rfl;have e3:=hc.at' 3 _ rfl;have e4:=hc.at' 4 _ rfl;have hn:=tW (n:=x.k) (by omega) (by omega);have hrow:x.rows.length=x.n:=i6 _ _ _;refine⟨by omega,hc.inside.2,hc.n,?_,?_,?_,?_,?_,?_,?_,λi hi=> ?_⟩
 ·rw[e0];exact hn.1
 ·rw[e0];have:num (af (numOf x.k))=x.k:=hn.2.2.2.2;rw[this];omega
 ·rw[e1];exact nN (by omega)
 ·rw[e2];exact nN (by omega)
 ·rw[e3];exact nN (by omega)
 ·rw[e4];exact hr.inside.2
 ·rw[e4,hr.n,hrow];exact h5
 ·rw[e4] at hi ⊢;rw[hr.n,hrow] at hi;obtain⟨y,hy⟩: ∃ y,x.rows[i]?=I y:=⟨_,Y (by omega)⟩
  rw[hr.at' i y hy];obtain⟨_,h8⟩:=sP (f:=gC x.f) hy;rw[← h8,X];have:=h6 i hi;show cB (aq (x.f i)) H=G;exact nN (by omega)
theorem Ch (h:cr s=G):ym s/\(dL s).ok=G/\(dL s).put=s:=by unfold cr at h;simp only[O,p_] at h;have:=Oc h.1;rw[h.2] at this;have ho:=h.1;unfold Pp.fits at ho;simp only[O] at ho;exact⟨this,ho.1,h.2⟩
theorem tG :cr s=G↔(dL s).ok=G/\¬ (65536:Int)<((dL s).put.length:Int)/\(dL s).put=s:=by unfold cr Pp.fits;simp[and_assoc]
section
variable {s : f_}
theorem fZ (h:ym s->False):cr s=false:=R.2 λhB=>h (Ch hB).1
theorem Ui (h:(!decide ((↑s.length:Int)<=(65536:Int)))=G):cr s=false:=fZ λF=>by have:=F.len;simp only[P,q_] at h;exact h this
theorem Mw (h:fO s=H):cr s=false:=fZ λF=>by have:=F.whole;rw[h] at this;cases this
theorem Pr (h:(!decide ((↑(aA (af s)):Int)=(5:Int)))=G):cr s=false:=fZ λF=>by have:=F.n5;simp only[P,q_] at h;omega
theorem Zi (h:lT (aj (af s) 0)=H):cr s=false:=fZ λF=>by have:=F.g0;rw[h] at this;cases this
theorem Zm (h:(!decide (num (af (aj (af s) 0))<=(1:Int)))=G):cr s=false:=fZ λF=>by have:=F.k0;simp only[P,q_] at h;omega
theorem Zj (h:cB (aj (af s) 1) H=H):cr s=false:=fZ λF=>by have:=F.i1;rw[h] at this;cases this
theorem Zk (h:cB (aj (af s) 2) H=H):cr s=false:=fZ λF=>by have:=F.i2;rw[h] at this;cases this
theorem Zl (h:cB (aj (af s) 3) H=H):cr s=false:=fZ λF=>by have:=F.i3;rw[h] at this;cases this
theorem Zo (h:fO (aj (af s) 4)=H):cr s=false:=fZ λF=>by have:=F.w4;rw[h] at this;cases this
theorem Uj {i:Nat}(h:cB (aj (af (aj (af s) 4)) i) H=H)(hi:M ((i:Int)<(aA (af (aj (af s) 4)):Int))=G):cr s=false:=fZ λF=>by simp only[p_] at hi;have:=F.r4 i (by omega);rw[h] at this;cases this
def td (s:f_)(n:Nat):Pp:={k:=j7 (aU s 0),root:=af (aU s 1),key:=af (aU s 2),to:=af (aU s 3),n:=n,f:=fun(i:Nat)=>af (aj (af (aU s 4)) i)}
theorem pQ {x:Nat×Nat}(hg:va (aA (af (aU s 4))) x)(hi:M ((x.1:Int)<(aA (af (aj (af s) 4)):Int))=H):x.1=aA (af (aU s 4)):=by
 simp only[q_] at hi;have h1:x.1<=aA (af (aj (af s) 4)):=hg.le;have h2:x.1=aA (af (aj (af s) 4)):=by omega
 exact h2
theorem mo (h:n=aA (af (aU s 4))):td s n=dL s:=by rw[h,td,dL]
theorem Zn (e:n=aA (af (aU s 4)))(h:(td s n).ok=H):cr s=false:=by rw[mo e] at h;exact R.2 λhB=>by rw[(tG.1 hB).1] at h;cases h
theorem Mv (e:n=aA (af (aU s 4)))(h:M ((65536:Int)<((td s n).put.length:Int))=G):cr s=false:=by rw[mo e] at h;simp only[p_] at h;exact R.2 λhB=>(tG.1 hB).2.1 h
theorem Pt (e:n=aA (af (aU s 4)))(h:(!decide ((td s n).put=s))=G):cr s=false:=by rw[mo e] at h;simp only[P,q_] at h;exact R.2 λhB=>h (tG.1 hB).2.2
theorem Jl (e:n=aA (af (aU s 4)))(h1:(td s n).ok=G)(h2:M ((65536:Int)<((td s n).put.length:Int))=H)(h3:(!decide ((td s n).put=s))=H):cr s=true:=by rw[mo e] at h1 h2 h3;simp only[W,p_] at h3;simp only[q_] at h2;exact tG.2 ⟨h1,h2,h3⟩
theorem qY (h:(!decide ((↑s.length:Int)<=(65536:Int)))=H)(k:Nat):(aj (af s) k).length<=65536:=by simp only[W,p_] at h;have h1:=tJ (af s) k;have h2:=oM s;omega
theorem Mz (h:(!decide ((↑s.length:Int)<=(65536:Int)))=H)(k i:Nat):(aj (af (aj (af s) k)) i).length<=65536:=by have h1:=qY h k;have h2:=tJ (af (aj (af s) k)) i;have h3:=oM (aj (af s) k);omega
theorem Uh (h:(!decide ((↑s.length:Int)<=(65536:Int)))=H)(hw:fO (aj (af s) 4)=G):aA (af (aj (af s) 4))<=65536:=by have h1:=qY h 4;have h3:=oM (aj (af s) 4);unfold fO at hw;simp only[O] at hw;have:=SC hw.2;omega
theorem Uk (h:(!decide ((↑s.length:Int)<=(65536:Int)))=H):s.length<=65536:=by simp only[W,p_] at h;omega
theorem Pq (h:(!decide ((↑(aA (af s)):Int)=(5:Int)))=H):aA (af s)=5:=by simp only[W,p_] at h;omega
theorem GL (h:(!decide (num (af (aj (af s) 0))<=(1:Int)))=H):0<=num (af (aj (af s) 0))/\num (af (aj (af s) 0))<=1:=by simp only[W,p_] at h;exact⟨Xq _,h⟩
theorem Jk:aa (SB.cells [SV.int Q H (num (af (aj (af s) (0:Nat)))),SV.str H (af (aj (af s) (1:Nat))),SV.str H (af (aj (af s) (2:Nat))),SV.str H (af (aj (af s) (3:Nat))),SV.aO] (5:Nat) 63)
  (SB.cells [SV.int Q H (j7 (aU s (0:Nat))),SV.str H (af (aU s (1:Nat))),SV.str H (af (aU s (2:Nat))),SV.str H (af (aU s (3:Nat))),SV.aO] (5:Nat) 63):=aa.refl _
end
theorem GM {x:Nat×Nat}(h:M ((x.1:Int)<(aA (af (aj (af s) 4)):Int))=G):x.1<aA (af (aj (af s) 4)):=by simp only[p_] at h;omega
theorem My {x:Nat×Nat}{c:Nat}(_hg:va (aA (af (aU s 4))) x)(h:M ((x.1:Int)<(aA (af (aj (af s) 4)):Int))=G)(hc:x.1+1<=c) :
  va (aA (af (aU s 4))) (x.1+1,c)/\aA (af (aU s 4))-(x.1+1)<aA (af (aU s 4))-x.1:=by
 have h1:x.1<aA (af (aU s 4)):=GM h;exact⟨⟨h1,hc⟩,by omega⟩
theorem Mx {c:Nat}:aa (SB.rows G (k+1) [av.str λj=>if j<k then af (aj (af (aU s 4)) j)else ck [af (aj (af (aj (af s) 4)) k)] (j-k)] H (c*1) 9)
  (SB.rows G (k+1) [av.str λi=>af (aj (af (aU s 4)) i)] H c 9):=by
 refine Sx.aa.nZ rfl (by omega) λi hi=> ?_;by_cases h:i<k
 ·rw[r_ h]
 ·have e:i=k:=by omega
  subst e;rw[s_ h,Nat.sub_self];rfl
theorem EN {l:Bool}{k':Nat}{n:Int}: ∃(x:Int),aa (SB.cells [SV.int Q l n,SV.iface 30 (SV.int Q G (2:Int))] (2:Nat) 255) (SB.cells [SV.int Q H x,SV.iface 30 (SV.int Q G (2:Int))] (2:Nat) 255)/\
  ah (SV.iface 253 (SV.ptr k G k')) (SV.iface 253 (SV.ptr k G k')):=⟨n,aa.cells (λ_E=>rfl) rfl,λ_=>rfl⟩
attribute [local irreducible] aj aA dD af cw aF dn fO cB lT num j7 cr Pp.put Pp.ok aU
theorem Mu {x:Nat×Nat}(hg:va (aA (af (aU s 4))) x)(hi:M ((x.1:Int)<(aA (af (aj (af s) 4)):Int))=H) :
  ∃ c,aA (af (aU s 4))<=c/\aa (SB.rows G x.1 [av.str λi=>af (aj (af (aU s 4)) i)] H x.2 9) (SB.rows G (aA (af (aU s 4))) [av.str λi=>af (aj (af (aU s 4)) i)] H c 9)/\
    ah (SV.agg [SV.int Q H (j7 (aU s (0:Nat))),SV.str H (af (aU s (1:Nat))),SV.str H (af (aU s (2:Nat))),SV.str H (af (aU s (3:Nat))),SV.aX k (1:Nat) G (0:Nat) x.1 x.2]) ((dL s).sv (SV.aX k (1:Nat) G (0:Nat) (aA (af (aU s 4))) c)):=by
 have e:=pQ hg hi;have hc:=hg.cap;rw[e] at hc ⊢;exact⟨x.2,hc,aa.refl _,by simp only[dL,Pp.sv];exact λ_=>rfl⟩
set_option maxHeartbeats 4000000 in
theorem Lv (s:f_):ay (IY G7 (BI s) a! [.str H s] (cr s) (Oi s) nG):=by
 refine ay.mS (abw s) (by delta Bk Fk;exact rfl) ?_;simp only[Int.toNat_natCast,X]
 repeat' first
  | exact trivial
  | exact aa.refl _
  | exact EN
  | exact Ui (by assumption)
  | exact Mw (by assumption)
  | exact Pr (by assumption)
  | exact Zi (by assumption)
  | exact Zm (by assumption)
  | exact Zj (by assumption)
  | exact Zk (by assumption)
  | exact Zl (by assumption)
  | exact Zo (by assumption)
  | refine And.intro ?_ ?_
  | (have:=GM (x:=y) (by assumption);have:=Uh (by assumption) (by assumption);omega)
  | intro (c:Nat) (hc:y.1+1<=c)
  | refine⟨(y.1+1,c),My hy (by assumption) hc,by simp,trivial,trivial,trivial,trivial,trivial,⟨trivial,rfl,rfl⟩,trivial,Mx,aa.refl _,aa.refl _,aa.refl _,trivial⟩
  | exact Mu hy (by assumption)
  | intro (_:_=G)
  | intro (_:_=H)
  | intro (_:Int)
  | intro (_:Nat)
  | intro (_:_<=_)
  | (have:=Uk (by assumption);omega)
  | exact b5 (qY (by assumption) _) (by omega)
  | (have:=Pq (by assumption);omega)
  | exact Int.le_trans (by omega) (GL (by assumption)).1
  | exact Int.le_trans (GL (by assumption)).2 (by omega)
  | refine⟨(),trivial,trivial,Jk,aa.refl _,aa.refl _,trivial⟩
  | intro (_:Unit)
  | intro (_:True)
  | refine⟨(0,0),⟨az _,az _⟩,rfl,trivial,trivial,trivial,trivial,trivial,rfl,rfl,aa.refl _,aa.refl _,aa.refl _,trivial⟩
  | exact Uj (by assumption) (by assumption)
  | exact Zn (pQ hy (by assumption)) (by assumption)
  | exact Mv (pQ hy (by assumption)) (by assumption)
  | exact Pt (pQ hy (by assumption)) (by assumption)
  | exact Jl (pQ hy (by assumption)) (by assumption) (by assumption) (by assumption)
  | exact b5 (Mz (by assumption) _ _) (by omega)
  | intro (y:Nat×Nat) (hy:va _ _)
  | fail
def zy:List SV->Option (Prop×Bool×cK×cK)
 | [.str H s]=>I (True,cr s,Oi s,nG)
 | _=>L
theorem XE:Ad J 78 (uS zy):=by
 refine Ob (fn:=a!) Tryz.func78 (by kernel_rfl) (by kernel_rfl) ?_;intro args p b a q h hp;unfold zy at h;split at h
 ·rename_i s;injection h with h;injection h with h1 h;injection h with h2 h;injection h with h3 h4;subst h1;subst h2;subst h3;subst h4;refine⟨G7,BI s,100,RN,bR,rfl,(λc=>⟨rfl,rfl,λk=>by simp[Pp.sv,SV.wf,SV.fH,cD],λE E' k k' h=> ?_⟩),vm,Lv s⟩;simp only[Pp.sv,SV.val,SV.vals,SB.no] at h ⊢;cases hz:Nat.beq (aA (af (aU s 4))) 0 with
  | true=>simp
  | false=>rw[hz] at h;rw[h rfl]
 ·cases h
noncomputable def afx:List (FuncId×(PK->PT)):=(78,uS zy)::ade
theorem Z6: ∀ e∈ afx,Ad J e.1 e.2:=λe he=>by
 rcases ct.1 he with rfl | he
 ·exact XE
 ·exact Qd e he
noncomputable def G8:de:=Eb BQ afx
theorem RO:dg J G8:=Ec (oH Co 20) Z6
noncomputable def acm (cfg:fD)(C:de)(f:Nat)(fn:Func)(args:List SV)(a:cK):VC:=Ya J cfg C [] (cfg.aW f) cfg.rounds fn args [] 0 (λv m _=>a.fit v m)
end
section
open Go Sx
set_option maxRecDepth 20000
theorem aeW (s:f_):VC.holds (acm JG G8 40 a_ [.str H s] (Au s))=((True/\Bk (cr s) (∀(a:Nat),aA (af (aU s 4))<=a->Bk (cr s) (∃(b:Nat),aA (af (aU s 4))<=b/\aa (SB.rows G (aA (af (aU s 4))) [av.str λc=>af (aj (af (aU s 4)) c)] H a 9) (SB.rows G (aA (af (aU s 4))) [av.str λd=>af (aj (af (aU s 4)) d)] H b 9)/\ah (SV.aN [SV.agg [SV.int .i64 H (j7 (aU s 0)),SV.str H (af (aU s 1)),SV.str H (af (aU s 2)),SV.str H (af (aU s 3)),SV.aX 2 1 G 0 (aA (af (aU s 4))) a],SV.int .i64 G 0]) (SV.aN [SV.agg [SV.int .i64 H (j7 (aU s 0)),SV.str H (af (aU s 1)),SV.str H (af (aU s 2)),SV.str H (af (aU s 3)),SV.aX 2 1 G 0 (aA (af (aU s 4))) b],SV.int .i64 G 0])) (ah (SV.aN [SV.agg [SV.int .i64 H (j7 (aU s 0)),SV.str H (af (aU s 1)),SV.str H (af (aU s 2)),SV.str H (af (aU s 3)),SV.aX 2 1 G 0 (aA (af (aU s 4))) a],SV.int .i64 G 0]) (SV.aN [SV.agg [SV.int .i64 G 0,SV.str G [],SV.str G [],SV.str G [],SV.aO],SV.int .i64 G 2]))) (∀(_u1:Int),Bk (cr s) (∃(e:Nat),aA (af (aU s 4))<=e/\False) (ah (SV.aN [SV.agg [SV.int .i64 G 0,SV.str G [],SV.str G [],SV.str G [],SV.aO],SV.int .i64 G 2]) (SV.aN [Iv,SV.int .i64 G 2]))))):=by kernel_rfl
theorem VX (s:f_):(Au s).Ok:=λb=>by
 cases b with
 | false=>exact rfl
 | true =>
   refine λc=>⟨rfl,rfl,λk=>by simp[Pp.sv,SV.wf,SV.fH,cD],λE E' k k' h=> ?_⟩
   simp only[Pp.sv,SV.val,SV.vals,SB.no] at h ⊢;cases hz:Nat.beq (aA (af (aU s 4))) 0 with
   | true=>simp
   | false=>rw[hz] at h;rw[h rfl]
attribute [local irreducible] aj aA dD af cw aF dn j7 cr aU
theorem Oe (s:f_):ay (acm JG G8 40 a_ [.str H s] (Au s)):=by
 refine ay.mS (aeW s) (by delta Bk;exact rfl) ?_;cases h:cr s with
 | true=>exact⟨trivial,λ_ x hx=>⟨λ_=>⟨x,hx,by first | exact aa.refl _ | (simp only[dL];exact aa.refl _),by first | exact λ_=>rfl | (simp only[dL,Pp.sv];exact λ_=>rfl)⟩,(λh=>by cases h)⟩,(λh=>by cases h)⟩
 | false=>exact⟨trivial,(λh=>by cases h),λ_ _=>⟨(λh=>by cases h),λ_ _=>rfl⟩⟩
def Ls:List SV->Option (Prop×cK)
 | [.str H s]=>I (True,Au s)
 | _=>L
theorem QM:ax J 40 (bY Ls):=by
 refine ZN Tryz.func40 (by kernel_rfl) (by kernel_rfl) ?_;intro args p a h hp;unfold Ls at h;split at h
 ·rename_i s;cases h;exact⟨JG,G8,Co,RO,rfl,VX s,Oe s⟩
 ·cases h
end
section
open Go Sx
set_option maxRecDepth 20000
def Ep (n:Nat)(f g:Nat->f_)(k:f_):Option Rw:=(aB n f g).find? λe=>decide (e.1=k)
def Eo (n:Nat)(f g:Nat->f_)(k:f_):Bool:=(Ep n f g k).isSome
def J9 (n:Nat)(f g:Nat->f_)(k:f_):f_:=((Ep n f g k).getD ([],[])).2
def afz (n:Nat)(f g:Nat->f_)(k:f_):cK:=.ret (.aN [.str H (J9 n f g k),.bool H (Eo n f g k)])
noncomputable def abT (n:Nat)(f:Nat->f_)(k:f_):fD:={cv with cT:=λf=>aD f iD,aW:=λh=>if h=41 then [(2,always (A9 6 n λi=>!decide (f i=k)))] else []}
theorem adw (n:Nat)(f:Nat->f_)(k:f_):Sx.Good J (abT n f k):=.of bR fo bq
def afZ:List AZ:=[.of (.slice dE),.of .one]
def findSpec (vs:List SV)(l:List Seen):Option (Prop×cK):=match vs,l with
 | [_,.str H k],[⟨_,_,_,n,_,[.str f,.str g]⟩]=>I (n<9223372036854775808,afz n f g k)
 | _,_=>L
theorem J': ∀ {n:Nat} {f g:Nat->f_} {k:f_},(∀ i,i<n->f i≠k)->Ep n f g k=none:=λ{n f g k} h=>by unfold Ep;rw[List.find?_eq_none];intro e he;unfold aB at he;obtain⟨i,hi,rfl⟩:=List.mem_map.1 he;simpa using h i (bf.1 hi)
theorem Ka {f g:Nat->f_}{k:f_}{i:Nat}(h: ∀ j,j<i->f j≠k)(e:f i=k): ∀ {n:Nat},i<n->Ep n f g k=I (k,g i)
 | 0,hi=>absurd hi (c4 _)
 | n+1,hi=>by
   have el:aB (n+1) f g=aB n f g++[(f n,g n)]:=by unfold aB;rw[List.range_succ,List.map_append];rfl
   unfold Ep;rw[el,List.find?_append];by_cases h':i<n
   ·rw[show(aB n f g).find? (λe=>decide (e.1=k))=I (k,g i)from Ka h e h'];rfl
   ·obtain rfl:i=n:=by omega
    rw[show(aB i f g).find? (λe=>decide (e.1=k))=L from J' h]
    simp[e]
theorem aae {k:f_}:Ep n f g k=(ak k k (aB n f g)).head?:=by unfold Ep ak;rw[List.head?_filter];congr 1;funext e;rw[Bool.eq_iff_iff,p_,HO];exact⟨λh=>by rw[h],λh=>Ln h⟩
theorem aeO (k:f_)(n:Nat)(f g:Nat->f_)(z:Bool)(o c:Nat)(key:Option Nat):dB (.n (.s 0 (.n .k .t)) (.n (.s 4 (.n .k .t)) .t)) (iX (abT n f k) 41 b7 [.bE 0 2 z o 0 n c,.str H k] [iY z o c n f g key] (afz n f g k)) (((∃(d:Nat),n6 n (fun(e:Nat)=>!decide (f e=k)) d/\0=(d:Int))/\∀(a:Nat),n6 n (fun(h:Nat)=>!decide (f h=k)) a->Fk ((a:Int)<(n:Int)) ((0<=(a:Int)/\(a:Int)<(n:Int))/\(o=o/\0+(a:Int).toNat<n)/\Fk (f (0+(a:Int).toNat)=k) ((0<=(a:Int)/\(a:Int)<(n:Int))/\(o=o/\0+(a:Int).toNat<n)/\ah (SV.aN [av.at (0+(a:Int).toNat) (av.str g),SV.bool G G]) (SV.aN [SV.str H (J9 n f g k),SV.bool H (Eo n f g k)])) (I6 ((a:Int)+1)/\∃(b:Nat),(n6 n (fun(i:Nat)=>!decide (f i=k)) b/\n-b<n-a)/\(a:Int)+1=(b:Int))) (ah (SV.aN [SV.str G [],SV.bool G H]) (SV.aN [SV.str H (J9 n f g k),SV.bool H (Eo n f g k)])))):=⟨by kernel_rfl,by kernel_rfl⟩
structure Pp.Twin (x y:Pp):Prop where
 k:x.k=y.k
 root:x.root=y.root
 key:x.key=y.key
 to:x.to=y.to
 n:x.n=y.n
 f: ∀ i,i<y.n->x.f i=y.f i
section
variable {x y : Pp} (h : x.Twin y)
include h
theorem Pp.Twin.put:x.put=y.put:=by
 have hr:x.rows=y.rows:=by
  unfold Pp.rows dJ;rw[h.n];apply List.map_congr_left;intro i hi;have hi:i<y.n:=by simpa using hi
  show gC x.f (0+i)=gC y.f (0+i);unfold gC;rw[X,h.f i hi]
 unfold Pp.put Pp.items;rw[h.k,h.root,h.key,h.to,hr]
theorem Pp.Twin.ok:x.ok=y.ok:=by
 have hr:kU x.n x.f=kU y.n y.f:=by
  unfold kU;rw[h.n];have: ∀(l:List Nat),(∀ i∈ l,i<y.n)->l.all (iV x.f)=l.all (iV y.f):=by
   intro l;induction l with
   | nil=>intro _;rfl
   | cons a r ih =>intro hl;rw[b9,b9,ih λi hi=>hl i (cx _ hi)];unfold iV;rw[h.f a (hl a (cy ..))]
  exact this _ λi hi=>bf.1 hi
 unfold Pp.ok;rw[hr,h.k,h.root,h.key,h.to,h.n]
end
theorem Di (h:x.fits=G):(dL x.put).Twin x:=by
 unfold Pp.fits at h;simp only[O,P,q_] at h;have hs:=Pp.Df h.1;have hc:=Pp.QS hs;have hr:=Pp.DE hs;obtain⟨h1,h2,h3,h4,h5,h6⟩:=hs;have e0:=hc.at' 0 _ rfl;have e1:=hc.at' 1 _ rfl;have e2:=hc.at' 2 _ rfl;have e3:=hc.at' 3 _ rfl;have e4:=hc.at' 4 _ rfl;have hn:=tW (n:=x.k) (by omega) (by omega);have hrow:x.rows.length=x.n:=i6 _ _ _;unfold dL aU;constructor
 ·dsimp only;rw[e0];exact hn.2.2.2.2
 ·dsimp only;rw[e1];exact(jo (b:=x.root) (by omega)).2.2.2
 ·dsimp only;rw[e2];exact(jo (b:=x.key) (by omega)).2.2.2
 ·dsimp only;rw[e3];exact(jo (b:=x.to) (by omega)).2.2.2
 ·dsimp only;rw[e4,hr.n,hrow]
 ·intro i hi;dsimp only;rw[e4];obtain⟨y,hy⟩: ∃ y,x.rows[i]?=I y:=⟨_,Y (by omega)⟩
  rw[hr.at' i y hy];obtain⟨_,h8⟩:=sP (f:=gC x.f) hy;rw[← h8,X];have:=h6 i hi;exact(jo (b:=x.f i) (by omega)).2.2.2
theorem yJ (h:x.fits=G):cr x.put=true:=by have ht:=Di h;unfold cr;rw[O];refine⟨?_,n_ ht.put⟩;unfold Pp.fits at h ⊢;rw[ht.put,ht.ok];exact h
theorem Sj:cr []=false:=R.2 λh=>by have:=(Ch h).1.n5;revert this;decide
theorem VR {k:f_}{v:f_}{l l':Bool}{r:Option Rw}(h:Ep n f g k=r)(hv:(r.getD ([],[])).2=v)(b:Bool)(hb:r.isSome=b):ah (.aN [.str l v,.bool l' b]) (.aN [.str H (J9 n f g k),.bool H (Eo n f g k)]):=λE=>by unfold J9 Eo;rw[h,hv,hb];rfl
theorem aaa:ax J 41 (bT afZ findSpec):=by
 refine gd (n:=20) Tryz.func41 (by kernel_rfl) (by kernel_rfl) ?_;intro vs l q a h hq;unfold findSpec at h;split at h
 ·rename_i v k key z o n c f g;cases h;refine⟨_,adw n f k,rfl,rfl,ay.A5 (aeO k n f g z o c key) (by delta Fk;exact rfl) ?_⟩;simp only[Int.toNat_natCast,X];refine⟨⟨0,⟨az _,λj hj=>absurd hj (c4 _)⟩,rfl⟩,λi hi=>⟨λa=> ?_,λa=> ?_⟩⟩
  ·simp only[p_] at a;have no: ∀ j,j<i->f j≠k:=λj hj=>by have:=hi.all j hj;simpa using this
   refine⟨⟨by omega,a⟩,⟨trivial,by omega⟩,λb=>⟨⟨by omega,a⟩,⟨trivial,by omega⟩,?_⟩,λb=>⟨⟨by omega,by omega⟩,i+1,⟨ur hi a (by rw[b];rfl),by omega⟩,by omega⟩⟩;exact VR (Ka no (l_ b) (by omega)) rfl G rfl
  ·simp only[q_] at a;have e:i=n:=by have:=hi.le;omega
   subst e;exact VR (J' λj hj=>by have:=hi.all j hj;simpa using this) rfl H rfl
 ·cases h
structure GQ (n:Nat)(f g:Nat->f_)(x:Pp):Prop where
 ok:x.ok=G
 oC:ew n f g=0
 apart:fu (mX n f g).length (iK n f g)=G
 root:x.root=cH n f g
 one:x.k≠1->Uq n f g ⟨x.root,x.n,x.f,G,0,0,0⟩ x.key
 two:x.k=1->ME n f g x.root ⟨x.key,x.to,x.n,x.f,G,0,0,λ_=>H,λ_=>0⟩
def Pp.iM (x:Pp):f_:=bif M (x.k=1)then x.to else x.key
def qm (n:Nat)(f g:Nat->f_)(x:Pp):Bool:=M (x.k=1)||m4 x.key (aB n f g)
def Qr (n:Nat)(f g:Nat->f_)(x:Pp):cK:=.fork (qm n f g x) λb=>match b with
 | true=>Yx (ak x.key x.iM (aB n f g))
 | false=>.ret (.aN [.aO,.int .i64 G 0])
noncomputable def WM (n:Nat)(f g:Nat->f_):List (FuncId×PT):=(38,Gx (bT MC ng))::(14,bT abb (wk n f g))::(28,bT shW (D8 n f g))::gy
theorem SK (n:Nat)(f g:Nat->f_):bp J (λk=>aD k (WM n f g)):=.cons (xX zA) (qP (bS _ _)) (.cons (Ue n f g) (bS _ _) (.cons (abJ n f g) (bS _ _) dj))
noncomputable def abU (n:Nat)(f g:Nat->f_):fD:={cv with cT:=λk=>aD k (WM n f g)}
theorem adz (n:Nat)(f g:Nat->f_):Sx.Good J (abU n f g):=.of bR (SK n f g) bq
theorem YM (n:Nat)(f g:Nat->f_)(x:Pp)(z:Bool)(o c:Nat)(key:Option Nat):dB .k (iX (abU n f g) 34 b6 [x.sv (.bE 0 1 z o 0 x.n c)] [ko z o c x key] (Qr n f g x)) (((((True/\True/\True/\True/\(z=z/\o=o/\0+x.n<=x.n)/\True)/\True)/\True)/\{k:=x.k,root:=x.root,key:=x.key,to:=x.to,n:=x.n,f:=fun(e:Nat)=>x.f e:Pp}.ok=G/\Fk (x.k=1) (((True/\(True/\True/\True)/\(z=z/\o=o/\0+x.n<=x.n)/\True)/\ME n f g x.root {fr:=x.key,to:=x.to,n:=x.n,f:=fun(h:Nat)=>x.f h,z:=z,o:=o+0,c:=c,ad:=fun(_u6:f_)=>H,ag:=fun(_u5:f_)=>(0:Int):Sp})/\∀(a:Nat),(ak x.key x.to (aB n f g)).length<=a->Bk (qm n f g x) (∃(b:Nat),(ak x.key x.iM (aB n f g)).length<=b/\aa (SB.rows G (ak x.key x.to (aB n f g)).length [bU (ak x.key x.to (aB n f g)),bV (ak x.key x.to (aB n f g))] H (a*2) 50) (SB.rows G (ak x.key x.iM (aB n f g)).length [bU (ak x.key x.iM (aB n f g)),bV (ak x.key x.iM (aB n f g))] H (b*2) 50)/\ah (SV.aN [SV.aX 2 2 G 0 (ak x.key x.to (aB n f g)).length a,SV.int .i64 G 0]) (SV.aN [SV.aX 2 2 G 0 (ak x.key x.iM (aB n f g)).length b,SV.int .i64 G 0])) (ah (SV.aN [SV.aX 2 2 G 0 (ak x.key x.to (aB n f g)).length a,SV.int .i64 G 0]) (SV.aN [SV.aO,SV.int .i64 G 0]))) (((True/\True/\(z=z/\o=o/\0+x.n<=x.n)/\True)/\Uq n f g {root:=x.root,n:=x.n,f:=fun(i:Nat)=>x.f i,z:=z,o:=o+0,c:=c,u:=(0:Nat):Wy} x.key)/\Bk (!m4 x.key (aB n f g)) (Bk (qm n f g x) (∃(j:Nat),(ak x.key x.iM (aB n f g)).length<=j/\False) (ah (SV.aN [SV.aO,SV.int .i64 G 0]) (SV.aN [SV.aO,SV.int .i64 G 0]))) (Bk (qm n f g x) (∃(d:Nat),(ak x.key x.iM (aB n f g)).length<=d/\aa (SB.cells [SV.str H x.key,SV.str H (yR x.key (aB n f g))] 2 50) (SB.rows G (ak x.key x.iM (aB n f g)).length [bU (ak x.key x.iM (aB n f g)),bV (ak x.key x.iM (aB n f g))] H (d*2) 50)/\ah (SV.aN [SV.slc 3 0 1 G 1,SV.int .i64 G 0]) (SV.aN [SV.aX 3 2 G 0 (ak x.key x.iM (aB n f g)).length d,SV.int .i64 G 0])) (ah (SV.aN [SV.slc 3 0 1 G 1,SV.int .i64 G 0]) (SV.aN [SV.aO,SV.int .i64 G 0])))))):=⟨by kernel_rfl,by kernel_rfl⟩
theorem Sa (a b:f_)(ty:TypeId):aa (.cells [.str H a,.str H b] 2 ty) (.rows G [(a,b)].length [bU [(a,b)],bV [(a,b)]] H (1*2) ty):=by
 refine aa.of rfl rfl λ_=>⟨rfl,λE o ⟨c,fr,h1,h2,h3,h4⟩=>⟨c,fr,h1,λ_=>h2,by rw[h4];exact Z _,h4,λi k col hi hk=> ?_⟩,id⟩
 have hi:i<1:=hi;obtain rfl:i=0:=by omega
 match k,hk with
 | 0,hk=>cases hk;exact h3 0 _ rfl
 | 1,hk=>cases hk;exact h3 1 _ rfl
def wY (n:Nat)(f g:Nat->f_)(vs:List SV)(l:List Seen):Option (Prop×cK):=match nT vs l with
 | some (x,_)=>I (GQ n f g x,Qr n f g x)
 | none=>L
theorem Qt (n:Nat)(f g:Nat->f_):ax J 34 (bT MC (wY n f g)):=by
 refine gd (n:=20) Tryz.func34 (by kernel_rfl) (by kernel_rfl) ?_;intro vs l q a h hq;unfold wY at h;split at h
 ·rename_i x r hx;obtain⟨z,o,c,key⟩:=r;cases h;obtain⟨e1,e2⟩:=vP hx;rw[e1,e2];refine⟨_,adz n f g,rfl,?_,ay.A5 (YM n f g x z o c key) (by delta Bk Fk;exact rfl) ?_⟩
  ·intro b;cases b with
   | true=>intro c;exact Q6 _ c
   | false=>rfl
  ·have S: ∀ v:SV,ah v v:=λ_ _=>rfl;refine⟨⟨⟨⟨trivial,trivial,trivial,trivial,⟨rfl,rfl,by omega⟩,trivial⟩,trivial⟩,trivial⟩,hq.ok,λh1=>⟨⟨⟨trivial,⟨trivial,trivial,trivial⟩,⟨rfl,rfl,by omega⟩,trivial⟩,?_⟩,λc2 hc=> ?_⟩,λh1=>⟨⟨⟨trivial,trivial,⟨rfl,rfl,by omega⟩,trivial⟩,?_⟩,?_⟩⟩
   ·have w:=hq.two (l_ h1);exact⟨w.oC,w.apart,w.root,w.le,w.len,w.dm,w.fr,w.to⟩
   ·have e:x.iM=x.to:=by unfold Pp.iM;rw[h1];rfl
    have e2:qm n f g x=true:=by unfold qm;rw[h1];rfl
    rw[e,e2];exact⟨λ_=>⟨c2,hc,aa.refl _,S _⟩,(λh=>by cases h)⟩
   ·have w:=hq.one (m_ h1);exact⟨w.oC,w.root,w.len,w.dm,w.key⟩
   ·have e:x.iM=x.key:=by unfold Pp.iM;rw[h1];rfl
    have e2:qm n f g x=m4 x.key (aB n f g):=by unfold qm;rw[h1];rfl
    rw[e,e2];cases hb:m4 x.key (aB n f g)with
    | false=>exact⟨λ_=>⟨(λh=>by cases h),λ_=>S _⟩,(λh=>by cases h)⟩
    | true =>
      have eB:ak x.key x.key (aB n f g)=[(x.key,yR x.key (aB n f g))]:=by
       obtain⟨y,q,_,eb⟩:=(hq.one (m_ h1)).res;unfold m4 at hb;unfold yR;rw[eb] at hb ⊢;cases hc:dO y q with
       | true=>rfl
       | false=>rw[hc] at hb;cases hb
      rw[eB];exact⟨(λh=>by cases h),λ_=>⟨λ_=>⟨1,Z _,Sa _ _ _,λ_=>rfl⟩,(λh=>by cases h)⟩⟩
 ·cases h
def qE (vs:List SV)(l:List Seen):Option (Prop×cK):=match nT vs l with
 | some (x,_)=>I (x.fits=G,.ret (.aN [.str H x.put,.int .i64 G 0]))
 | none=>L
theorem Ge:ax J 31 (bT MC qE):=BC ID λvs l q' a' h hq=>by
 unfold qE at h;split at h
 ·rename_i x r hx;cases h;refine⟨True,Dq x,by unfold sG;rw[hx],trivial,λm nx K hk=> ?_⟩;unfold Pp.fits at hq;rw[O,P] at hq;unfold Dq;simp only[cK.vc];rw[bP,hq.1];show(Sx.fork _ _).holds;rw[bP,hq.2];exact hk
 ·cases h
def aag (s:f_):cK:=.all Pp λq=>.req (q=dL s) (.all Nat λc=>.req (q.n<=c) (.new (λk=>.aN [q.sv (.aX k 1 G 0 q.n c),.int .i64 G 0]) (.rows G q.n [.str q.f] H c 9)))
def nM (vs:List SV):Option (Prop×cK):=match vs with
 | [.str H s]=>I (cr s=G,aag s)
 | _=>L
section
attribute [local irreducible] aj aA dD af cw aF dn j7 cr aU
theorem Ci:ax J 40 (bY nM):=Pj QM λvs q' a' h hq=>by
 unfold nM at h;split at h
 ·rename_i s;cases h;refine⟨True,Au s,rfl,trivial,λm nx K hk=> ?_⟩;unfold Au;simp only[cK.vc];rw[bP,hq];exact hk (dL s) rfl
 ·cases h
end
end
section
open Go Sx
set_option maxRecDepth 20000
def afF:List SV->Bool
 | [.agg (.int _ G k::_)]=>decide (k=2)
 | _=>H
def zz (vs:List SV)(l:List Seen):Option (Prop×cK):=match nT vs l with
 | some (x,_)=>I (x.ok=H,.ret (.aN [.str G [],.int .i64 G 1]))
 | none=>L
theorem XG:ax J 31 (bT MC zz):=BC ID λvs l q' a' h hq=>by
 unfold zz at h;split at h
 ·rename_i x r hx;cases h;refine⟨True,Dq x,by unfold sG;rw[hx],trivial,λm nx K hk=> ?_⟩;unfold Dq;simp only[cK.vc];rw[bP,hq];exact hk
 ·cases h
def VE:List SV->Bool
 | [.str G []]=>G
 | _=>H
def vt (vs:List SV):Option (Prop×cK):=match vs with
 | [.str H []]=>I (True,.ret (.aN [Iv,.int .i64 G 2]))
 | _=>L
theorem Si:ax J 40 (bY vt):=Pj QM λvs q' a' h _=>by
 unfold vt at h;split at h
 ·cases h;refine⟨True,Au [],rfl,trivial,λm nx K hk=> ?_⟩;unfold Au;simp only[cK.vc];rw[bP,Sj];exact hk
 ·cases h
def CB (n:Nat)(f g:Nat->f_)(vs:List SV)(l:List Seen):Option (Prop×cK):=match nT vs l with
 | some (x,_)=>I (GQ n f g x/\qm n f g x=G,Yx (ak x.key x.iM (aB n f g)))
 | none=>L
theorem aaw (n:Nat)(f g:Nat->f_):ax J 34 (bT MC (CB n f g)):=BC (Qt n f g) λvs l q' a' h hq=>by
 unfold CB at h;split at h
 ·rename_i x r hx;cases h;refine⟨GQ n f g x,Qr n f g x,by unfold wY;rw[hx],hq.1,λm nx K hk=> ?_⟩;unfold Qr;simp only[cK.vc];rw[bP,hq.2];exact hk
 ·cases h
noncomputable def WY:List (FuncId×PT):=(12,cM Qp)::(27,cM zu)::(31,oO afF (bT MC zz) (bT MC qE))::(40,oO VE (bY vt) (bY nM))::(34,bT MC (CB 2 eF eG))::(38,Gx (bT MC ng))::(51,Gx (bT aeG ug))::gy
theorem SX:bp J (λf=>aD f WY):=.cons Nn (cz _) (.cons Ga (cz _) (.cons (E4 XG Ge) (uJ (bS _ _) (bS _ _)) (.cons (E4 Si Ci) (uJ (bO _) (bO _)) (.cons (aaw 2 eF eG) (bS _ _) (.cons (xX zA) (qP (bS _ _)) (.cons (xX E8) (qP (bS _ _)) dj))))))
noncomputable def Vk:fD:={cv with cT:=λf=>aD f WY}
theorem adY:Sx.Good J Vk:=.of bR SX bq
theorem Ce: ∀(N:List f_),(flat (N.map aq)).length<=jD N
 | []=>Z _
 | t::N=>by
   have h1:=Ce N;have h2:=fB t;show(flat (aq t::N.map aq)).length<=(t.length+9)+jD N;have e:flat (aq t::N.map aq)=aq t++flat (N.map aq):=by simp[flat]
   rw[e,cl];omega
theorem OI (N:List f_):dJ (gC λi=>N.getD i []) 0 N.length=N.map aq:=by
 apply List.ext_getElem?;intro i;unfold dJ;rw[b!,b!];by_cases h:i<N.length
 ·rw[List.getElem?_range h,Y h];simp[gC,List.getD_eq_getElem?_getD,Y h]
 ·rw[b_ (by simpa using Nat.le_of_not_lt h),b_ (by omega)];rfl
def jS (k:Int)(root key to:f_)(N:List f_):Pp:=⟨k,root,key,to,N.length,λi=>N.getD i []⟩
theorem QO {k:Int}{N:List f_}(hk:k=0/\to=[]∨k=1)(hr:root.length=32)(h1:key.length<=6)(h2:to.length<=6)(h3:N.length<=200)(h4: ∀ t,t∈ N->t.length<=1000)(h5:jD N<=60000):(jS k root key to N).fits=true:=by
 have hok:(jS k root key to N).ok=true:=by unfold Pp.ok jS;simp only[O,Bool.or_eq_true,p_,P,q_];refine⟨⟨⟨⟨⟨hk,by omega⟩,by omega⟩,by omega⟩,by omega⟩,?_⟩;unfold kU;rw[List.all_eq_true];intro i hi;have:=h4 _ (rL (bf.1 hi));exact AD (by omega)
 have hrow:(flat (jS k root key to N).rows).length<=60000:=by
  unfold Pp.rows;rw[show dJ (gC (jS k root key to N).f) 0 (jS k root key to N).n=N.map aq from OI N]
  exact an (Ce N) h5
 unfold Pp.fits;rw[hok,Bool.true_and,P,q_];have lo: ∀ l:List f_,(cU l).length<=(flat l).length+9:=λl=>by have h2:=lp 192 (flat l).length;unfold cU;rw[cl];omega
 have a1:=lo (jS k root key to N).items;have a2:=lo (jS k root key to N).rows;have a3:(numOf k).length<=20:=by rcases hk with ⟨e,_⟩ | e<;>(rw[e];decide +kernel)
 have a4:=fB root;have a5:=fB key;have a6:=fB to;have e:(flat (jS k root key to N).items).length=(numOf k).length+((aq root).length+((aq key).length+((aq to).length+(cU (jS k root key to N).rows).length))):=by unfold Pp.items jS;simp[flat]
 unfold Pp.put;omega
theorem xz {k:Int}{N:List f_}(h:(jS k root key to N).fits=G)(hq:q=dL (jS k root key to N).put):q.ok=G/\q.k=k/\q.root=root/\q.key=key/\q.to=to/\q.n=N.length/\∀ i,i<q.n->q.f i=N.getD i []:=by have t:=Di h;rw[← hq] at t;refine⟨?_,t.k,t.root,t.key,t.to,t.n,λi hi=>t.f i (by rw[← t.n];exact hi)⟩;rw[t.ok];unfold Pp.fits at h;rw[O] at h;exact h.1
theorem Ud:dB (.s 0 (.n .k (.s 0 (.n .k (.s 1 (.m 2 (.s 0 .k))))))) (X9 Vk 29 aC [] (.ret (.bool G G))) ((∃(b:HoZ),(b.n<9223372036854775808/\Es b.n b.f b.g=G)/\(0=b.o+0/\2=b.n/\2=b.c)/\aa (SB.cells [SV.str G [(97:UInt8)],SV.str G [(49:UInt8)],SV.str G [(98:UInt8)],SV.str G [(50:UInt8)]] 4 50) (SB.view H b.o b.n [av.str b.f,av.str b.g])/\∀(e:uZ),BF b.n b.f b.g e->∃(a:Zt),ZA a/\cH b.n b.f b.g=a.root/\[(98:UInt8)]=a.key/\2000=a.room/\aa (SB.fmap (cY e.Fr) (aE.ref 4 e.g) L) (SB.fmap (cY a.y.Fr) (aE.ref 2 a.y.g) L)/\aa (SB.eD e.A.D [av.str e.A.dm] 4 133 H) (SB.eD a.y.A.D [av.str a.y.A.dm] 4 133 G)/\∀(h:Nat),(bt a.key a.rows).length<=h->(((True/\True/\True/\True/\(G=G/\0+(bt a.key a.rows).length<=(bt a.key a.rows).length)/\True)/\True)/\(jS 0 (cH b.n b.f b.g) [(98:UInt8)] [] (bt a.key a.rows)).fits=G)/\cr (jS 0 (cH b.n b.f b.g) [(98:UInt8)] [] (bt a.key a.rows)).put=G/\∀(d:Pp),d=dL (jS 0 (cH b.n b.f b.g) [(98:UInt8)] [] (bt a.key a.rows)).put->∀(i:Nat),d.n<=i->(((True/\True/\True/\True/\(G=G/\0+d.n<=d.n)/\True)/\True)/\GQ 2 eF eG d/\qm 2 eF eG d=G)/\∀(j:Nat),(ak d.key d.iM (aB 2 eF eG)).length<=j->(((True/\True/\True/\True/\True/\True)/\True)/\{k:=(2:Int),root:=cH b.n b.f b.g,key:=[],to:=[],n:=(0:Nat),f:=fun(_u16:Nat)=>[]:Pp}.ok=H)/\True/\Fk (0=d.k) (Fk (cH b.n b.f b.g=d.root) (Fk ([(98:UInt8)]=d.key) (Fk ([]=d.to) ((((G=G/\0+(bt a.key a.rows).length<=(bt a.key a.rows).length)/\(G=G/\0+d.n<=d.n)/\True)/\(bt a.key a.rows).length<9223372036854775808)/\(iG (bt a.key a.rows).length (fun(l:Nat)=>(bt a.key a.rows).getD l []) d.n fun(p:Nat)=>d.f p)=G/\Fk (cH b.n b.f b.g=[]) (Fk ((↑(ak d.key d.iM (aB 2 eF eG)).length:Int)=1) (((0:Int)<=(0:Int)/\0<(↑(ak d.key d.iM (aB 2 eF eG)).length:Int))/\0<(ak d.key d.iM (aB 2 eF eG)).length/\Fk (((ak d.key d.iM (aB 2 eF eG)).getD 0 ([],[])).2=[(50:UInt8)]) ((((True/\True/\True/\True/\(G=G/\0+(bt a.key a.rows).length<=(bt a.key a.rows).length)/\True)/\True)/\True)/\(jS 0 (cH b.n b.f b.g) [(98:UInt8)] [] (bt a.key a.rows)).ok=G/\ah (SV.bool G G) (SV.bool G G)) (ah (SV.bool G H) (SV.bool G G))) (ah (SV.bool G H) (SV.bool G G))) (Fk ((↑(ak d.key d.iM (aB 2 eF eG)).length:Int)=1) (((0:Int)<=(0:Int)/\0<(↑(ak d.key d.iM (aB 2 eF eG)).length:Int))/\0<(ak d.key d.iM (aB 2 eF eG)).length/\Fk (((ak d.key d.iM (aB 2 eF eG)).getD 0 ([],[])).2=[(50:UInt8)]) ((((True/\True/\True/\True/\(G=G/\0+(bt a.key a.rows).length<=(bt a.key a.rows).length)/\True)/\True)/\True)/\(jS 0 (cH b.n b.f b.g) [(98:UInt8)] [] (bt a.key a.rows)).ok=G/\ah (SV.bool G G) (SV.bool G G)) (ah (SV.bool G H) (SV.bool G G))) (ah (SV.bool G H) (SV.bool G G)))) (ah (SV.bool G H) (SV.bool G G))) (ah (SV.bool G H) (SV.bool G G))) (ah (SV.bool G H) (SV.bool G G))) (ah (SV.bool G H) (SV.bool G G)))):=⟨by kernel_rfl,by kernel_rfl⟩
theorem D9 (h:ew n f g=0)(hr:root=cH n f g)(hk:key.length<=6):(jS 0 root key [] (bt key (aB n (λi=>au (f i)) g))).fits=true:=by
 have hw:=GW key (aB n (λi=>au (f i)) g);have hs: ∀ t,t∈ bt key (aB n (λi=>au (f i)) g)->t.length<=700:=λt ht=>GJ h ht;refine QO (.inl ⟨rfl,rfl⟩) (by rw[hr];exact zH _ _ _) hk (az _) (by omega) (λt ht=>an (hs t ht) (by decide)) ?_;have: ∀ N:List f_,(∀ t,t∈ N->t.length<=700)->jD N<=N.length*709:=λN=>by
  induction N with
  | nil=>intro _;exact Z _
  | cons t N ih =>intro h;have h1:=ih λu hu=>h u (cx _ hu);have h2:=h t (cy ..);show(t.length+9)+jD N<=(N.length+1)*709;omega
 have:=this _ hs;omega
theorem Jz (h:ew n f g=0)(hr:root=cH n f g)(hk:key.length<=6)(ht:to.length<=6):(jS 1 root key to (pV key to (aB n (λi=>au (f i)) g))).fits=true:=by have h40:=(mN h).2;have hb:=PA (fr:=key) (to:=to) (gQ h) (by rw[fc];exact h40);exact QO (.inr rfl) (by rw[hr];exact zH _ _ _) hk ht (by omega) (λt ht=>an (EU h key to ht) (by decide)) (an (ZU (gQ h) (by rw[fc];exact h40)) (by decide))
theorem Rx (h:ew n f g=0)(ha:fu (mX n f g).length (iK n f g)=G)(hr:root=cH n f g)(hk:key.length<=6)(hq:q=dL (jS 0 root key [] (bt key (aB n (λi=>au (f i)) g))).put):GQ n f g q:=by obtain⟨e1,e2,e3,e4,e5,e6,e7⟩:=xz (D9 h hr hk) hq;exact⟨e1,h,ha,e3.trans hr,λ_=>⟨h,e3.trans hr,by rw[e4];exact e6,by rw[e4];exact e7,by rw[e4];omega⟩,λe=>by rw[e2] at e;cases e⟩
theorem ZT (h:ew n f g=0)(ha:fu (mX n f g).length (iK n f g)=G)(hr:root=cH n f g)(hk:key.length<=6)(ht:to.length<=6)(hle:Bo key to=G)(hq:q=dL (jS 1 root key to (pV key to (aB n (λi=>au (f i)) g))).put):GQ n f g q:=by obtain⟨e1,e2,e3,e4,e5,e6,e7⟩:=xz (Jz h hr hk ht) hq;exact⟨e1,h,ha,e3.trans hr,λe=>absurd e2 e,λ_=>⟨h,ha,e3.trans hr,by rw[e4,e5];exact hle,by rw[e4,e5];exact e6,by rw[e4,e5];exact e7,by show q.key.length<=1000;rw[e4];omega,by show q.to.length<=1000;rw[e5];omega⟩⟩
noncomputable def WX (n:Nat)(f g:Nat->f_)(w:List SV->Option (Prop×cK)):List (FuncId×PT):=(29,bY w)::(12,cM n9)::(27,cM zu)::(13,cM JB)::(31,bT MC qE)::(40,bY nM)::(34,bT MC (wY n f g))::(41,bT afZ findSpec)::(23,bT afW G1)::(17,Gx (bT afX vX))::gy
noncomputable def Vj (n:Nat)(f g:Nat->f_):fD:={cv with cT:=λk=>aD k (WX n f g qQ)}
theorem Jg (n:Nat)(f g:Nat->f_)(z:Bool)(o c:Nat)(kk:Option Nat)(key to:f_):dB (.s 1 (.n (.m 2 (.s 0 .k)) (.n .k (.n (.s 4 (.m 2 (.s 0 (.m 3 (.s 1 (.m 3 (.s 0 (.m 3 (.s 4 (.n (.s 0 (.n (.s 0 (.n (.n (.s 1 (.n (.s 2 (.c G 3 .t)) (.c G 2 .t))) (.c G 1 .t)) (.c G 0 .t))) (.s 0 (.n (.n (.s 1 (.n (.s 2 (.c G 3 .t)) (.c G 2 .t))) (.c G 1 .t)) (.c G 0 .t))))) (.s 0 (.n (.s 0 (.n (.c G 0 .t) (.c G 0 .t))) (.s 0 (.n (.c G 0 .t) (.c G 0 .t))))))))))))))) .t)))) (iX (Vj n f g) 10 Tryz.f10 [.bE 0 2 z o 0 n c,.str H key,.str H to] [iY z o c n f g kk] (.ret (.bool H G))) ((True/\∃(b:HoG),b.n<9223372036854775808/\(z=b.z/\o=b.o/\n=b.n/\c=b.c)/\aa (SB.view z o n [av.str f,av.str g]) (SB.view b.z b.o b.n [av.str b.f,av.str b.g])/\Bk (Es b.n b.f b.g) (∀(i:uZ),rz (mX b.n b.f b.g).length (iK b.n b.f b.g) (aK (iK b.n b.f b.g 0)) i->Fk (6<(key.length:Int)) (ah (SV.bool G G) (SV.bool H G)) (Fk (6<(to.length:Int)) (ah (SV.bool G G) (SV.bool H G)) (Bk (!(Op.bytesLess key to||decide (key=to))) (ah (SV.bool G G) (SV.bool H G)) (∃(e:Zt),ZA e/\aK (iK b.n b.f b.g 0)=e.root/\key=e.key/\2000=e.room/\aa (SB.fmap (cY i.Fr) (aE.ref 4 i.g) L) (SB.fmap (cY e.y.Fr) (aE.ref 2 e.y.g) L)/\aa (SB.eD i.A.D [av.str i.A.dm] 4 133 H) (SB.eD e.y.A.D [av.str e.y.A.dm] 4 133 G)/\∀(v:Nat),(bt e.key e.rows).length<=v->∃(h:BlG),(Zx h/\h.root=cH h.n h.f h.g/\Bo h.fr h.to=G)/\aK (iK b.n b.f b.g 0)=h.root/\key=h.fr/\to=h.to/\e.room=h.room/\aa (SB.fmap (cY e.y.Fr) (aE.ref 4 e.y.g) L) (SB.fmap (cY h.y.Fr) (aE.ref 2 h.y.g) L)/\aa (SB.eD i.A.D [av.str i.A.dm] 4 133 H) (SB.eD h.y.A.D [av.str h.y.A.dm] 4 133 G)/\∀(w:Nat),h.ns.length<=w->(((True/\True/\True/\True/\(G=G/\0+(bt e.key e.rows).length<=(bt e.key e.rows).length)/\True)/\True)/\(jS 0 (aK (iK b.n b.f b.g 0)) key [] (bt e.key e.rows)).fits=G)/\(((True/\True/\True/\True/\(G=G/\0+h.ns.length<=h.ns.length)/\True)/\True)/\(jS 1 (aK (iK b.n b.f b.g 0)) key to (h.ns)).fits=G)/\cr (jS 0 (aK (iK b.n b.f b.g 0)) key [] (bt e.key e.rows)).put=G/\∀(d:Pp),d=dL (jS 0 (aK (iK b.n b.f b.g 0)) key [] (bt e.key e.rows)).put->∀(x:Nat),d.n<=x->cr (jS 1 (aK (iK b.n b.f b.g 0)) key to (h.ns)).put=G/\∀(a:Pp),a=dL (jS 1 (aK (iK b.n b.f b.g 0)) key to (h.ns)).put->∀(B:Nat),a.n<=B->(((True/\True/\True/\True/\(G=G/\0+d.n<=d.n)/\True)/\True)/\GQ n f g d)/\Bk (qm n f g d) (∀(C:Nat),(ak d.key d.iM (aB n f g)).length<=C->(((True/\True/\True/\True/\(G=G/\0+a.n<=a.n)/\True)/\True)/\GQ n f g a)/\Bk (qm n f g a) (∀(E:Nat),(ak a.key a.iM (aB n f g)).length<=E->(((z=z/\o=o/\0+n<=n)/\True/\True)/\n<9223372036854775808)/\Bk (Eo n f g key) (Fk ((↑(ak d.key d.iM (aB n f g)).length:Int)=1) (((0:Int)<=(0:Int)/\0<(↑(ak d.key d.iM (aB n f g)).length:Int))/\0<(ak d.key d.iM (aB n f g)).length/\Fk (((ak d.key d.iM (aB n f g)).getD 0 ([],[])).1=key) (((0:Int)<=(0:Int)/\0<(↑(ak d.key d.iM (aB n f g)).length:Int))/\0<(ak d.key d.iM (aB n f g)).length/\Fk (((ak d.key d.iM (aB n f g)).getD 0 ([],[])).2=J9 n f g key) ((((z=z/\o=o/\0+n<=n)/\(True/\True/\True)/\True)/\n<=1000/\(∀(j:Nat),j<n->(f j).length<1099511627776)/\key.length<=1000/\to.length<=1000)/\∀(F:Nat),(ak key to (aB n f g)).length<=F->(((G=G/\0+(ak a.key a.iM (aB n f g)).length<=(ak a.key a.iM (aB n f g)).length)/\(G=G/\0+(ak key to (aB n f g)).length<=(ak key to (aB n f g)).length)/\True)/\(ak a.key a.iM (aB n f g)).length<9223372036854775808)/\(iF (ak a.key a.iM (aB n f g)).length (fun(I:Nat)=>((ak a.key a.iM (aB n f g)).getD I ([],[])).1) (fun(J:Nat)=>((ak a.key a.iM (aB n f g)).getD J ([],[])).2) (ak key to (aB n f g)).length (fun(K:Nat)=>((ak key to (aB n f g)).getD K ([],[])).1) fun(M:Nat)=>((ak key to (aB n f g)).getD M ([],[])).2)=G/\ah (SV.bool G G) (SV.bool H G)) (ah (SV.bool G H) (SV.bool H G))) (ah (SV.bool G H) (SV.bool H G))) (ah (SV.bool G H) (SV.bool H G))) (Fk ((↑(ak d.key d.iM (aB n f g)).length:Int)=0) ((((z=z/\o=o/\0+n<=n)/\(True/\True/\True)/\True)/\n<=1000/\(∀(l:Nat),l<n->(f l).length<1099511627776)/\key.length<=1000/\to.length<=1000)/\∀(N:Nat),(ak key to (aB n f g)).length<=N->(((G=G/\0+(ak a.key a.iM (aB n f g)).length<=(ak a.key a.iM (aB n f g)).length)/\(G=G/\0+(ak key to (aB n f g)).length<=(ak key to (aB n f g)).length)/\True)/\(ak a.key a.iM (aB n f g)).length<9223372036854775808)/\(iF (ak a.key a.iM (aB n f g)).length (fun(O:Nat)=>((ak a.key a.iM (aB n f g)).getD O ([],[])).1) (fun(P:Nat)=>((ak a.key a.iM (aB n f g)).getD P ([],[])).2) (ak key to (aB n f g)).length (fun(Q:Nat)=>((ak key to (aB n f g)).getD Q ([],[])).1) fun(R:Nat)=>((ak key to (aB n f g)).getD R ([],[])).2)=G/\ah (SV.bool G G) (SV.bool H G)) (ah (SV.bool G H) (SV.bool H G)))) ((((z=z/\o=o/\0+n<=n)/\True/\True)/\n<9223372036854775808)/\Bk (Eo n f g key) (Fk ((↑(ak d.key d.iM (aB n f g)).length:Int)=1) (((0:Int)<=(0:Int)/\0<(↑(ak d.key d.iM (aB n f g)).length:Int))/\0<(ak d.key d.iM (aB n f g)).length/\Fk (((ak d.key d.iM (aB n f g)).getD 0 ([],[])).1=key) (((0:Int)<=(0:Int)/\0<(↑(ak d.key d.iM (aB n f g)).length:Int))/\0<(ak d.key d.iM (aB n f g)).length/\Fk (((ak d.key d.iM (aB n f g)).getD 0 ([],[])).2=J9 n f g key) ((((z=z/\o=o/\0+n<=n)/\(True/\True/\True)/\True)/\n<=1000/\(∀(p:Nat),p<n->(f p).length<1099511627776)/\key.length<=1000/\to.length<=1000)/\∀(S:Nat),(ak key to (aB n f g)).length<=S->((True/\(G=G/\0+(ak key to (aB n f g)).length<=(ak key to (aB n f g)).length)/\True)/\(0:Nat)<(9223372036854775808:Nat))/\(iF 0 (fun(_u92:Nat)=>[]) (fun(_u91:Nat)=>[]) (ak key to (aB n f g)).length (fun(T:Nat)=>((ak key to (aB n f g)).getD T ([],[])).1) fun(U:Nat)=>((ak key to (aB n f g)).getD U ([],[])).2)=G/\ah (SV.bool G G) (SV.bool H G)) (ah (SV.bool G H) (SV.bool H G))) (ah (SV.bool G H) (SV.bool H G))) (ah (SV.bool G H) (SV.bool H G))) (Fk ((↑(ak d.key d.iM (aB n f g)).length:Int)=0) ((((z=z/\o=o/\0+n<=n)/\(True/\True/\True)/\True)/\n<=1000/\(∀(q:Nat),q<n->(f q).length<1099511627776)/\key.length<=1000/\to.length<=1000)/\∀(V:Nat),(ak key to (aB n f g)).length<=V->((True/\(G=G/\0+(ak key to (aB n f g)).length<=(ak key to (aB n f g)).length)/\True)/\(0:Nat)<(9223372036854775808:Nat))/\(iF 0 (fun(_u66:Nat)=>[]) (fun(_u65:Nat)=>[]) (ak key to (aB n f g)).length (fun(W:Nat)=>((ak key to (aB n f g)).getD W ([],[])).1) fun(X:Nat)=>((ak key to (aB n f g)).getD X ([],[])).2)=G/\ah (SV.bool G G) (SV.bool H G)) (ah (SV.bool G H) (SV.bool H G))))) ((((True/\True/\True/\True/\(G=G/\0+a.n<=a.n)/\True)/\True)/\GQ n f g a)/\Bk (qm n f g a) (∀(Y:Nat),(ak a.key a.iM (aB n f g)).length<=Y->(((z=z/\o=o/\0+n<=n)/\True/\True)/\n<9223372036854775808)/\Bk (Eo n f g key) (ah (SV.bool G H) (SV.bool H G)) ((((z=z/\o=o/\0+n<=n)/\(True/\True/\True)/\True)/\n<=1000/\(∀(r:Nat),r<n->(f r).length<1099511627776)/\key.length<=1000/\to.length<=1000)/\∀(Z:Nat),(ak key to (aB n f g)).length<=Z->(((G=G/\0+(ak a.key a.iM (aB n f g)).length<=(ak a.key a.iM (aB n f g)).length)/\(G=G/\0+(ak key to (aB n f g)).length<=(ak key to (aB n f g)).length)/\True)/\(ak a.key a.iM (aB n f g)).length<9223372036854775808)/\(iF (ak a.key a.iM (aB n f g)).length (fun(a0:Nat)=>((ak a.key a.iM (aB n f g)).getD a0 ([],[])).1) (fun(a1:Nat)=>((ak a.key a.iM (aB n f g)).getD a1 ([],[])).2) (ak key to (aB n f g)).length (fun(a2:Nat)=>((ak key to (aB n f g)).getD a2 ([],[])).1) fun(a3:Nat)=>((ak key to (aB n f g)).getD a3 ([],[])).2)=G/\ah (SV.bool G G) (SV.bool H G))) ((((z=z/\o=o/\0+n<=n)/\True/\True)/\n<9223372036854775808)/\Bk (Eo n f g key) (ah (SV.bool G H) (SV.bool H G)) ((((z=z/\o=o/\0+n<=n)/\(True/\True/\True)/\True)/\n<=1000/\(∀(u:Nat),u<n->(f u).length<1099511627776)/\key.length<=1000/\to.length<=1000)/\∀(a4:Nat),(ak key to (aB n f g)).length<=a4->((True/\(G=G/\0+(ak key to (aB n f g)).length<=(ak key to (aB n f g)).length)/\True)/\(0:Nat)<(9223372036854775808:Nat))/\(iF 0 (fun(_u9:Nat)=>[]) (fun(_u8:Nat)=>[]) (ak key to (aB n f g)).length (fun(u5:Nat)=>((ak key to (aB n f g)).getD u5 ([],[])).1) fun(u2:Nat)=>((ak key to (aB n f g)).getD u2 ([],[])).2)=G/\ah (SV.bool G G) (SV.bool H G)))))))) (ah (SV.bool G G) (SV.bool H G)))):=⟨by kernel_rfl,by kernel_rfl⟩
section
attribute [local irreducible] aK bG getD bH bw af au dL cr Pp.put Pp.ok Pp.fits bt
theorem EM:ay (X9 Vk 29 aC [] (.ret (.bool G G))):=by
 refine ay.A5 Ud (by delta Fk;exact rfl) ?_;have hB:Es 2 eF eG=true:=by decide +kernel
 have T:ah (.bool G G) (.bool G G):=λ_=>rfl;refine⟨⟨2,eF,eG,0,2⟩,⟨by decide,hB⟩,⟨rfl,rfl,rfl⟩,JZ _,λy hy=> ?_⟩;have hr:=zH 2 eF eG;have hk:[(98:UInt8)].length<=6:=by show(1:Nat)<=6;decide
 refine⟨⟨2,eF,eG,y,[98],cH 2 eF eG,2000⟩,⟨hy,by show(1:Nat)<=1000;decide,rfl⟩,rfl,rfl,rfl,aa.fmap (λ_=>rfl) (λ_=>rfl),GZ,λc hc=> ?_⟩;have hf:=D9 hy.oC (root:=cH 2 eF eG) (key:=[98]) rfl hk;have V: ∀ k:Nat,True/\True/\True/\True/\(G=G/\0+k<=k)/\True:=λk=>⟨trivial,trivial,trivial,trivial,⟨rfl,by omega⟩,trivial⟩
 refine⟨⟨⟨V _,trivial⟩,hf⟩,yJ hf,λq hq c2 hc2=> ?_⟩;obtain⟨e1,e2,e3,e4,e5,e6,e7⟩:=xz hf hq;have own:=Rx hy.oC hy.apart (root:=cH 2 eF eG) rfl hk hq;have hto:q.iM=[98]:=by unfold Pp.iM;rw[e2,e4];rfl
 have eB:ak [98] [98] (aB 2 eF eG)=[([98],[50])]:=by decide +kernel
 have has:qm 2 eF eG q=true:=by unfold qm m4;rw[e4,eB,e2];rfl
 rw[hto,e4,eB];refine⟨⟨⟨V _,trivial⟩,own,has⟩,λc3 hc3=> ?_⟩;have hS:iG (bt [98] (aB 2 (λi=>au (eF i)) eG)).length (λi=>(bt [98] (aB 2 (λi=>au (eF i)) eG)).getD i []) q.n q.f=true:=Gr.2 ⟨e6.symm,λi hi=>(e7 i (by rw[e6];exact hi)).symm⟩;have ok0:(jS 0 (cH 2 eF eG) [98] [] (bt [98] (aB 2 (λi=>au (eF i)) eG))).ok=true:=by unfold Pp.fits at hf;rw[O] at hf;exact hf.1
 have hw:=GW [98] (aB 2 (λi=>au (eF i)) eG);refine⟨⟨⟨⟨trivial,trivial,trivial,trivial,trivial,trivial⟩,trivial⟩,?_⟩,trivial,?_⟩
 ·unfold Pp.ok;rfl
 ·rw[e2,e3,e5];have no: ∀ {A B:Prop} {d:Decidable A},A→@decide A d=H->B:=λa h=>absurd a (m_ h);refine⟨λ_=>⟨λ_=>⟨λ_=>⟨λ_=>⟨⟨⟨⟨rfl,by omega⟩,⟨rfl,by omega⟩,trivial⟩,b5 hw (by decide)⟩,hS,λh=> ?_,λ_=>⟨λ_=>⟨⟨by decide,by decide⟩,by decide,λ_=>⟨⟨⟨V _,trivial⟩,trivial⟩,ok0,T⟩,λh=>no rfl h⟩,λh=>no rfl h⟩⟩,λh=>no rfl h⟩,λh=>no rfl h⟩,λh=>no rfl h⟩,λh=>no rfl h⟩;have:=l_ h;rw[this] at hr;exact absurd hr (by decide)
end
theorem Po:ax J 29 (bY qQ):=by
 refine ee (n:=40) Tryz.func29 (by kernel_rfl) (by kernel_rfl) ?_;intro vs q a h hq
 match vs,h with
 | [],h =>cases h;exact⟨_,adY,rfl,rfl,EM⟩
end
section
open Go Sx
set_option maxRecDepth 20000
end
end Go.Proofs.YtoibaecagklkaaaGreatDoor
