/-
  Wire: items: the contract; read: the set-up.
-/
import Derived.Test.YtoibaecagklkaaaGreatDoorMv
import Derived.Test.YtoibaecagklkaaaGreatDoorMs
import Derived.Test.YtoibaecagklkaaaGreatDoorMp
import Derived.Test.YtoibaecagklkaaaGreatDoorMq
open And renaming intro->N
open Bool renaming and_eq_true->Q,eq_false_iff->T,false->d,not_eq_false'->O,not_eq_true'->P,true->D
open Decidable renaming decide->K
open Go.IntKind renaming i64->I
open Go.LoopState renaming ready->J
open Go.Proofs.Tryz renaming f28->W,f32->X,f36->Y,f40->Z,f78->ag,prog->L
open Int renaming le_trans->a!,toNat_natCast->an
open Nat renaming beq->az,blt_eq->a_,lt_of_le_of_lt->bl,mul_one->bn,sub_self->b_,succ_lt_succ->b!,zero_add->V,zero_le->M
open Option renaming none->H,some->G
namespace Go.Proofs.YtoibaecagklkaaaGreatDoor
open Go Sx
variable {s:e_}{c k n:Nat}{x:Nat×Nat}
section
open Go Sx
set_option maxRecDepth 20000
def tY:List SV->Option (Prop×Bool×cN×cN)
 | [.int .i64 d _,.str d s]=>G (s.length<1099511627776,fo s,Oa s,mI)
 | _=>H
theorem Qo:yq L 123 (sZ tY):=by
 refine Md (fn:=Tryz.f123) Tryz.func123 (by kernel_rfl) (by kernel_rfl) ?_;intro args p b a q h hp;unfold tY at h;split at h
 ·rename_i n s;injection h with h;injection h with h1 h;injection h with h2 h;injection h with h3 h4;subst h1;subst h2;subst h3;subst h4;have hle:=j7 s;refine⟨Kr,[],100,OW,bz,rfl,(λc=>⟨rfl,rfl,λk=>by simp[SV.wf,a_],λE E' k k' h=>by simp only[SV.val,SB.no] at h ⊢;cases hz:az (au (af s)) 0<;>simp_all⟩),tn,av.gV (Wm n s) (by delta Bk;exact rfl) ?_⟩
  refine⟨by omega,λh1=>⟨by omega,λh2=>λx hx=>⟨?_,x,hx,ah.refl _,λ_=>rfl⟩,λh2=>⟨?_,iF⟩⟩,λh1 x=>⟨?_,iF⟩⟩
  all_goals (unfold fo;simp_all)
 ·cases h
noncomputable def aas:List (FuncId×(PK->PT)):=(123,sZ tY)::aar
theorem NG: ∀ e∈ aas,yq L e.1 e.2:=λe he=>by
 rcases List.mem_cons.1 he with rfl | he
 ·exact Qo
 ·exact NF e he
noncomputable def EE:dm:=Ca Ab aas
theorem OX:di L EE:=Cb (nF AB 20) NG
noncomputable def T5 (s:e_):aX :=
 {α:=Unit,pre:=λ_ _=>True,jx:=λ_ _=>0,fresh:=1,slots:=λst _=>[(6,.ptr st.nx D 0)],
  mem:=λst _=>[(st.nx,.cells [.int .i64 d (jI (aY s 0)),.str d (af (aY s 1)),.str d (af (aY s 2)),.str d (af (aY s 3)),.aK] 5 63)]}
noncomputable def Sc (s:e_):aX :=
 {α:=Nat×Nat,pre:=λ_ x=>ov (au (af (aY s 4))) x,jx:=λ_ x=>au (af (aY s 4)) - x.1,fresh:=1,slots:=λ_ x=>[(54,.int .i64 d x.1)],
  mem:=λst x=>[(Zn st 6,.cells [.int .i64 d (jI (aY s 0)),.str d (af (aY s 1)),.str d (af (aY s 2)),.str d (af (aY s 3)),.bx st.nx 1 D 0 x.1 x.2] 5 63),(st.nx,.rows D x.1 [.str (gu s).f] d x.2 9)]}
noncomputable def zZ (s:e_):nA:=[(8,always (Sc s)),(1006,always (T5 s))]
def Ml (s:e_):cN:=.all Nat λc=>.req (au (af (aY s 4))<=c) (.new (λk=>(gu s).sv (.bx k 1 D 0 (au (af (aY s 4))) c)) (.rows D (au (af (aY s 4))) [.str (gu s).f] d c 9))
theorem Y1 (s:e_):VC.holds (Gv EE (zZ s) ag [.str d s] (dc s) (Ml s) mI)=((λb:Nat->SB=>((λh:SB=>((λp:SB=>((λq:(Nat×Nat)->SB=>((λr:SB=>((λe:e_=>((λg:SV=>((λl:SB=>((λi:SV=>((Bk (!decide ((s.length:Int)<=65536)) (dc s=d/\∃(w:Int),ah l (SB.cells [SV.int .i64 d w,SV.iface 30 (SV.int .i64 D 2)] 2 255)/\aa (SV.iface 253 (SV.ptr 1 D 0)) (SV.iface 253 (SV.ptr 1 D 0))) (s.length<1099511627776/\Bk (fo s) (∀(a:Nat),au (af s)<=a->Bk (!decide ((↑(au (af s)):Int)=5)) (dc s=d/\∃(x:Int),ah l (SB.cells [SV.int .i64 d x,SV.iface 30 (SV.int .i64 D 2)] 2 255)/\aa i i) (((0:Int)<=(0:Int)/\0<(↑(au (af s)):Int))/\0<au (af s)/\(aj (af s) 0).length<9223372036854775808/\Bk (kP (aj (af s) 0)) (Bk (!decide (num (af (aj (af s) 0))<=1)) (dc s=d/\∃(y:Int),ah (SB.cells [SV.int .i64 D 0,SV.iface 30 (SV.int .i64 D 2)] 2 255) (SB.cells [SV.int .i64 d y,SV.iface 30 (SV.int .i64 D 2)] 2 255)/\aa i i) ((((-9223372036854775808:Int)<=num (af (aj (af s) 0)) /\num (af (aj (af s) 0))<=9223372036854775807)/\((0:Int)<=(1:Int)/\1<(↑(au (af s)):Int))/\1<au (af s)/\((0:Int)<=(2:Int)/\2<(↑(au (af s)):Int))/\2<au (af s)/\((0:Int)<=(3:Int)/\3<(↑(au (af s)):Int))/\3<au (af s)/\((aj (af s) 1).length<9223372036854775808/\Bk (cC (aj (af s) 1) d) (G (b a)=G (b a)/\G (b a)=G (b a)/\((aj (af s) 2).length<9223372036854775808/\Bk (cC (aj (af s) 2) d) (G (b a)=G (b a)/\((aj (af s) 3).length<9223372036854775808/\Bk (cC (aj (af s) 3) d) (G (b a)=G (b a)/\G (b a)=G (b a)/\G (b a)=G (b a)/\∃(_u49:Unit),True/\(0:Nat)=(0:Nat)/\ah p r/\ah (b a) (b a)/\ah h h/\True) (∀(z:Int),dc s=d/\∃(A:Int),ah (SB.cells [SV.int .i64 d z,SV.iface 30 (SV.int .i64 D 2)] 2 255) (SB.cells [SV.int .i64 d A,SV.iface 30 (SV.int .i64 D 2)] 2 255)/\aa i i)) /\G (b a)=G (b a)/\G (b a)=G (b a)/\G (b a)=G (b a)/\(aj (af s) 3).length<9223372036854775808/\Bk (cC (aj (af s) 3) d) (∃(_u46:Unit),True/\(0:Nat)=(0:Nat)/\ah p r/\ah (b a) (b a)/\ah h h/\True) (∀(B:Int),dc s=d/\∃(C:Int),ah (SB.cells [SV.int .i64 d B,SV.iface 30 (SV.int .i64 D 2)] 2 255) (SB.cells [SV.int .i64 d C,SV.iface 30 (SV.int .i64 D 2)] 2 255)/\aa g g)) (∀(E:Int),dc s=d/\∃(F:Int),ah (SB.cells [SV.int .i64 d E,SV.iface 30 (SV.int .i64 D 2)] 2 255) (SB.cells [SV.int .i64 d F,SV.iface 30 (SV.int .i64 D 2)] 2 255)/\aa i i))/\G (b a)=G (b a)/\G (b a)=G (b a)/\G (b a)=G (b a)/\(aj (af s) 2).length<9223372036854775808/\Bk (cC (aj (af s) 2) d) (G (b a)=G (b a)/\(aj (af s) 3).length<9223372036854775808/\Bk (cC (aj (af s) 3) d) (∃(_u41:Unit),True /\(0:Nat)=(0:Nat)/\ah p r/\ah (b a) (b a)/\ah h h/\True) (∀(H:Int),dc s=d/\∃(I:Int),ah (SB.cells [SV.int .i64 d H,SV.iface 30 (SV.int .i64 D 2)] 2 255) (SB.cells [SV.int .i64 d I,SV.iface 30 (SV.int .i64 D 2)] 2 255)/\aa g g)) (∀(J:Int),dc s=d/\∃(L:Int),ah (SB.cells [SV.int .i64 d J,SV.iface 30 (SV.int .i64 D 2)] 2 255) (SB.cells [SV.int .i64 d L,SV.iface 30 (SV.int .i64 D 2)] 2 255)/\aa g g)) (∀(M:Int),dc s=d/\∃(N:Int),ah (SB.cells [SV.int .i64 d M,SV.iface 30 (SV.int .i64 D 2)] 2 255) (SB.cells [SV.int .i64 d N,SV.iface 30 (SV.int .i64 D 2)] 2 255)/\aa i i))/\G (b a)=G (b a)/\G (b a)=G (b a)/\G (b a)=G (b a)/\(aj (af s) 1).length<9223372036854775808/\Bk (cC (aj (af s) 1) d) (G (b a)=G (b a)/\G (b a)=G (b a)/\(aj (af s) 2).length<9223372036854775808 /\Bk (cC (aj (af s) 2) d) (G (b a)=G (b a)/\(aj (af s) 3).length<9223372036854775808/\Bk (cC (aj (af s) 3) d) (∃(_u34:Unit),True/\(0:Nat)=(0:Nat)/\ah p r/\ah (b a) (b a)/\ah h h/\True) (∀(O:Int),dc s=d/\∃(P:Int),ah (SB.cells [SV.int .i64 d O,SV.iface 30 (SV.int .i64 D 2)] 2 255) (SB.cells [SV.int .i64 d P,SV.iface 30 (SV.int .i64 D 2)] 2 255)/\aa g g)) (∀(Q:Int),dc s=d/\∃(R:Int),ah (SB.cells [SV.int .i64 d Q,SV.iface 30 (SV.int .i64 D 2)] 2 255) (SB.cells [SV.int .i64 d R,SV.iface 30 (SV.int .i64 D 2)] 2 255)/\aa g g)) (∀(S:Int),dc s=d/\∃(T:Int),ah (SB.cells [SV.int .i64 d S,SV.iface 30 (SV.int .i64 D 2)] 2 255) (SB.cells [SV.int .i64 d T,SV.iface 30 (SV.int .i64 D 2)] 2 255)/\aa g g))/\∀(_u27:Unit),True->((0:Int)<=(4:Int)/\4<(↑(au (af s)):Int))/\4<au (af s) /\(aj (af s) 4).length<1099511627776/\Bk (fo (aj (af s) 4)) (∀(m:Nat),au e<=m->(∃(o:Nat×Nat),ov (au (af (aY s 4))) o/\0=(o.1:Int)/\(5:Nat)=(5:Nat)/\jI (aY s 0)=jI (aY s 0)/\af (aY s 1)=af (aY s 1)/\af (aY s 2)=af (aY s 2)/\af (aY s 3)=af (aY s 3)/\o.1=0/\(SB.rows D o.1 [aE.str λU=>af (aj (af (aY s 4)) U)] d o.2 9).no=D/\ah (SB.rows D (au e) [aE.str (aj e)] d m 9) (SB.rows D (au e) [aE.str (aj e)] d m 9)/\ah (b a) (b a)/\ah h h/\True)/\∀(c:Nat×Nat),ov (au (af (aY s 4))) c->Fk ((c.1:Int)<(↑(au e):Int)) ((0<=(c.1:Int)/\(c.1:Int)<(↑(au e):Int))/\0+(c.1:Int).toNat<au e/\(aj e (0+(c.1:Int).toNat)).length<9223372036854775808/\Bk (cC (aj e (0+(c.1:Int).toNat)) d) (G (q c)=G (q c)/\G (q c)=G (q c)/\(0+c.1<=c.1/\True/\2*(c.1+1)*16<=(281474976710656:Nat) /\c.1+1<(9223372036854775808:Nat))/\c.2=c.2*1/\∀(t:Nat),c.1+1<=t->I6 ((c.1:Int)+1)/\∃(j:Nat×Nat),(ov (au (af (aY s 4))) j/\au (af (aY s 4)) - j.1<au (af (aY s 4)) - c.1)/\(c.1:Int)+1=(j.1:Int)/\(5:Nat)=(5:Nat)/\jI (aY s 0)=jI (aY s 0)/\af (aY s 1)=af (aY s 1)/\af (aY s 2)=af (aY s 2)/\af (aY s 3)=af (aY s 3)/\((0:Nat)=(0:Nat)/\c.1+1=j.1/\t=j.2)/\True/\ah (SB.rows D (c.1+1) [aE.str λu=>if u<c.1 then af (aj (af (aY s 4)) u)else bZ [af (aj e (0+(c.1:Int).toNat))] (u - c.1)] d (t*1) 9) (SB.rows D j.1 [aE.str λV=>af (aj (af (aY s 4)) V)] d j.2 9)/\ah (SB.rows D (au e) [aE.str (aj e)] d m 9) (SB.rows D (au e) [aE.str (aj e)] d m 9)/\ah (b a) (b a)/\ah h h/\True) (∀(W:Int),dc s=d/\∃(X:Int),ah (SB.cells [SV.int .i64 d W,SV.iface 30 (SV.int .i64 D 2)] 2 255) (SB.cells [SV.int .i64 d X,SV.iface 30 (SV.int .i64 D 2)] 2 255)/\aa (SV.iface 253 (SV.ptr 5 D 0)) (SV.iface 253 (SV.ptr 5 D 0)))) ((((True/\True/\True/\True/\(D=D/\0+c.1<=c.1)/\True)/\True)/\True)/\({k:=jI (aY s 0),root:=af (aY s 1),key:=af (aY s 2),to:=af (aY s 3),n:=c.1,f:=fun(Y:Nat)=>af (aj (af (aY s 4)) Y):Pp}.ok=D->(K (65536<(↑{k:=jI (aY s 0),root:=af (aY s 1),key:=af (aY s 2),to:=af (aY s 3),n:=c.1,f:=fun(Z:Nat)=>af (aj (af (aY s 4)) Z):Pp}.put.length:Int))=D->dc s=d/\∃(a0:Int),ah l (SB.cells [SV.int .i64 d a0,SV.iface 30 (SV.int .i64 D 2)] 2 255)/\aa (SV.iface 253 (SV.ptr 5 D 0)) (SV.iface 253 (SV.ptr 5 D 0))) /\(K (65536<(↑{k:=jI (aY s 0),root:=af (aY s 1),key:=af (aY s 2),to:=af (aY s 3),n:=c.1,f:=fun(a1:Nat)=>af (aj (af (aY s 4)) a1):Pp}.put.length:Int))=d->((!decide ({k:=jI (aY s 0),root:=af (aY s 1),key:=af (aY s 2),to:=af (aY s 3),n:=c.1,f:=fun(a2:Nat)=>af (aj (af (aY s 4)) a2):Pp}.put=s))=D->dc s=d/\∃(a3:Int),ah l (SB.cells [SV.int .i64 d a3,SV.iface 30 (SV.int .i64 D 2)] 2 255)/\aa (SV.iface 253 (SV.ptr 5 D 0)) (SV.iface 253 (SV.ptr 5 D 0)))/\((!decide ({k:=jI (aY s 0),root:=af (aY s 1),key:=af (aY s 2),to:=af (aY s 3),n:=c.1,f:=fun(a4:Nat)=>af (aj (af (aY s 4)) a4):Pp}.put=s))=d->dc s=D/\∃(v:Nat),au (af (aY s 4))<=v/\ah (SB.rows D c.1 [aE.str λu8=>af (aj (af (aY s 4)) u8)] d c.2 9) (SB.rows D (au (af (aY s 4))) [aE.str λu7=>af (aj (af (aY s 4)) u7)] d v 9) /\aa (SV.agg [SV.int .i64 d (jI (aY s 0)),SV.str d (af (aY s 1)),SV.str d (af (aY s 2)),SV.str d (af (aY s 3)),SV.bx 4 1 D 0 c.1 c.2]) (SV.agg [SV.int .i64 d (jI (aY s 0)),SV.str d (af (aY s 1)),SV.str d (af (aY s 2)),SV.str d (af (aY s 3)),SV.bx 4 1 D 0 (au (af (aY s 4))) v]))))/\({k:=jI (aY s 0),root:=af (aY s 1),key:=af (aY s 2),to:=af (aY s 3),n:=c.1,f:=fun(u6:Nat)=>af (aj (af (aY s 4)) u6):Pp}.ok=d->dc s=d/\∃(u5:Int),ah l (SB.cells [SV.int .i64 d u5,SV.iface 30 (SV.int .i64 D 2)] 2 255)/\aa (SV.iface 253 (SV.ptr 5 D 0)) (SV.iface 253 (SV.ptr 5 D 0))))) (∀(u4:Int),dc s=d/\∃(u3:Int),ah (SB.cells [SV.int .i64 d u4,SV.iface 30 (SV.int .i64 D 2)] 2 255) (SB.cells [SV.int .i64 d u3,SV.iface 30 (SV.int .i64 D 2)] 2 255)/\aa g g))) (dc s=d /\∃(u2:Int),ah (SB.cells [SV.int .i64 D 0,SV.iface 30 (SV.int .i64 D 2)] 2 255) (SB.cells [SV.int .i64 d u2,SV.iface 30 (SV.int .i64 D 2)] 2 255)/\aa i i))) (∀(u1:Int),dc s=d/\∃(u0:Int),ah (SB.cells [SV.int .i64 d u1,SV.iface 30 (SV.int .i64 D 2)] 2 255) (SB.cells [SV.int .i64 d u0,SV.iface 30 (SV.int .i64 D 2)] 2 255)/\aa (SV.iface 253 (SV.ptr 1 D 0)) (SV.iface 253 (SV.ptr 1 D 0))))))) (SV.iface 253 (SV.ptr 2 D 0)))) (SB.cells [SV.int .i64 D (-1:Int),SV.iface 30 (SV.int .i64 D 2)] 2 255))) (SV.iface 253 (SV.ptr 3 D 0)))) (af (aj (af s) 4)))) (SB.cells [SV.int .i64 d (jI (aY s 0)),SV.str d (af (aY s 1)),SV.str d (af (aY s 2)),SV.str d (af (aY s 3)),SV.aK] 5 63))) (fun(c:Nat×Nat)=>(SB.cells [SV.int .i64 d (jI (aY s 0)),SV.str d (af (aY s 1)),SV.str d (af (aY s 2)),SV.str d (af (aY s 3)),SV.bx 4 1 D 0 c.1 c.2] 5 63)))) (SB.cells [SV.int .i64 d (num (af (aj (af s) 0))),SV.str d (af (aj (af s) 1)),SV.str d (af (aj (af s) 2)),SV.str d (af (aj (af s) 3)),SV.aK] 5 63))) (SB.cells (SV.agg [SV.int .i64 D 0,SV.str D [],SV.str D [],SV.str D [],SV.aK]).cells 5 63))) (fun(a:Nat)=>(SB.rows D (au (af s)) [aE.str (aj (af s))] d a 9))):=by kernel_rfl
theorem MD {x:Pp}(h:x.Small): ∀ y∈ x.rows,Whole y:=λy hy=>by obtain⟨i,hi,rfl⟩:=Jm hy;have:=h.row i hi;exact lq (by omega)
theorem Pp.Jn {x:Pp}(h:x.Small):ow (dn x.rows) x.rows:=A4 (MD h) (by have:=Pp.vP h;omega)
theorem Pp.Yg {x:Pp}(h:x.Small):ow x.put x.items:=by
 refine A4 (λy hy=> ?_) (by have:=Pp.xe h;omega);have:=h.k;have:=h.root;have:=h.key;have:=h.to;simp only[Pp.items,List.mem_cons,List.not_mem_nil,or_false] at hy;rcases hy with rfl | rfl | rfl | rfl | rfl
 ·exact IL (by omega) (by omega)
 ·exact lq (by omega)
 ·exact lq (by omega)
 ·exact lq (by omega)
 ·exact(Pp.Jn h).whole
theorem mO {b:e_}(h:b.length<=1048576):cC (aq b) d=true:=by obtain⟨h1,h2,h3,_⟩:=ux h;simp[cC,h1,h2,h3]
theorem ow.inside {t:e_}{l:List e_}(h:ow t l):cC t D=D/\fo t=true:=by
 have:cC t D=true:=by simp[cC,h.b,h.li,h.r]
 exact⟨this,by simp[fo,this,h.ib]⟩
structure wF (s:e_):Prop where
 len:(s.length:Int)<=65536
 whole:fo s=D
 n5:au (af s)=5
 g0:kP (aj (af s) 0)=D
 k0:0<=num (af (aj (af s) 0))/\num (af (aj (af s) 0))<=1
 i1:cC (aj (af s) 1) d=D
 i2:cC (aj (af s) 2) d=D
 i3:cC (aj (af s) 3) d=D
 w4:fo (aj (af s) 4)=D
 n4:au (af (aj (af s) 4))<=200
 r4: ∀ i,i<au (af (aj (af s) 4))->cC (aj (af (aj (af s) 4)) i) d=D
theorem Me {x:Pp}(h:x.fits=D):wF x.put:=by
 unfold Pp.fits at h;simp only[Q,P,decide_eq_false_iff_not] at h;have hs:=Pp.qM h.1;have hc:=Pp.Yg hs;have hr:=Pp.Jn hs;obtain⟨h1,h2,h3,h4,h5,h6⟩:=hs;have e0:=hc.at' 0 _ rfl;have e1:=hc.at' 1 _ rfl;have e2:=hc.at' 2 _ rfl;have e3:=hc.at' 3 _ rfl;have e4:=hc.at' 4 _ rfl;have hn:=xM (n:=x.k) (by omega) (by omega);have hrow:x.rows.length=x.n:=gQ _ _ _;refine⟨by omega,hc.inside.2,hc.n,?_,?_,?_,?_,?_,?_,?_,λi hi=> ?_⟩
 ·rw[e0];exact hn.1
 ·rw[e0];have:num (af (numOf x.k))=x.k:=hn.2.2.2.2;rw[this];omega
 ·rw[e1];exact mO (by omega)
 ·rw[e2];exact mO (by omega)
 ·rw[e3];exact mO (by omega)
 ·rw[e4];exact hr.inside.2
 ·rw[e4,hr.n,hrow];exact h5
 ·rw[e4] at hi ⊢;rw[hr.n,hrow] at hi;obtain⟨y,hy⟩: ∃ y,x.rows[i]?=G y:=⟨_,List.getElem?_eq_getElem (by omega)⟩
  rw[hr.at' i y hy];obtain⟨_,h8⟩:=vO (f:=dI x.f) hy;rw[← h8,V];have:=h6 i hi;show cC (aq (x.f i)) d=D;exact mO (by omega)
theorem KU (h:dc s=D):wF s/\(gu s).ok=D/\(gu s).put=s:=by unfold dc at h;simp only[Q,decide_eq_true_eq] at h;have:=Me h.1;rw[h.2] at this;have ho:=h.1;unfold Pp.fits at ho;simp only[Q] at ho;exact⟨this,ho.1,h.2⟩
theorem rL :dc s=D↔(gu s).ok=D/\¬ (65536:Int)<((gu s).put.length:Int)/\(gu s).put=s:=by unfold dc Pp.fits;simp[and_assoc]
section
variable {s : e_}
theorem fB (h:wF s->False):dc s=false:=T.2 λhB=>h (KU hB).1
theorem RE (h:(!decide ((↑s.length:Int)<=(65536:Int)))=D):dc s=false:=fB λF=>by have:=F.len;simp only[P,decide_eq_false_iff_not] at h;exact h this
theorem J7 (h:fo s=d):dc s=false:=fB λF=>by have:=F.whole;rw[h] at this;cases this
theorem Nf (h:(!decide ((↑(au (af s)):Int)=(5:Int)))=D):dc s=false:=fB λF=>by have:=F.n5;simp only[P,decide_eq_false_iff_not] at h;omega
theorem WT (h:kP (aj (af s) 0)=d):dc s=false:=fB λF=>by have:=F.g0;rw[h] at this;cases this
theorem WX (h:(!decide (num (af (aj (af s) 0))<=(1:Int)))=D):dc s=false:=fB λF=>by have:=F.k0;simp only[P,decide_eq_false_iff_not] at h;omega
theorem WU (h:cC (aj (af s) 1) d=d):dc s=false:=fB λF=>by have:=F.i1;rw[h] at this;cases this
theorem WV (h:cC (aj (af s) 2) d=d):dc s=false:=fB λF=>by have:=F.i2;rw[h] at this;cases this
theorem WW (h:cC (aj (af s) 3) d=d):dc s=false:=fB λF=>by have:=F.i3;rw[h] at this;cases this
theorem WZ (h:fo (aj (af s) 4)=d):dc s=false:=fB λF=>by have:=F.w4;rw[h] at this;cases this
theorem RF {i:Nat}(h:cC (aj (af (aj (af s) 4)) i) d=d)(hi:K ((i:Int)<(au (af (aj (af s) 4)):Int))=D):dc s=false:=fB λF=>by simp only[decide_eq_true_eq] at hi;have:=F.r4 i (by omega);rw[h] at this;cases this
def rB (s:e_)(n:Nat):Pp:={k:=jI (aY s 0),root:=af (aY s 1),key:=af (aY s 2),to:=af (aY s 3),n:=n,f:=fun(i:Nat)=>af (aj (af (aY s 4)) i)}
theorem ou (hg:ov (au (af (aY s 4))) x)(hi:K ((x.1:Int)<(au (af (aj (af s) 4)):Int))=d):x.1=au (af (aY s 4)):=by
 simp only[decide_eq_false_iff_not] at hi;have h1:x.1<=au (af (aj (af s) 4)):=hg.le;have h2:x.1=au (af (aj (af s) 4)):=by omega
 exact h2
theorem lu (h:n=au (af (aY s 4))):rB s n=gu s:=by rw[h,rB,gu]
theorem WY (e:n=au (af (aY s 4)))(h:(rB s n).ok=d):dc s=false:=by rw[lu e] at h;exact T.2 λhB=>by rw[(rL.1 hB).1] at h;cases h
theorem J6 (e:n=au (af (aY s 4)))(h:K ((65536:Int)<((rB s n).put.length:Int))=D):dc s=false:=by rw[lu e] at h;simp only[decide_eq_true_eq] at h;exact T.2 λhB=>(rL.1 hB).2.1 h
theorem Ng (e:n=au (af (aY s 4)))(h:(!decide ((rB s n).put=s))=D):dc s=false:=by rw[lu e] at h;simp only[P,decide_eq_false_iff_not] at h;exact T.2 λhB=>h (rL.1 hB).2.2
theorem GU (e:n=au (af (aY s 4)))(h1:(rB s n).ok=D)(h2:K ((65536:Int)<((rB s n).put.length:Int))=d)(h3:(!decide ((rB s n).put=s))=d):dc s=true:=by rw[lu e] at h1 h2 h3;simp only[O,decide_eq_true_eq] at h3;simp only[decide_eq_false_iff_not] at h2;exact rL.2 ⟨h1,h2,h3⟩
theorem pQ (h:(!decide ((↑s.length:Int)<=(65536:Int)))=d)(k:Nat):(aj (af s) k).length<=65536:=by simp only[O,decide_eq_true_eq] at h;have h1:=nN (af s) k;have h2:=j7 s;omega
theorem J' (h:(!decide ((↑s.length:Int)<=(65536:Int)))=d)(k i:Nat):(aj (af (aj (af s) k)) i).length<=65536:=by have h1:=pQ h k;have h2:=nN (af (aj (af s) k)) i;have h3:=j7 (aj (af s) k);omega
theorem RD (h:(!decide ((↑s.length:Int)<=(65536:Int)))=d)(hw:fo (aj (af s) 4)=D):au (af (aj (af s) 4))<=65536:=by have h1:=pQ h 4;have h3:=j7 (aj (af s) 4);unfold fo at hw;simp only[Q] at hw;have:=Pr hw.2;omega
theorem RG (h:(!decide ((↑s.length:Int)<=(65536:Int)))=d):s.length<=65536:=by simp only[O,decide_eq_true_eq] at h;omega
theorem Nc (h:(!decide ((↑(au (af s)):Int)=(5:Int)))=d):au (af s)=5:=by simp only[O,decide_eq_true_eq] at h;omega
theorem Em (h:(!decide (num (af (aj (af s) 0))<=(1:Int)))=d):0<=num (af (aj (af s) 0))/\num (af (aj (af s) 0))<=1:=by simp only[O,decide_eq_true_eq] at h;exact⟨L7 _,h⟩
theorem GS:ah (SB.cells [SV.int I d (num (af (aj (af s) (0:Nat)))),SV.str d (af (aj (af s) (1:Nat))),SV.str d (af (aj (af s) (2:Nat))),SV.str d (af (aj (af s) (3:Nat))),SV.aK] (5:Nat) 63)
  (SB.cells [SV.int I d (jI (aY s (0:Nat))),SV.str d (af (aY s (1:Nat))),SV.str d (af (aY s (2:Nat))),SV.str d (af (aY s (3:Nat))),SV.aK] (5:Nat) 63):=ah.refl _
end
theorem En (h:K ((x.1:Int)<(au (af (aj (af s) 4)):Int))=D):x.1<au (af (aj (af s) 4)):=by simp only[decide_eq_true_eq] at h;omega
theorem J9 (_hg:ov (au (af (aY s 4))) x)(h:K ((x.1:Int)<(au (af (aj (af s) 4)):Int))=D)(hc:x.1+1<=c) :
  ov (au (af (aY s 4))) (x.1+1,c)/\au (af (aY s 4)) - (x.1+1)<au (af (aY s 4)) - x.1:=by
 have h1:x.1<au (af (aY s 4)):=En h;exact⟨⟨h1,hc⟩,by omega⟩
theorem J8 :ah (SB.rows D (k+1) [aE.str λj=>if j<k then af (aj (af (aY s 4)) j)else bZ [af (aj (af (aj (af s) 4)) k)] (j - k)] d (c*1) 9)
  (SB.rows D (k+1) [aE.str λi=>af (aj (af (aY s 4)) i)] d c 9):=by
 refine Sx.ah.iJ rfl (by omega) λi hi=> ?_;by_cases h:i<k
 ·rw[if_pos h]
 ·have e:i=k:=by omega
  subst e;rw[if_neg h,b_];rfl
theorem CB {l:Bool}{k':Nat}{n:Int}: ∃(x:Int),ah (SB.cells [SV.int I l n,SV.iface 30 (SV.int I D (2:Int))] (2:Nat) 255) (SB.cells [SV.int I d x,SV.iface 30 (SV.int I D (2:Int))] (2:Nat) 255) /\
  aa (SV.iface 253 (SV.ptr k D k')) (SV.iface 253 (SV.ptr k D k')):=⟨n,ah.cells (λ_E=>rfl) rfl,λ_=>rfl⟩
attribute [local irreducible] aj au cS af bO aF cy fo cC kP num jI dc Pp.put Pp.ok aY
theorem J5 (hg:ov (au (af (aY s 4))) x)(hi:K ((x.1:Int)<(au (af (aj (af s) 4)):Int))=d) :
  ∃ c,au (af (aY s 4))<=c/\ah (SB.rows D x.1 [aE.str λi=>af (aj (af (aY s 4)) i)] d x.2 9) (SB.rows D (au (af (aY s 4))) [aE.str λi=>af (aj (af (aY s 4)) i)] d c 9) /\
    aa (SV.agg [SV.int I d (jI (aY s (0:Nat))),SV.str d (af (aY s (1:Nat))),SV.str d (af (aY s (2:Nat))),SV.str d (af (aY s (3:Nat))),SV.bx k (1:Nat) D (0:Nat) x.1 x.2]) ((gu s).sv (SV.bx k (1:Nat) D (0:Nat) (au (af (aY s 4))) c)):=by
 have e:=ou hg hi;have hc:=hg.cap;rw[e] at hc ⊢;exact⟨x.2,hc,ah.refl _,by simp only[gu,Pp.sv];exact λ_=>rfl⟩
set_option maxHeartbeats 4000000 in
theorem I3 (s:e_):av (Gv EE (zZ s) ag [.str d s] (dc s) (Ml s) mI):=by
 refine av.gV (Y1 s) (by delta Bk Fk;exact rfl) ?_;simp only[an,V]
 repeat' first
  | exact trivial
  | exact ah.refl _
  | exact CB
  | exact RE (by assumption)
  | exact J7 (by assumption)
  | exact Nf (by assumption)
  | exact WT (by assumption)
  | exact WX (by assumption)
  | exact WU (by assumption)
  | exact WV (by assumption)
  | exact WW (by assumption)
  | exact WZ (by assumption)
  | refine N ?_ ?_
  | (have:=En (x:=y) (by assumption);have:=RD (by assumption) (by assumption);omega)
  | intro (c:Nat) (hc:y.1+1<=c)
  | refine⟨(y.1+1,c),J9 hy (by assumption) hc,by simp,trivial,trivial,trivial,trivial,trivial,⟨trivial,rfl,rfl⟩,trivial,J8,ah.refl _,ah.refl _,ah.refl _,trivial⟩
  | exact J5 hy (by assumption)
  | intro (_:_=D)
  | intro (_:_=d)
  | intro (_:Int)
  | intro (_:Nat)
  | intro (_:_<=_)
  | (have:=RG (by assumption);omega)
  | exact bl (pQ (by assumption) _) (by omega)
  | (have:=Nc (by assumption);omega)
  | exact a! (by omega) (Em (by assumption)).1
  | exact a! (Em (by assumption)).2 (by omega)
  | refine⟨(),trivial,trivial,GS,ah.refl _,ah.refl _,trivial⟩
  | intro (_:Unit)
  | intro (_:True)
  | refine⟨(0,0),⟨M _,M _⟩,rfl,trivial,trivial,trivial,trivial,trivial,rfl,rfl,ah.refl _,ah.refl _,ah.refl _,trivial⟩
  | exact RF (by assumption) (by assumption)
  | exact WY (ou hy (by assumption)) (by assumption)
  | exact J6 (ou hy (by assumption)) (by assumption)
  | exact Ng (ou hy (by assumption)) (by assumption)
  | exact GU (ou hy (by assumption)) (by assumption) (by assumption) (by assumption)
  | exact bl (J' (by assumption) _ _) (by omega)
  | intro (y:Nat×Nat) (hy:ov _ _)
  | fail
def xS:List SV->Option (Prop×Bool×cN×cN)
 | [.str d s]=>G (True,dc s,Ml s,mI)
 | _=>H
theorem U':yq L 78 (sZ xS):=by
 refine Md (fn:=ag) Tryz.func78 (by kernel_rfl) (by kernel_rfl) ?_;intro args p b a q h hp;unfold xS at h;split at h
 ·rename_i s;injection h with h;injection h with h1 h;injection h with h2 h;injection h with h3 h4;subst h1;subst h2;subst h3;subst h4;refine⟨EE,zZ s,100,OX,bz,rfl,(λc=>⟨rfl,rfl,λk=>by simp[Pp.sv,SV.wf,SV.e9,a_],λE E' k k' h=> ?_⟩),tn,I3 s⟩;simp only[Pp.sv,SV.val,SV.vals,SB.no] at h ⊢;cases hz:az (au (af (aY s 4))) 0 with
  | true=>simp
  | false=>rw[hz] at h;rw[h rfl]
 ·cases h
noncomputable def acU:List (FuncId×(PK->PT)):=(78,sZ xS)::aas
theorem Xv: ∀ e∈ acU,yq L e.1 e.2:=λe he=>by
 rcases List.mem_cons.1 he with rfl | he
 ·exact U'
 ·exact NG e he
noncomputable def EF:dm:=Ca Ab acU
theorem OY:di L EF:=Cb (nF AB 20) Xv
noncomputable def ZT (cfg:dK)(C:dm)(f:Nat)(fn:Func)(args:List SV)(a:cN):VC:=Vy L cfg C [] (cfg.bh f) cfg.rounds fn args [] 0 (λv m _=>a.fit v m)
end
section
open Go Sx
set_option maxRecDepth 20000
theorem ach (s:e_):VC.holds (ZT Hg EF 40 Z [.str d s] (NM s))=((True/\Bk (dc s) (∀(a:Nat),au (af (aY s 4))<=a->Bk (dc s) (∃(b:Nat),au (af (aY s 4))<=b/\ah (SB.rows D (au (af (aY s 4))) [aE.str λc=>af (aj (af (aY s 4)) c)] d a 9) (SB.rows D (au (af (aY s 4))) [aE.str λu2=>af (aj (af (aY s 4)) u2)] d b 9)/\aa (SV.aD [SV.agg [SV.int .i64 d (jI (aY s 0)),SV.str d (af (aY s 1)),SV.str d (af (aY s 2)),SV.str d (af (aY s 3)),SV.bx 2 1 D 0 (au (af (aY s 4))) a],SV.int .i64 D 0]) (SV.aD [SV.agg [SV.int .i64 d (jI (aY s 0)),SV.str d (af (aY s 1)),SV.str d (af (aY s 2)),SV.str d (af (aY s 3)),SV.bx 2 1 D 0 (au (af (aY s 4))) b],SV.int .i64 D 0])) (aa (SV.aD [SV.agg [SV.int .i64 d (jI (aY s 0)),SV.str d (af (aY s 1)),SV.str d (af (aY s 2)),SV.str d (af (aY s 3)),SV.bx 2 1 D 0 (au (af (aY s 4))) a],SV.int .i64 D 0]) (SV.aD [SV.agg [SV.int .i64 D 0,SV.str D [],SV.str D [],SV.str D [],SV.aK],SV.int .i64 D 2]))) (∀(_u1:Int),Bk (dc s) (∃(e:Nat),au (af (aY s 4))<=e/\False) (aa (SV.aD [SV.agg [SV.int .i64 D 0,SV.str D [],SV.str D [],SV.str D [],SV.aK],SV.int .i64 D 2]) (SV.aD [N5,SV.int .i64 D 2]))))):=by kernel_rfl
theorem TG (s:e_):(NM s).Ok:=λb=>by
 cases b with
 | false=>exact rfl
 | true =>
   refine λc=>⟨rfl,rfl,λk=>by simp[Pp.sv,SV.wf,SV.e9,a_],λE E' k k' h=> ?_⟩
   simp only[Pp.sv,SV.val,SV.vals,SB.no] at h ⊢;cases hz:az (au (af (aY s 4))) 0 with
   | true=>simp
   | false=>rw[hz] at h;rw[h rfl]
attribute [local irreducible] aj au cS af bO aF cy jI dc aY
theorem Mh (s:e_):av (ZT Hg EF 40 Z [.str d s] (NM s)):=by
 refine av.gV (ach s) (by delta Bk;exact rfl) ?_;cases h:dc s with
 | true=>exact⟨trivial,λ_ x hx=>⟨λ_=>⟨x,hx,by first | exact ah.refl _ | (simp only[gu];exact ah.refl _),by first | exact λ_=>rfl | (simp only[gu,Pp.sv];exact λ_=>rfl)⟩,(λh=>by cases h)⟩,(λh=>by cases h)⟩
 | false=>exact⟨trivial,(λh=>by cases h),λ_ _=>⟨(λh=>by cases h),λ_ _=>rfl⟩⟩
def vz:List SV->Option (Prop×cN)
 | [.str d s]=>G (True,NM s)
 | _=>H
theorem N9:ax L 40 (bw vz):=by
 refine Xp (fn:=Z) Tryz.func40 (by kernel_rfl) (by kernel_rfl) ?_;intro args p a h hp;unfold vz at h;split at h
 ·rename_i s;cases h;exact⟨Hg,EF,AB,OY,rfl,TG s,Mh s⟩
 ·cases h
noncomputable def Ut:List (FuncId×PT):=(40,bw vz)::LH
theorem PM:aQ L (λf=>ay f Ut):=.cons N9 (aZ _) Dy
end
section
open Go Sx
set_option maxRecDepth 20000
noncomputable def SK (x:Pp):dK:={bE with cm:=λf=>ay f FL,bh:=λf=>if f=36 then [(4,always (oA 3 x.n (dV x.f)))] else []}
theorem aaH (x:Pp):Sx.Good L (SK x):=.of bz xy aU
noncomputable def RY (tmp slot:Nat)(n:Nat)(f:Nat->e_):aX :=
 {α:=Nat×Nat,pre:=λ_ x=>ov n x,jx:=λ_ x=>n - x.1,fresh:=1,slots:=λst x=>[(tmp,.int .i64 d x.1),(slot,.bx st.nx 1 D 0 x.1 x.2)],
  mem:=λst x=>[(st.nx,.rows D x.1 [.str f] d x.2 9)]}
theorem V9 (x:Pp)(z:Bool)(o c:Nat)(key:Option Nat):VC.holds (fN (SK x) 36 Y [x.sv (.aS 0 1 z o 0 x.n c)] [cE z o c x key] (.ret (.bool d x.ok)))=(Bk (!decide (x.k=(0:Int))) (Bk (!decide (x.k=(1:Int))) (aa (SV.bool D d) (SV.bool d x.ok)) (Bk (!decide ((↑x.root.length:Int)=(32:Int))) (aa (SV.bool D d) (SV.bool d x.ok)) (Fk ((6:Int)<(↑x.key.length:Int)) (aa (SV.bool D d) (SV.bool d x.ok)) (Fk ((6:Int)<(↑x.to.length:Int)) (aa (SV.bool D d) (SV.bool d x.ok)) (Fk (x.k=(0:Int)) (Bk (!decide (x.to=[])) (aa (SV.bool D d) (SV.bool d x.ok)) (Fk ((200:Int)<(↑x.n:Int)) (aa (SV.bool D d) (SV.bool d x.ok)) ((∃(y:Nat),fM x.n (dV x.f) y /\(0:Int)=(↑y:Int) /\ah (SB.cells (x.sv (SV.aS (0:Nat) (1:Nat) z o (0:Nat) x.n c)).cells (5:Nat) (67:Nat)) (SB.cells (x.sv (SV.aS (0:Nat) (1:Nat) z o (0:Nat) x.n c)).cells (5:Nat) (67:Nat)) /\ah (cE z o c x key).B (cE z o c x key).B /\True) /\∀(x_9:Nat),fM x.n (dV x.f) x_9 ->Fk ((↑x_9:Int)<(↑x.n:Int)) (((0:Int)<=(↑x_9:Int) /\(↑x_9:Int)<(↑x.n:Int)) /\(o=o /\(0:Nat)+(↑x_9:Int).toNat<x.n) /\Fk ((1000:Int)<(↑(x.f ((0:Nat)+(↑x_9:Int).toNat)).length:Int)) (aa (SV.bool D d) (SV.bool d x.ok)) (((-9223372036854775808:Int)<=(↑x_9:Int)+(1:Int) /\(↑x_9:Int)+(1:Int)<=(9223372036854775807:Int)) /\∃(y:Nat),(fM x.n (dV x.f) y /\x.n - y<x.n - x_9) /\(↑x_9:Int)+(1:Int)=(↑y:Int) /\ah (SB.cells (x.sv (SV.aS (0:Nat) (1:Nat) z o (0:Nat) x.n c)).cells (5:Nat) (67:Nat)) (SB.cells (x.sv (SV.aS (0:Nat) (1:Nat) z o (0:Nat) x.n c)).cells (5:Nat) (67:Nat)) /\ah (cE z o c x key).B (cE z o c x key).B /\True)) (aa (SV.bool D D) (SV.bool d x.ok))))) (Fk ((200:Int)<(↑x.n:Int)) (aa (SV.bool D d) (SV.bool d x.ok)) ((∃(y:Nat),fM x.n (dV x.f) y /\(0:Int)=(↑y:Int) /\ah (SB.cells (x.sv (SV.aS (0:Nat) (1:Nat) z o (0:Nat) x.n c)).cells (5:Nat) (67:Nat)) (SB.cells (x.sv (SV.aS (0:Nat) (1:Nat) z o (0:Nat) x.n c)).cells (5:Nat) (67:Nat)) /\ah (cE z o c x key).B (cE z o c x key).B /\True) /\∀(x_8:Nat),fM x.n (dV x.f) x_8 ->Fk ((↑x_8:Int)<(↑x.n:Int)) (((0:Int)<=(↑x_8:Int) /\(↑x_8:Int)<(↑x.n:Int)) /\(o=o /\(0:Nat)+(↑x_8:Int).toNat<x.n) /\Fk ((1000:Int)<(↑(x.f ((0:Nat)+(↑x_8:Int).toNat)).length:Int)) (aa (SV.bool D d) (SV.bool d x.ok)) (((-9223372036854775808:Int)<=(↑x_8:Int)+(1:Int) /\(↑x_8:Int)+(1:Int)<=(9223372036854775807:Int)) /\∃(y:Nat),(fM x.n (dV x.f) y /\x.n - y<x.n - x_8) /\(↑x_8:Int)+(1:Int)=(↑y:Int) /\ah (SB.cells (x.sv (SV.aS (0:Nat) (1:Nat) z o (0:Nat) x.n c)).cells (5:Nat) (67:Nat)) (SB.cells (x.sv (SV.aS (0:Nat) (1:Nat) z o (0:Nat) x.n c)).cells (5:Nat) (67:Nat)) /\ah (cE z o c x key).B (cE z o c x key).B /\True)) (aa (SV.bool D D) (SV.bool d x.ok))))))))) (Bk (!decide ((↑x.root.length:Int)=(32:Int))) (aa (SV.bool D d) (SV.bool d x.ok)) (Fk ((6:Int)<(↑x.key.length:Int)) (aa (SV.bool D d) (SV.bool d x.ok)) (Fk ((6:Int)<(↑x.to.length:Int)) (aa (SV.bool D d) (SV.bool d x.ok)) (Fk (x.k=(0:Int)) (Bk (!decide (x.to=[])) (aa (SV.bool D d) (SV.bool d x.ok)) (Fk ((200:Int)<(↑x.n:Int)) (aa (SV.bool D d) (SV.bool d x.ok)) ((∃(y:Nat),fM x.n (dV x.f) y /\(0:Int)=(↑y:Int) /\ah (SB.cells (x.sv (SV.aS (0:Nat) (1:Nat) z o (0:Nat) x.n c)).cells (5:Nat) (67:Nat)) (SB.cells (x.sv (SV.aS (0:Nat) (1:Nat) z o (0:Nat) x.n c)).cells (5:Nat) (67:Nat)) /\ah (cE z o c x key).B (cE z o c x key).B /\True) /\∀(x_8:Nat),fM x.n (dV x.f) x_8 ->Fk ((↑x_8:Int)<(↑x.n:Int)) (((0:Int)<=(↑x_8:Int) /\(↑x_8:Int)<(↑x.n:Int)) /\(o=o /\(0:Nat)+(↑x_8:Int).toNat<x.n) /\Fk ((1000:Int)<(↑(x.f ((0:Nat)+(↑x_8:Int).toNat)).length:Int)) (aa (SV.bool D d) (SV.bool d x.ok)) (((-9223372036854775808:Int)<=(↑x_8:Int)+(1:Int) /\(↑x_8:Int)+(1:Int)<=(9223372036854775807:Int)) /\∃(y:Nat),(fM x.n (dV x.f) y /\x.n - y<x.n - x_8) /\(↑x_8:Int)+(1:Int)=(↑y:Int) /\ah (SB.cells (x.sv (SV.aS (0:Nat) (1:Nat) z o (0:Nat) x.n c)).cells (5:Nat) (67:Nat)) (SB.cells (x.sv (SV.aS (0:Nat) (1:Nat) z o (0:Nat) x.n c)).cells (5:Nat) (67:Nat)) /\ah (cE z o c x key).B (cE z o c x key).B /\True)) (aa (SV.bool D D) (SV.bool d x.ok))))) (Fk ((200:Int)<(↑x.n:Int)) (aa (SV.bool D d) (SV.bool d x.ok)) ((∃(y:Nat),fM x.n (dV x.f) y /\(0:Int)=(↑y:Int) /\ah (SB.cells (x.sv (SV.aS (0:Nat) (1:Nat) z o (0:Nat) x.n c)).cells (5:Nat) (67:Nat)) (SB.cells (x.sv (SV.aS (0:Nat) (1:Nat) z o (0:Nat) x.n c)).cells (5:Nat) (67:Nat)) /\ah (cE z o c x key).B (cE z o c x key).B /\True) /\∀(x_7:Nat),fM x.n (dV x.f) x_7 ->Fk ((↑x_7:Int)<(↑x.n:Int)) (((0:Int)<=(↑x_7:Int) /\(↑x_7:Int)<(↑x.n:Int)) /\(o=o /\(0:Nat)+(↑x_7:Int).toNat<x.n) /\Fk ((1000:Int)<(↑(x.f ((0:Nat)+(↑x_7:Int).toNat)).length:Int)) (aa (SV.bool D d) (SV.bool d x.ok)) (((-9223372036854775808:Int)<=(↑x_7:Int)+(1:Int) /\(↑x_7:Int)+(1:Int)<=(9223372036854775807:Int)) /\∃(y:Nat),(fM x.n (dV x.f) y /\x.n - y<x.n - x_7) /\(↑x_7:Int)+(1:Int)=(↑y:Int) /\ah (SB.cells (x.sv (SV.aS (0:Nat) (1:Nat) z o (0:Nat) x.n c)).cells (5:Nat) (67:Nat)) (SB.cells (x.sv (SV.aS (0:Nat) (1:Nat) z o (0:Nat) x.n c)).cells (5:Nat) (67:Nat)) /\ah (cE z o c x key).B (cE z o c x key).B /\True)) (aa (SV.bool D D) (SV.bool d x.ok))))))))):=by kernel_rfl
end
section
open Go Sx
set_option maxRecDepth 20000
set_option maxHeartbeats 4000000 in
theorem Fs (x:Pp)(z:Bool)(o c:Nat)(key:Option Nat):av (fN (SK x) 36 Y [x.sv (.aS 0 1 z o 0 x.n c)] [cE z o c x key] (.ret (.bool d x.ok))):=by
 refine av.gV (V9 x z o c key) (by delta Bk Fk;exact rfl) ?_;simp only[an,V];unfold Pp.ok;have h01:K (x.k=0)=D->K (x.k=1)=false:=by simp only[decide_eq_true_eq,decide_eq_false_iff_not];omega
 generalize K (x.k=0)=b1 at h01 ⊢;generalize K (x.k=1)=b2 at h01 ⊢;generalize K (x.to=[])=b3;generalize K ((x.root.length:Int)=32)=b4;generalize K ((6:Int)<(x.key.length:Int))=b5;generalize K ((6:Int)<(x.to.length:Int))=b6;generalize hr:k8 x.n x.f=b9
 repeat' first
  | exact trivial
  | exact ah.refl _
  | apply N
  | intro (_:_=D)
  | intro (_:_=d)
  | refine⟨0,⟨M _,λj hj=>absurd hj (Nat.not_lt_zero _)⟩,rfl,?_⟩
  | intro (i:Nat) (hi:fM _ _ i)
  | refine⟨i+1,⟨i6 hi ?_ ?_,?_⟩,?_,?_⟩
  | fail
 all_goals try simp only[decide_eq_true_eq,decide_eq_false_iff_not] at *
 all_goals first
  | omega
  | exact yP (by assumption)
  | (apply cV;subst hr;rw[k8,kK hi (by assumption)];simp_all;done)
  | (apply cV;subst hr;rw[k8,i7 (i:=i) (by assumption) (IE (by assumption))];simp_all;done)
  | (apply cV;simp_all;done)
theorem wX:ax L 36 (bQ BU eY):=by
 refine dN (n:=20) (fn:=Y) Tryz.func36 (by kernel_rfl) (by kernel_rfl) ?_;intro vs l q a h hq;unfold eY at h;split at h
 ·rename_i x r hx;obtain⟨z,o,c,key⟩:=r;cases h;obtain⟨e1,e2⟩:=iP hx;rw[e1,e2];exact⟨_,aaH x,rfl,rfl,Fs x z o c key⟩
 ·cases h
noncomputable def NX:List (FuncId×PT):=(36,bQ BU eY)::FL
theorem Ly:aQ L (λf=>ay f NX):=.cons wX (bR _ _) xy
noncomputable def SJ (x:Pp):dK:={bE with cm:=λf=>ay f NX,bh:=λf=>if f=32 then [(5,always (RY 5 4 x.n (dI x.f)))] else []}
theorem aaG (x:Pp):Sx.Good L (SJ x):=.of bz Ly aU
end
section
open Go Sx
set_option maxRecDepth 20000
theorem ab5 (x:Pp)(z:Bool)(o c:Nat)(key:Option Nat):VC.holds (fN (SJ x) 32 X [x.sv (.aS 0 1 z o 0 x.n c)] [cE z o c x key] (I5 x))=((((True /\True /\True /\True /\(z=z /\o=o /\(0:Nat)+x.n<=x.n) /\True) /\True) /\True) /\((!{k:=x.k,root:=x.root,key:=x.key,to:=x.to,n:=x.n,f:=fun(j:Nat)=>x.f j:Pp}.ok)=D ->Bk x.ok (Fk ((65536:Int)<(↑x.put.length:Int)) (aa (SV.aD [SV.str D [],SV.int I D (1:Int)]) (SV.aD [SV.str D [],SV.int I D (8:Int)])) (aa (SV.aD [SV.str D [],SV.int I D (1:Int)]) (SV.aD [SV.str d x.put,SV.int I D (0:Int)]))) (aa (SV.aD [SV.str D [],SV.int I D (1:Int)]) (SV.aD [SV.str D [],SV.int I D (1:Int)]))) /\((!{k:=x.k,root:=x.root,key:=x.key,to:=x.to,n:=x.n,f:=fun(j:Nat)=>x.f j:Pp}.ok)=d ->(∃(y:Nat×Nat),ov x.n y /\(0:Int)=(↑y.1:Int) /\y.1=(0:Nat) /\(SB.rows D y.1 [aE.str (dI x.f)] d y.2 (9:TypeId)).no=D /\ah (SB.cells (x.sv (SV.aS (0:Nat) (1:Nat) z o (0:Nat) x.n c)).cells (5:Nat) (67:Nat)) (SB.cells (x.sv (SV.aS (0:Nat) (1:Nat) z o (0:Nat) x.n c)).cells (5:Nat) (67:Nat)) /\ah (cE z o c x key).B (cE z o c x key).B /\True) /\∀(x_2:Nat×Nat),ov x.n x_2 ->Fk ((↑x_2.1:Int)<(↑x.n:Int)) (((0:Int)<=(↑x_2.1:Int) /\(↑x_2.1:Int)<(↑x.n:Int)) /\(o=o /\(0:Nat)+(↑x_2.1:Int).toNat<x.n) /\(x.f ((0:Nat)+(↑x_2.1:Int).toNat)).length<(1152921504606846976:Nat) /\((0:Nat)+x_2.1<=x_2.1 /\True /\(2:Nat)*(x_2.1+(1:Nat))*(16:Nat)<=(281474976710656:Nat) /\x_2.1+(1:Nat)<(9223372036854775808:Nat)) /\x_2.2=x_2.2*(1:Nat) /\∀(c_1:Nat),x_2.1+(1:Nat)<=c_1 ->((-9223372036854775808:Int)<=(↑x_2.1:Int)+(1:Int) /\(↑x_2.1:Int)+(1:Int)<=(9223372036854775807:Int)) /\∃(y:Nat×Nat),(ov x.n y /\x.n - y.1<x.n - x_2.1) /\(↑x_2.1:Int)+(1:Int)=(↑y.1:Int) /\((0:Nat)=(0:Nat) /\x_2.1+(1:Nat)=y.1 /\c_1=y.2) /\True /\ah (SB.rows D (x_2.1+(1:Nat)) [aE.str fun(j:Nat)=>if j<x_2.1 then dI x.f j else bZ [aq (x.f ((0:Nat)+(↑x_2.1:Int).toNat))] (j - x_2.1)] d (c_1*(1:Nat)) (9:Nat)) (SB.rows D y.1 [aE.str (dI x.f)] d y.2 (9:TypeId)) /\ah (SB.cells (x.sv (SV.aS (0:Nat) (1:Nat) z o (0:Nat) x.n c)).cells (5:Nat) (67:Nat)) (SB.cells (x.sv (SV.aS (0:Nat) (1:Nat) z o (0:Nat) x.n c)).cells (5:Nat) (67:Nat)) /\ah (cE z o c x key).B (cE z o c x key).B /\True) (((0:Int)<=x.k% (18446744073709551616:Int) /\x.k% (18446744073709551616:Int)<(18446744073709551616:Int)) /\G (SB.cells [SV.int I d x.k,SV.str d x.root,SV.str d x.key,SV.str d x.to,SV.aS (0:Nat) (1:Nat) z o (0:Nat) x.n c] (5:Nat) (67:Nat))=G (SB.cells [SV.int I d x.k,SV.str d x.root,SV.str d x.key,SV.str d x.to,SV.aS (0:Nat) (1:Nat) z o (0:Nat) x.n c] (5:Nat) (67:Nat)) /\G (SB.cells [SV.int I d x.k,SV.str d x.root,SV.str d x.key,SV.str d x.to,SV.aS (0:Nat) (1:Nat) z o (0:Nat) x.n c] (5:Nat) (67:Nat))=G (SB.cells [SV.int I d x.k,SV.str d x.root,SV.str d x.key,SV.str d x.to,SV.aS (0:Nat) (1:Nat) z o (0:Nat) x.n c] (5:Nat) (67:Nat)) /\G (SB.cells [SV.int I d x.k,SV.str d x.root,SV.str d x.key,SV.str d x.to,SV.aS (0:Nat) (1:Nat) z o (0:Nat) x.n c] (5:Nat) (67:Nat))=G (SB.cells [SV.int I d x.k,SV.str d x.root,SV.str d x.key,SV.str d x.to,SV.aS (0:Nat) (1:Nat) z o (0:Nat) x.n c] (5:Nat) (67:Nat)) /\x.root.length<(1152921504606846976:Nat) /\G (SB.cells [SV.int I d x.k,SV.str d x.root,SV.str d x.key,SV.str d x.to,SV.aS (0:Nat) (1:Nat) z o (0:Nat) x.n c] (5:Nat) (67:Nat))=G (SB.cells [SV.int I d x.k,SV.str d x.root,SV.str d x.key,SV.str d x.to,SV.aS (0:Nat) (1:Nat) z o (0:Nat) x.n c] (5:Nat) (67:Nat)) /\G (SB.cells [SV.int I d x.k,SV.str d x.root,SV.str d x.key,SV.str d x.to,SV.aS (0:Nat) (1:Nat) z o (0:Nat) x.n c] (5:Nat) (67:Nat))=G (SB.cells [SV.int I d x.k,SV.str d x.root,SV.str d x.key,SV.str d x.to,SV.aS (0:Nat) (1:Nat) z o (0:Nat) x.n c] (5:Nat) (67:Nat)) /\x.key.length<(1152921504606846976:Nat) /\G (SB.cells [SV.int I d x.k,SV.str d x.root,SV.str d x.key,SV.str d x.to,SV.aS (0:Nat) (1:Nat) z o (0:Nat) x.n c] (5:Nat) (67:Nat))=G (SB.cells [SV.int I d x.k,SV.str d x.root,SV.str d x.key,SV.str d x.to,SV.aS (0:Nat) (1:Nat) z o (0:Nat) x.n c] (5:Nat) (67:Nat)) /\x.to.length<(1152921504606846976:Nat) /\((D=D /\(0:Nat)+x_2.1<=x_2.1) /\gz (bW (fun(j:Nat)=>dI x.f j) (0:Nat) x_2.1)) /\(True /\gz [aq (digits (x.k% (18446744073709551616:Int))),aq x.root,aq x.key,aq x.to,aN (192:Int) (flat (bW (fun(j:Nat)=>dI x.f j) (0:Nat) x_2.1)).length++flat (bW (fun(j:Nat)=>dI x.f j) (0:Nat) x_2.1)]) /\Fk ((65536:Int)<(↑(aN (192:Int) (flat [aq (digits (x.k% (18446744073709551616:Int))),aq x.root,aq x.key,aq x.to,aN (192:Int) (flat (bW (fun(j:Nat)=>dI x.f j) (0:Nat) x_2.1)).length++flat (bW (fun(j:Nat)=>dI x.f j) (0:Nat) x_2.1)]).length++flat [aq (digits (x.k% (18446744073709551616:Int))),aq x.root,aq x.key,aq x.to,aN (192:Int) (flat (bW (fun(j:Nat)=>dI x.f j) (0:Nat) x_2.1)).length++flat (bW (fun(j:Nat)=>dI x.f j) (0:Nat) x_2.1)]).length:Int)) (Bk x.ok (Fk ((65536:Int)<(↑x.put.length:Int)) (aa (SV.aD [SV.str D [],SV.int I D (8:Int)]) (SV.aD [SV.str D [],SV.int I D (8:Int)])) (aa (SV.aD [SV.str D [],SV.int I D (8:Int)]) (SV.aD [SV.str d x.put,SV.int I D (0:Int)]))) (aa (SV.aD [SV.str D [],SV.int I D (8:Int)]) (SV.aD [SV.str D [],SV.int I D (1:Int)]))) (Bk x.ok (Fk ((65536:Int)<(↑x.put.length:Int)) (aa (SV.aD [SV.str d (aN (192:Int) (flat [aq (digits (x.k% (18446744073709551616:Int))),aq x.root,aq x.key,aq x.to,aN (192:Int) (flat (bW (fun(j:Nat)=>dI x.f j) (0:Nat) x_2.1)).length++flat (bW (fun(j:Nat)=>dI x.f j) (0:Nat) x_2.1)]).length++flat [aq (digits (x.k% (18446744073709551616:Int))),aq x.root,aq x.key,aq x.to,aN (192:Int) (flat (bW (fun(j:Nat)=>dI x.f j) (0:Nat) x_2.1)).length++flat (bW (fun(j:Nat)=>dI x.f j) (0:Nat) x_2.1)]),SV.int I D (0:Int)]) (SV.aD [SV.str D [],SV.int I D (8:Int)])) (aa (SV.aD [SV.str d (aN (192:Int) (flat [aq (digits (x.k% (18446744073709551616:Int))),aq x.root,aq x.key,aq x.to,aN (192:Int) (flat (bW (fun(j:Nat)=>dI x.f j) (0:Nat) x_2.1)).length++flat (bW (fun(j:Nat)=>dI x.f j) (0:Nat) x_2.1)]).length++flat [aq (digits (x.k% (18446744073709551616:Int))),aq x.root,aq x.key,aq x.to,aN (192:Int) (flat (bW (fun(j:Nat)=>dI x.f j) (0:Nat) x_2.1)).length++flat (bW (fun(j:Nat)=>dI x.f j) (0:Nat) x_2.1)]),SV.int I D (0:Int)]) (SV.aD [SV.str d x.put,SV.int I D (0:Int)]))) (aa (SV.aD [SV.str d (aN (192:Int) (flat [aq (digits (x.k% (18446744073709551616:Int))),aq x.root,aq x.key,aq x.to,aN (192:Int) (flat (bW (fun(j:Nat)=>dI x.f j) (0:Nat) x_2.1)).length++flat (bW (fun(j:Nat)=>dI x.f j) (0:Nat) x_2.1)]).length++flat [aq (digits (x.k% (18446744073709551616:Int))),aq x.root,aq x.key,aq x.to,aN (192:Int) (flat (bW (fun(j:Nat)=>dI x.f j) (0:Nat) x_2.1)).length++flat (bW (fun(j:Nat)=>dI x.f j) (0:Nat) x_2.1)]),SV.int I D (0:Int)]) (SV.aD [SV.str D [],SV.int I D (1:Int)])))))):=by kernel_rfl
theorem Pg {F:Nat->e_}{v:e_}(hv:v=F k) :
  ah (.rows D (k+1) [.str λj=>if j<k then F j else bZ [v] (j - k)] d (c*1) 9) (.rows D (k+1) [.str F] d c 9):=by
 refine Sx.ah.iJ rfl (by omega) λi hi=> ?_;by_cases h:i<k
 ·rw[if_pos h]
 ·have e:i=k:=by omega
  subst e;rw[if_neg h,b_,hv];rfl
set_option maxHeartbeats 4000000 in
theorem K1 (x:Pp)(z:Bool)(o c:Nat)(key:Option Nat):av (fN (SJ x) 32 X [x.sv (.aS 0 1 z o 0 x.n c)] [cE z o c x key] (I5 x)):=by
 refine av.gV (ab5 x z o c key) (by delta Bk Fk;exact rfl) ?_;refine⟨⟨⟨⟨trivial,trivial,trivial,trivial,⟨rfl,rfl,by omega⟩,trivial⟩,trivial⟩,trivial⟩,?_⟩;cases hx:x.ok with
 | false =>refine⟨λ_=>⟨(λh=>by cases h),λ_ _=>rfl⟩,λh=>by cases h⟩
 | true =>
   have hs:=Pp.qM hx;have hl:=Pp.xe hs;have hr:=Pp.vP hs;have hrow:x.rows.length=x.n:=gQ _ _ _;obtain⟨h1,h2,h3,h4,h5,h6⟩:=hs;have hk:x.k% 18446744073709551616=x.k:=by omega
   simp only[hk,Nat.le_refl,an,V,bn,and_self,true_and,and_true,Bool.not_true,Bool.false_eq_true,Bool.true_eq_false,false_imp_iff,forall_const];refine⟨⟨(0,0),⟨M _,M _⟩,rfl,rfl,rfl,ah.refl _,ah.refl _⟩,λy hy=>⟨λhk=> ?_,λhk=> ?_⟩⟩
   ·simp only[decide_eq_true_eq] at hk;have hk':y.1<x.n:=by omega
    have b1:=h6 y.1 hk';have hle:=hy.le;refine⟨by omega,hk',by omega,by omega,λc1 hc=>⟨by omega,(y.1+1,c1),⟨C9 (_k:=0) hy (by omega) hc,by show x.n - (y.1+1)<x.n - y.1;omega⟩,by simp,⟨rfl,rfl⟩,?_,ah.refl _,ah.refl _⟩⟩;have:=@Pg c1 y.1 (dI x.f) (aq (x.f y.1)) rfl;rw[bn] at this;exact this
   ·simp only[decide_eq_false_iff_not] at hk;have e:y.1=x.n:=by have:=hy.le;omega
    rw[e];have e1:bW (dI x.f) 0 x.n=x.rows:=rfl;have e2:aN 192 (flat x.rows).length++flat x.rows=dn x.rows:=rfl;have e3: ∀ l:e_,l=dn x.rows->[aq (digits x.k),aq x.root,aq x.key,aq x.to,l]=x.items:=λl h=>by subst h;rfl
    rw[e1,e2,e3 _ rfl];have e4:aN 192 (flat x.items).length++flat x.items=x.put:=rfl;rw[e4];have q1:gz x.rows:=by unfold gz;omega
    have q2:gz x.items:=by have:x.items.length=5:=rfl;unfold gz;omega
    generalize K ((65536:Int)<(x.put.length:Int))=b at *;refine⟨by omega,by omega,by omega,by omega,q1,q2,?_⟩;cases b with
    | true=>exact⟨λ_=>⟨λ_ _=>rfl,(λh=>by cases h)⟩,(λh=>by cases h)⟩
    | false=>exact⟨(λh=>by cases h),λ_=>⟨(λh=>by cases h),λ_ _=>rfl⟩⟩
theorem XL:ax L 32 (bQ BU mb):=by
 refine dN (n:=20) (fn:=X) Tryz.func32 (by kernel_rfl) (by kernel_rfl) ?_;intro vs l q a h hq;unfold mb at h;split at h
 ·rename_i x r hx;obtain⟨z,o,c,key⟩:=r;cases h;obtain⟨e1,e2⟩:=iP hx;rw[e1,e2];exact⟨_,aaG x,rfl,λb=>by cases b<;>first | exact rfl | (intro b;cases b<;>exact rfl),K1 x z o c key⟩
 ·cases h
theorem M8 (w:Wy)(key:e_)(kk:Option Nat):VC.holds (fN (S2 w key) 28 W [.str d w.root,.str d key,.aS 0 1 w.z w.o 0 w.n w.c] [dA w kk] (acw w key))=((λq:SV=>((λF:SB=>((λr:SV=>((λk:SB=>((λO:SB=>((λI:SV=>((λi:SB=>((λK:SV=>((λR:SV=>((λP:Wh->SB=>((λQ:Wh->SB=>((Fk (40<(w.n:Int)) (Bk ((ck w (ak key)).isSome) (aa r I) (aa r r)) (key.length<1099511627776/\∀(l:Loop),(∃(j:Wy×e_),(j.1.Ok/\True)/\(0:Nat)=(0:Nat)/\w.root=j.2/\(4:Nat)=(4:Nat)/\w.root=j.1.root/\(w.z=j.1.z/\w.o=j.1.o/\(0:Nat)=(0:Nat)/\w.n=j.1.n/\w.c=j.1.c)/\0=(j.1.u:Int)/\ah (SB.view w.z w.o w.n [aE.str w.f]) (SB.view j.1.z j.1.o j.1.n [aE.str j.1.f])/\Bk (c8 j.1 j.2) (G (SB.aV (mE 2 (pU 0 (((7:Nat),SB.loop J H l)::((6:Nat),SB.cells (SV.str d (ak key)).cells 1 9)::((5:Nat),SB.cells (SV.ptr 3 D 0).cells 1 240)::((4:Nat),SB.cells q.cells 2 58)::Mem.put 3 F (((3:Nat),SB.cells K.cells 4 188)::((2:Nat),SB.cells q.cells 2 58)::((1:Nat),SB.cells q.cells 2 58)::e8 0 [dA w kk])) j.1.view (dA w kk).B [((1:Nat),(0:Nat)),((0:Nat),(3:Nat))]) 8) (j.1.sb 1 (j.1.u+1) SV.aA))=G (SB.aV (mE 2 (pU 0 (((7:Nat),SB.loop J H l)::((6:Nat),SB.cells (SV.str d (ak key)).cells 1 9)::((5:Nat),SB.cells (SV.ptr 3 D 0).cells 1 240)::((4:Nat),SB.cells q.cells 2 58)::Mem.put 3 F (((3:Nat),SB.cells K.cells 4 188)::((2:Nat),SB.cells q.cells 2 58)::((1:Nat),SB.cells q.cells 2 58)::e8 0 [dA w kk])) j.1.view (dA w kk).B [((1:Nat),(0:Nat)),((0:Nat),(3:Nat))]) 8) (j.1.sb 1 (j.1.u+1) SV.aA))/\G k=G k/\G k=G k/\(∃(C:Wh),((∃(S:Nat),C.p.length<S/\dg w (ak key)=gE w S C.y C.p C.u) /\C.y.Good/\C.u<=w.n)/\D=D/\ah (SB.cells (bB (getD (j.1.f j.1.u))) 19 138) (SB.cells (bB C.y) 19 138)/\ah (SB.cells [SV.str d (ak key)] 1 9) (SB.cells [SV.str d C.p] 1 9)/\ah (SB.cells [SV.str d j.1.root,SV.aS 0 1 j.1.z j.1.o 0 j.1.n j.1.c,SV.int .i64 d (↑(j.1.u+1):Int),SV.aA] 4 188) (SB.cells [SV.str d w.root,SV.aS 0 1 w.z w.o 0 w.n w.c,SV.int .i64 d (C.u:Int),SV.aA] 4 188)/\ah (SB.cells [SV.bool D d,SV.str D []] 2 58) (SB.cells [SV.bool d C.b,SV.str d C.v] 2 58)/\ah (SB.loop J H l) (SB.loop J H l)/\ah k k/\ah i i/\ah i i/\ah (dA w kk).B (dA w kk).B/\True)/\(∀(g:Wh),(∃(T:Nat),g.p.length<T/\dg w (ak key)=gE w T g.y g.p g.u)/\g.y.Good/\g.u<=w.n->l=l/\True/\True/\Fk (aT g.y.again g.p=[]) (Fk ((g.u:Int)<(w.n:Int)) (G (SB.cells (bf [SV.str d w.root,SV.aS 0 1 w.z w.o 0 w.n w.c,SV.int .i64 d (g.u:Int),SV.aA] 3 (SV.iface 184 (SV.ptr 8 D 0)).cells) 4 188)=G (SB.cells (bf [SV.str d w.root,SV.aS 0 1 w.z w.o 0 w.n w.c,SV.int .i64 d (g.u:Int),SV.aA] 3 (SV.iface 184 (SV.ptr 8 D 0)).cells) 4 188)/\Bk ((ck w (ak key)).isSome) (aa r I) (aa r r)) (G (w.sb 0 g.u SV.aA)=G (w.sb 0 g.u SV.aA)/\Bk ((ck w (ak key)).isSome) (aa (SV.aD [SV.agg [SV.bool d (eS g.y.again g.p),SV.str d (fF g.y.again g.p)],SV.int .i64 D 0]) I) (aa (SV.aD [SV.agg [SV.bool d (eS g.y.again g.p),SV.str d (fF g.y.again g.p)],SV.int .i64 D 0]) r))) (∃(a:Wy×e_),(a.1.Ok/\a.2.length<9223372036854775808)/\(0:Nat)=(0:Nat)/\aT g.y.again g.p=a.2/\(4:Nat)=(4:Nat)/\w.root=a.1.root/\(w.z=a.1.z /\w.o=a.1.o/\(0:Nat)=(0:Nat)/\w.n=a.1.n/\w.c=a.1.c)/\(g.u:Int)=(a.1.u:Int)/\ah (SB.view w.z w.o w.n [aE.str w.f]) (SB.view a.1.z a.1.o a.1.n [aE.str a.1.f])/\Bk (bM a.2) (∃(s:Wh),(((∃(U:Nat),s.p.length<U/\dg w (ak key)=gE w U s.y s.p s.u)/\s.y.Good/\s.u<=w.n)/\s.p.length+1<g.p.length+1)/\D=D/\ah (SB.cells (bB (getD a.2)) 19 138) (SB.cells (bB s.y) 19 138)/\ah (SB.cells [SV.str d (bC g.y.again g.p)] 1 9) (SB.cells [SV.str d s.p] 1 9)/\ah (SB.cells [SV.str d a.1.root,SV.aS 0 1 a.1.z a.1.o 0 a.1.n a.1.c,SV.int .i64 d (a.1.u:Int),SV.aA] 4 188) (SB.cells [SV.str d w.root,SV.aS 0 1 w.z w.o 0 w.n w.c,SV.int .i64 d (s.u:Int),SV.aA] 4 188)/\ah (P g) (SB.cells [SV.bool d s.b,SV.str d s.v] 2 58)/\ah (SB.loop J H l) (SB.loop J H l)/\ah k k/\ah i i/\ah i i/\ah (dA w kk).B (dA w kk).B/\True) (Bk (bY a.2) (Bk (c8 a.1 (af a.2)) (∃(t:Wh),(((∃(V:Nat),t.p.length<V/\dg w (ak key)=gE w V t.y t.p t.u)/\t.y.Good/\t.u<=w.n)/\t.p.length+1<g.p.length+1)/\D=D/\ah (SB.cells (bB (getD (a.1.f a.1.u))) 19 138) (SB.cells (bB t.y) 19 138)/\ah (SB.cells [SV.str d (bC g.y.again g.p)] 1 9) (SB.cells [SV.str d t.p] 1 9)/\ah (SB.cells [SV.str d a.1.root,SV.aS 0 1 a.1.z a.1.o 0 a.1.n a.1.c,SV.int .i64 d (↑(a.1.u+1):Int),SV.aA] 4 188) (SB.cells [SV.str d w.root,SV.aS 0 1 w.z w.o 0 w.n w.c,SV.int .i64 d (t.u:Int),SV.aA] 4 188)/\ah (P g) (SB.cells [SV.bool d t.b,SV.str d t.v] 2 58)/\ah (SB.loop J H l) (SB.loop J H l)/\ah k k/\ah i i/\ah i i/\ah (dA w kk).B (dA w kk).B/\True) (∃(L:Wh),(dg w (ak key)=H/\0<g.p.length+1)/\d=d/\ah O (SB.cells (bB L.y) 19 138) /\ah (SB.cells [SV.str d (bC g.y.again g.p)] 1 9) (SB.cells [SV.str d L.p] 1 9)/\(4:Nat)=(4:Nat)/\a.1.root=w.root/\(a.1.z=w.z/\a.1.o=w.o/\(0:Nat)=(0:Nat)/\a.1.n=w.n/\a.1.c=w.c)/\(a.1.u:Int)=(L.u:Int)/\(0:Nat)=(0:Nat)/\ah (P g) (SB.cells [SV.bool d L.b,SV.str d L.v] 2 58)/\ah (SB.cells [SV.int .i64 d (a.1.u:Int),SV.iface 30 (SV.int .i64 D 10)] 2 186) (SB.cells [SV.int .i64 d (L.u:Int),SV.iface 30 (SV.int .i64 D 10)] 2 186)/\ah (SB.loop J H l) (SB.loop J H l)/\ah k k/\ah i i/\ah i i/\ah (dA w kk).B (dA w kk).B/\True)) (∃(M:Wh),(dg w (ak key)=H/\0<g.p.length+1)/\d=d/\ah O (SB.cells (bB M.y) 19 138)/\ah (SB.cells [SV.str d (bC g.y.again g.p)] 1 9) (SB.cells [SV.str d M.p] 1 9)/\(4:Nat)=(4:Nat)/\a.1.root=w.root/\(a.1.z=w.z/\a.1.o=w.o/\(0:Nat)=(0:Nat)/\a.1.n=w.n/\a.1.c=w.c)/\(a.1.u:Int)=(M.u:Int)/\(0:Nat)=(0:Nat) /\ah (P g) (SB.cells [SV.bool d M.b,SV.str d M.v] 2 58)/\ah (SB.cells [SV.int .i64 d (a.1.u:Int),SV.iface 30 (SV.int .i64 D 10)] 2 186) (SB.cells [SV.int .i64 d (M.u:Int),SV.iface 30 (SV.int .i64 D 10)] 2 186)/\ah (SB.loop J H l) (SB.loop J H l)/\ah k k/\ah i i/\ah i i/\ah (dA w kk).B (dA w kk).B/\True))))/\∀(X:Wh),dg w (ak key)=H->G (w.sb 0 X.u (kV 12))=G (w.sb 0 X.u (kV 12))/\Bk ((ck w (ak key)).isSome) (aa r I) (aa r r)) (G (SB.aV (mE 2 (pU 0 (((7:Nat),SB.loop J H l)::((6:Nat),SB.cells (SV.str d (ak key)).cells 1 9)::((5:Nat),SB.cells (SV.ptr 3 D 0).cells 1 240)::((4:Nat),SB.cells q.cells 2 58)::Mem.put 3 F (((3:Nat),SB.cells K.cells 4 188)::((2:Nat),SB.cells q.cells 2 58)::((1:Nat),SB.cells q.cells 2 58)::e8 0 [dA w kk])) j.1.view (dA w kk).B [((1:Nat),(0:Nat)),((0:Nat),(3:Nat))]) 8) (j.1.sb 1 j.1.u (kV 2)))=G (SB.aV (mE 2 (pU 0 (((7:Nat),SB.loop J H l)::((6:Nat),SB.cells (SV.str d (ak key)).cells 1 9)::((5:Nat),SB.cells (SV.ptr 3 D 0).cells 1 240)::((4:Nat),SB.cells q.cells 2 58)::Mem.put 3 F (((3:Nat),SB.cells K.cells 4 188)::((2:Nat),SB.cells q.cells 2 58)::((1:Nat),SB.cells q.cells 2 58)::e8 0 [dA w kk])) j.1.view (dA w kk).B [((1:Nat),(0:Nat)),((0:Nat),(3:Nat))]) 8) (j.1.sb 1 j.1.u (kV 2)))/\G k=G k/\G k=G k /\G (SB.aV (mE 2 (pU 0 (((7:Nat),SB.loop J H l)::((6:Nat),SB.cells (SV.str d (ak key)).cells 1 9)::((5:Nat),SB.cells (SV.ptr 3 D 0).cells 1 240)::((4:Nat),SB.cells q.cells 2 58)::Mem.put 3 F (((3:Nat),SB.cells K.cells 4 188)::((2:Nat),SB.cells q.cells 2 58)::((1:Nat),SB.cells q.cells 2 58)::e8 0 [dA w kk])) j.1.view (dA w kk).B [((1:Nat),(0:Nat)),((0:Nat),(3:Nat))]) 8) (j.1.sb 1 j.1.u (kV 2)))=G (SB.aV (mE 2 (pU 0 (((7:Nat),SB.loop J H l)::((6:Nat),SB.cells (SV.str d (ak key)).cells 1 9)::((5:Nat),SB.cells (SV.ptr 3 D 0).cells 1 240)::((4:Nat),SB.cells q.cells 2 58)::Mem.put 3 F (((3:Nat),SB.cells K.cells 4 188)::((2:Nat),SB.cells q.cells 2 58)::((1:Nat),SB.cells q.cells 2 58)::e8 0 [dA w kk])) j.1.view (dA w kk).B [((1:Nat),(0:Nat)),((0:Nat),(3:Nat))]) 8) (j.1.sb 1 j.1.u (kV 2)))/\Bk ((ck w (ak key)).isSome) (aa r I) (aa r r)))/\G F=G F/\G k=G k /\G k=G k/\∃(m:Wy×e_),(m.1.Ok/\True)/\(0:Nat)=(0:Nat)/\w.root=m.2/\(4:Nat)=(4:Nat)/\w.root=m.1.root/\(w.z=m.1.z/\w.o=m.1.o/\(0:Nat)=(0:Nat)/\w.n=m.1.n/\w.c=m.1.c)/\0=(m.1.u:Int)/\ah (SB.view w.z w.o w.n [aE.str w.f]) (SB.view m.1.z m.1.o m.1.n [aE.str m.1.f])/\Bk (c8 m.1 m.2) ((∃(E:Wh),((∃(Y:Nat),E.p.length<Y/\dg w (ak key)=gE w Y E.y E.p E.u)/\E.y.Good/\E.u<=w.n)/\D=D/\ah (SB.cells (bB (getD (m.1.f m.1.u))) 19 138) (SB.cells (bB E.y) 19 138)/\ah (SB.cells [SV.str d (ak key)] 1 9) (SB.cells [SV.str d E.p] 1 9)/\ah (SB.cells [SV.str d m.1.root,SV.aS 0 1 m.1.z m.1.o 0 m.1.n m.1.c,SV.int .i64 d (↑(m.1.u+1):Int),SV.aA] 4 188) (SB.cells [SV.str d w.root,SV.aS 0 1 w.z w.o 0 w.n w.c,SV.int .i64 d (E.u:Int),SV.aA] 4 188)/\ah (SB.cells [SV.bool D d,SV.str D []] 2 58) (SB.cells [SV.bool d E.b,SV.str d E.v] 2 58) /\ah (SB.loop J H l) (SB.loop J H l)/\ah k k/\ah i i/\ah i i/\ah (dA w kk).B (dA w kk).B/\True)/\(∀(h:Wh),(∃(Z:Nat),h.p.length<Z/\dg w (ak key)=gE w Z h.y h.p h.u)/\h.y.Good/\h.u<=w.n->l=l/\True/\True/\Fk (aT h.y.again h.p=[]) (Fk ((h.u:Int)<(w.n:Int)) (G (SB.cells (bf [SV.str d w.root,SV.aS 0 1 w.z w.o 0 w.n w.c,SV.int .i64 d (h.u:Int),SV.aA] 3 (SV.iface 184 (SV.ptr 8 D 0)).cells) 4 188)=G (SB.cells (bf [SV.str d w.root,SV.aS 0 1 w.z w.o 0 w.n w.c,SV.int .i64 d (h.u:Int),SV.aA] 3 (SV.iface 184 (SV.ptr 8 D 0)).cells) 4 188)/\Bk ((ck w (ak key)).isSome) (aa r I) (aa r r)) (G (w.sb 0 h.u SV.aA)=G (w.sb 0 h.u SV.aA)/\Bk ((ck w (ak key)).isSome) (aa (SV.aD [SV.agg [SV.bool d (eS h.y.again h.p),SV.str d (fF h.y.again h.p)],SV.int .i64 D 0]) I) (aa (SV.aD [SV.agg [SV.bool d (eS h.y.again h.p),SV.str d (fF h.y.again h.p)],SV.int .i64 D 0]) r))) (∃(e:Wy×e_),(e.1.Ok/\e.2.length<9223372036854775808)/\(0:Nat)=(0:Nat)/\aT h.y.again h.p=e.2/\(4:Nat)=(4:Nat)/\w.root=e.1.root/\(w.z=e.1.z/\w.o=e.1.o/\(0:Nat)=(0:Nat)/\w.n=e.1.n/\w.c=e.1.c)/\(h.u:Int)=(e.1.u:Int)/\ah (SB.view w.z w.o w.n [aE.str w.f]) (SB.view e.1.z e.1.o e.1.n [aE.str e.1.f])/\Bk (bM e.2) (∃(x:Wh),(((∃(u5:Nat),x.p.length<u5/\dg w (ak key)=gE w u5 x.y x.p x.u)/\x.y.Good/\x.u<=w.n)/\x.p.length+1<h.p.length+1)/\D=D/\ah (SB.cells (bB (getD e.2)) 19 138) (SB.cells (bB x.y) 19 138)/\ah (SB.cells [SV.str d (bC h.y.again h.p)] 1 9) (SB.cells [SV.str d x.p] 1 9) /\ah (SB.cells [SV.str d e.1.root,SV.aS 0 1 e.1.z e.1.o 0 e.1.n e.1.c,SV.int .i64 d (e.1.u:Int),SV.aA] 4 188) (SB.cells [SV.str d w.root,SV.aS 0 1 w.z w.o 0 w.n w.c,SV.int .i64 d (x.u:Int),SV.aA] 4 188)/\ah (Q h) (SB.cells [SV.bool d x.b,SV.str d x.v] 2 58)/\ah (SB.loop J H l) (SB.loop J H l)/\ah k k/\ah i i/\ah i i/\ah (dA w kk).B (dA w kk).B/\True) (Bk (bY e.2) (Bk (c8 e.1 (af e.2)) (∃(A:Wh),(((∃(u3:Nat),A.p.length<u3/\dg w (ak key)=gE w u3 A.y A.p A.u)/\A.y.Good/\A.u<=w.n)/\A.p.length+1<h.p.length+1)/\D=D/\ah (SB.cells (bB (getD (e.1.f e.1.u))) 19 138) (SB.cells (bB A.y) 19 138)/\ah (SB.cells [SV.str d (bC h.y.again h.p)] 1 9) (SB.cells [SV.str d A.p] 1 9) /\ah (SB.cells [SV.str d e.1.root,SV.aS 0 1 e.1.z e.1.o 0 e.1.n e.1.c,SV.int .i64 d (↑(e.1.u+1):Int),SV.aA] 4 188) (SB.cells [SV.str d w.root,SV.aS 0 1 w.z w.o 0 w.n w.c,SV.int .i64 d (A.u:Int),SV.aA] 4 188)/\ah (Q h) (SB.cells [SV.bool d A.b,SV.str d A.v] 2 58)/\ah (SB.loop J H l) (SB.loop J H l)/\ah k k/\ah i i/\ah i i/\ah (dA w kk).B (dA w kk).B/\True) (∃(u2:Wh),(dg w (ak key)=H/\0<h.p.length+1)/\d=d/\ah O (SB.cells (bB u2.y) 19 138)/\ah (SB.cells [SV.str d (bC h.y.again h.p)] 1 9) (SB.cells [SV.str d u2.p] 1 9)/\(4:Nat)=(4:Nat)/\e.1.root=w.root/\(e.1.z=w.z/\e.1.o=w.o/\(0:Nat)=(0:Nat)/\e.1.n=w.n/\e.1.c=w.c)/\(e.1.u:Int)=(u2.u:Int)/\(0:Nat)=(0:Nat)/\ah (Q h) (SB.cells [SV.bool d u2.b,SV.str d u2.v] 2 58) /\ah (SB.cells [SV.int .i64 d (e.1.u:Int),SV.iface 30 (SV.int .i64 D 10)] 2 186) (SB.cells [SV.int .i64 d (u2.u:Int),SV.iface 30 (SV.int .i64 D 10)] 2 186)/\ah (SB.loop J H l) (SB.loop J H l)/\ah k k/\ah i i/\ah i i/\ah (dA w kk).B (dA w kk).B/\True)) (∃(N:Wh),(dg w (ak key)=H/\0<h.p.length+1)/\d=d/\ah O (SB.cells (bB N.y) 19 138)/\ah (SB.cells [SV.str d (bC h.y.again h.p)] 1 9) (SB.cells [SV.str d N.p] 1 9)/\(4:Nat)=(4:Nat)/\e.1.root=w.root/\(e.1.z=w.z/\e.1.o=w.o/\(0:Nat)=(0:Nat)/\e.1.n=w.n/\e.1.c=w.c)/\(e.1.u:Int)=(N.u:Int)/\(0:Nat)=(0:Nat)/\ah (Q h) (SB.cells [SV.bool d N.b,SV.str d N.v] 2 58)/\ah (SB.cells [SV.int .i64 d (e.1.u:Int),SV.iface 30 (SV.int .i64 D 10)] 2 186) (SB.cells [SV.int .i64 d (N.u:Int),SV.iface 30 (SV.int .i64 D 10)] 2 186)/\ah (SB.loop J H l) (SB.loop J H l)/\ah k k/\ah i i/\ah i i/\ah (dA w kk).B (dA w kk).B /\True))))/\∀(u0:Wh),dg w (ak key)=H->G (w.sb 0 u0.u (kV 12))=G (w.sb 0 u0.u (kV 12))/\Bk ((ck w (ak key)).isSome) (aa r I) (aa r r)) (G (SB.aV (mE 2 (pU 0 (((8:Nat),SB.cells R.cells 19 138)::((7:Nat),SB.loop J H l)::((6:Nat),SB.cells (SV.str d (ak key)).cells 1 9)::((5:Nat),SB.cells (SV.ptr 3 D 0).cells 1 240)::((4:Nat),SB.cells q.cells 2 58)::Mem.put 3 F (((3:Nat),SB.cells K.cells 4 188)::((2:Nat),SB.cells q.cells 2 58)::((1:Nat),SB.cells q.cells 2 58)::e8 0 [dA w kk])) m.1.view (dA w kk).B [((1:Nat),(0:Nat)),((0:Nat),(3:Nat))]) 9) (m.1.sb 1 m.1.u (kV 2)))=G (SB.aV (mE 2 (pU 0 (((8:Nat),SB.cells R.cells 19 138)::((7:Nat),SB.loop J H l)::((6:Nat),SB.cells (SV.str d (ak key)).cells 1 9)::((5:Nat),SB.cells (SV.ptr 3 D 0).cells 1 240)::((4:Nat),SB.cells q.cells 2 58)::Mem.put 3 F (((3:Nat),SB.cells K.cells 4 188)::((2:Nat),SB.cells q.cells 2 58)::((1:Nat),SB.cells q.cells 2 58)::e8 0 [dA w kk])) m.1.view (dA w kk).B [((1:Nat),(0:Nat)),((0:Nat),(3:Nat))]) 9) (m.1.sb 1 m.1.u (kV 2)))/\Bk ((ck w (ak key)).isSome) (aa r I) (aa r r)))))) (fun(h:Wh)=>(SB.cells [SV.bool d (eS h.y.again h.p),SV.str d (fF h.y.again h.p)] 2 58)))) (fun(g:Wh)=>(SB.cells [SV.bool d (eS g.y.again g.p),SV.str d (fF g.y.again g.p)] 2 58)))) (SV.agg (SV.int .i64 D 0::SV.str D []::SV.str D []::wD)))) (SV.agg [SV.str D [],SV.aK,SV.int .i64 D 0,SV.aA]))) (SB.cells q.cells 2 58))) (SV.aD [SV.agg [SV.bool d (Qs (ck w (ak key))),SV.str d (Yi (ck w (ak key)))],SV.int .i64 D 0]))) (SB.cells (SV.int .i64 D 0::SV.str D []::SV.str D []::wD) 19 138))) (SB.cells (SV.ptr 3 D 0).cells 1 240))) (SV.aD [SV.agg [SV.bool D d,SV.str D []],SV.int .i64 D 10]))) (SB.cells (bf (SV.agg [SV.str D [],SV.aK,SV.int .i64 D 0,SV.aA]).cells 0 (SV.agg (bf (bf [SV.str D [],SV.aK,SV.int .i64 D 0,SV.aA] 0 (SV.str d w.root).cells) 1 (SV.aS 0 1 w.z w.o 0 w.n w.c).cells)).cells) 4 188))) (SV.agg [SV.bool D d,SV.str D []])):=by kernel_rfl
section
attribute [local irreducible] b7 aJ getD bM bY af c8 aT bC eS fF gE dg sK ak
set_option maxHeartbeats 1000000 in
theorem IZ (w:Wy)(hw:w.jZ){key:e_}(hk:key.length<1099511627776)(kk:Option Nat) :
  av (fN (S2 w key) 28 W [.str d w.root,.str d key,.aS 0 1 w.z w.o 0 w.n w.c] [dA w kk] (acw w key)):=by
 refine av.gV (M8 w key kk) (by delta Bk Fk;exact rfl) ?_;dsimp only;have S: ∀ v:SV,aa v v:=λ_ _=>rfl;by_cases h40:(40:Int)<(w.n:Int)
 ·have e:ck w (ak key)=none:=by rw[ck,if_pos (by omega)]
  rw[e,decide_eq_true h40];exact⟨λ_=>⟨(λh=>by cases h),λ_=>S _⟩,(λh=>by cases h)⟩
 have hn: ¬ 40<w.n:=by omega
 have ok: ∀ u,u<=w.n->(w.on u).Ok:=λu hu=>⟨by show w.n<=200;omega,hw.f,hu⟩
 have hR:ck w (ak key)=(match dg w (ak key)with
  | some (y,q,u)=>if u<w.n then H else G (y,q)
  | none=>H):=by rw[ck,if_neg hn];rfl
 have bad:dg w (ak key)=H->∀ {A B:Prop},B->((ck w (ak key)).isSome=D->A)/\((ck w (ak key)).isSome=d->B):=λh A B b=>by rw[hR,h];exact⟨(λh=>by cases h),λ_=>b⟩
 have endB: ∀ {y q u},dg w (ak key)=G (y,q,u)->u<w.n->∀ {A B:Prop},B->((ck w (ak key)).isSome=D->A)/\((ck w (ak key)).isSome=d->B):=λh hu A B b=>by rw[hR,h];simp only[hu,if_true];exact⟨(λh=>by cases h),λ_=>b⟩
 have endG: ∀ {y q u},dg w (ak key)=G (y,q,u)->¬ u<w.n->ck w (ak key)=G (y,q):=λh hu=>by rw[hR,h];simp only[hu,if_false]
 have fZ: ∀ {u h},c8 (w.on u) h=D->(getD (w.f u)).Good/\u<w.n:=λh=>⟨uC (iT (B4 h).2.2),(B4 h).1⟩
 refine⟨λh=>absurd (of_decide_eq_true h) h40,λ_=>⟨hk,λR=>⟨?_,?_⟩⟩⟩
 all_goals try refine⟨rfl,rfl,rfl,?_⟩
 all_goals refine⟨(w.on 0,w.root),⟨ok 0 (M _),trivial⟩,rfl,rfl,rfl,rfl,⟨rfl,rfl,rfl,rfl,rfl⟩,rfl,ah.refl _,λh0=> ?_,λh0=> ?_⟩
 all_goals repeat refine N rfl ?_
 all_goals try exact bad (by rw[Q8 h0]) (S _)
 all_goals
  obtain⟨hg0,hn0⟩:=fZ h0;refine⟨⟨⟨getD (w.f 0),ak key,1,d,[]⟩,⟨⟨_,Nat.lt_succ_self _,MO h0⟩,hg0,hn0⟩,rfl,ah.refl _,ah.refl _,ah.refl _,?_⟩,λx hx=> ?_,λx hx=> ?_⟩
 all_goals try exact⟨rfl,bad hx (S _)⟩
 all_goals try exact⟨ah.cells (λ_=>rfl) rfl,by repeat' first | exact ah.refl _ | exact trivial | refine N ?_ ?_⟩
 all_goals
  obtain⟨⟨m,hm,hs⟩,hg,hu⟩:=hx;rw[nv,q9,EN,EO];refine⟨rfl,trivial,trivial,λhr=> ?_,λhr=> ?_⟩
 all_goals try
  have hr:=of_decide_eq_true hr;have he:=XC hs hm hr;refine⟨λh=>⟨rfl,endB he (by have:=of_decide_eq_true h;omega) (S _)⟩,λh=>⟨rfl,?_⟩⟩;rw[endG he (by have:=of_decide_eq_false h;omega)];exact⟨λ_=>λ_=>rfl,(λh=>by cases h)⟩
 all_goals
  have hr:=of_decide_eq_false hr;have hl:=pF hg hr;refine⟨(w.on x.u,aT x.y x.p),⟨ok _ hu,y5 hg _⟩,rfl,rfl,rfl,rfl,⟨rfl,rfl,rfl,rfl,rfl⟩,rfl,ah.refl _,λh1=> ?_,λh1=>⟨λh2=>⟨λh3=> ?_,λh3=> ?_⟩,λh2=> ?_⟩⟩
 all_goals first
  | (have hn:=HI hs hm hr (GR h1 (.inr h3))
     refine⟨⟨eZ,bC x.y x.p,x.u,eS x.y x.p,fF x.y x.p⟩,⟨hn,by omega⟩,rfl,ah.cells (λ_=>rfl) rfl,?_⟩)
  | (have hn:=HI hs hm hr (GR h1 (.inl h2))
     refine⟨⟨eZ,bC x.y x.p,x.u,eS x.y x.p,fF x.y x.p⟩,⟨hn,by omega⟩,rfl,ah.cells (λ_=>rfl) rfl,?_⟩)
  | refine⟨⟨getD (w.f x.u),bC x.y x.p,x.u+1,eS x.y x.p,fF x.y x.p⟩,⟨⟨TK hs hm hg hr (Ek h1 h2 h3),(fZ h3).1,(fZ h3).2⟩,b! hl⟩,rfl,?_⟩
  | refine⟨⟨getD (aT x.y x.p),bC x.y x.p,x.u,eS x.y x.p,fF x.y x.p⟩,⟨⟨TK hs hm hg hr (OI h1),uC (rR h1),hu⟩,b! hl⟩,rfl,?_⟩
 all_goals
  repeat' first
   | exact ah.refl _
   | refine N ?_ ?_
   | rfl
   | exact trivial
   | fail
end
end
section
open Go Sx
set_option maxRecDepth 20000
def BA (vs:List SV)(l:List Seen):Option (Prop×cN):=match JY vs l with
 | some (w,key,_)=>G (w.jZ/\key.length<1099511627776,acw w key)
 | none=>H
theorem Yj:ax L 28 (bQ shW BA):=by
 refine dN (n:=20) (fn:=W) Tryz.func28 (by kernel_rfl) (by kernel_rfl) ?_;intro vs l q a h hq;unfold BA at h;split at h
 ·rename_i w key kk hx;cases h;obtain⟨e1,e2⟩:=JZ hx;rw[e1,e2];exact⟨_,aa1 w key,rfl,λb=>by cases b<;>exact rfl,IZ w hq.1 hq.2 kk⟩
 ·cases h
def node7 (f:Nat->e_)(i:Nat):Bool:=!decide ((700:Int)<((f i).length:Int))
def zk (n:Nat)(f:Nat->e_):Bool:=K ((n:Int)<=45)&&(List.range n).all (node7 f)
structure Er (n:Nat)(t:Nat->Bool)(i:Nat):Prop where
 up:fM n t i
 le:i<=46
noncomputable def acG (tmp:Nat)(n:Nat)(t:Nat->Bool):aX :={α:=Nat,pre:=λ_ i=>Er n t i,jx:=λ_ i=>n - i,fresh:=0,slots:=λ_ i=>[(tmp,.int .i64 d i)],mem:=λ_ _=>[]}
def ZV (z:Bool)(o c n:Nat)(f:Nat->e_)(key:Option Nat):Seen:=⟨key,z,o,n,c,[.str f]⟩
def shT:List zw:=[.of (.slice dP)]
noncomputable def EJ (n:Nat)(f:Nat->e_):dK:={bE with cm:=λf=>ay f dW,bh:=λg=>if g=20 then [(2,always (acG 3 n (node7 f)))] else []}
theorem TN (n:Nat)(f:Nat->e_):Sx.Good L (EJ n f):=.of bz cW aU
end
end Go.Proofs.YtoibaecagklkaaaGreatDoor
