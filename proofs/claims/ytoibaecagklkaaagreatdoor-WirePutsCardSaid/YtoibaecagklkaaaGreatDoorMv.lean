/-
  The reference's ranges: contracts that say what goes well; the set-up of Ahead, In, Has, Meets, used, look, Through, Verify.
-/
import Derived.Test.YtoibaecagklkaaaGreatDoorMr
import Derived.Test.YtoibaecagklkaaaGreatDoorMu
import Derived.Test.YtoibaecagklkaaaGreatDoorMp
import Derived.Test.YtoibaecagklkaaaGreatDoorMq
import Derived.Test.YtoibaecagklkaaaGreatDoorMl
import Derived.Test.YtoibaecagklkaaaGreatDoorMi
import Derived.RecoverIn
import Derived.Test.YtoibaecagklkaaaGreatDoorMj
open Bool renaming and_eq_true->V,false->H,not_eq_true'->b!,true->A
open Decidable renaming decide->O
open Go.Fence renaming wide->S
open Go.Proofs.Tryz renaming f125->cl,f31->az,f38->a_,prog->M
open Go.Region renaming wanted->Z
open List renaming append_nil->cB,length_drop->cH,length_pos_iff->cL,mem_of_find?_eq_some->a!,range'->bl,replicate->c4
open Nat renaming beq->bn,le_refl->W,le_trans->Y,lt_of_lt_of_le->ag,mul_one->c5,zero_add->c6,zero_le->b_
open Option renaming none->J,some->I
namespace Go.Proofs.YtoibaecagklkaaaGreatDoor
open Go Sx
variable {fn:Func}{f:FuncId}{n:Int}{t:e_}{K:Mem->Nat->VC}{i nx:Nat}{E:Nat->Nat}{x:Nd}{P:Program}{d:SV}{w:World}{Γ:bg}{cfg:dK}
section
open Go Sx
set_option maxRecDepth 20000
theorem Nb {spec spec':List SV->Option (Prop×cN)}(h:ax M f (bw spec))(hi: ∀ vs q' a',spec' vs=I (q',a')->q'->∃ q a,spec vs=I (q,a)/\q/\∀ m nx K,(a'.vc m nx K).holds->(a.vc m nx K).holds):ax M f (bw spec'):=by
 intro args m nx K hk;refine h args m nx K ?_;unfold bw at hk ⊢;split at hk
 ·rename_i q' a' hs;obtain⟨q,a,e,hq,g⟩:=hi _ _ _ hs hk.1;rw[e];exact⟨hq,g m nx K hk.2⟩
 ·exact hk.elim
def Gr (vs:List SV):Option (Prop×cN):=match vs with
 | [.str H s]=>I (s.length<1099511627776/\aJ s=A,.ret (.aD [(getD s).sv,.int .i64 A 0]))
 | _=>J
def vM (vs:List SV):Option (Prop×cN):=match vs with
 | [.str H t]=>I (t.length<9223372036854775808/\bY t=A,.ret (.aD [.str H (af t),.bool A A]))
 | _=>J
def wJ:List SV->Option (Prop×SV)
 | [.str H a,.str H b]=>I (a.length<9223372036854775808/\b.length<9223372036854775808,.bool H (Op.bytesLess a b))
 | _=>J
noncomputable def tL:List (FuncId×PT):=(90,aM F7)::(55,aM hG)::(139,bw nW)::Um
noncomputable def RT (a b:e_):aX :={α:=Nat,pre:=λ_ i=>GX a b i,jx:=λ_ i=>a.length - i,fresh:=0,slots:=λ_ i=>[(5,.int .i64 H i)],mem:=λ_ _=>[]}
noncomputable def Zq (a b:e_):dK:={bE with cm:=λf=>ay f tL,bh:=λf=>if f=96 then [(2,always (RT a b))] else []}
noncomputable def Zu (n:Nat)(g:Nat->e_)(t:e_):dK:={bE with cm:=λf=>ay f tL,bh:=λf=>if f=143 then [(2,always (oA 5 n λi=>!decide (g i=t)))] else []}
def adk:List zw:=[.of (.slice [.str λ_=>[]]),.of .one]
def Lb (vs:List SV)(l:List Seen):Option (Prop×cN):=match vs,l with
 | [_,.str H t],[⟨_,_,_,n,_,[.str f]⟩]=>I (n<9223372036854775808,.ret (.bool H (qx n f t)))
 | _,_=>J
noncomputable def xC:List (FuncId×PT):=(96,aM wJ)::(143,bQ adk Lb)::tL
noncomputable def CO:dK:={bE with cm:=λf=>ay f xC}
def BM:List SV->Option (Prop×SV)
 | [.str H fr,.str H to,.str H p]=>I (fr.length<=1000/\to.length<=1000/\p.length<1099511627776,.bool H (hasB fr to p))
 | _=>J
def uj:List SV->Option (Prop×SV)
 | [.str H fr,.str H to,.str H p]=>I (fr.length<=1000/\to.length<=1000/\p.length<1099511627776,.bool H (dy fr to p))
 | _=>J
structure Lk where
 w:Sp
 s:Wk
 b:Bool
 hc:Nat
 c1:Nat
 c2:Nat
def Lk.vs (g:Lk)(kf kn:Nat):List SV:=[.str H g.w.fr,.str H g.w.to,.aS 0 1 g.w.z g.w.o 0 g.w.n g.w.c,.bx 1 1 A 0 g.w.n g.hc,.bx kf 2 A 0 g.s.fs.length g.c2,.bx kn 1 A 0 g.s.ns.length g.c1,.int .i64 H g.s.lk,.bool H g.b]
def Lk.hs (g:Lk):SB:=.rows A g.w.n [.str λi=>b7 (g.w.f i)] H (g.hc*1) 9
def Lk.mem (g:Lk):Mem:=[(0,g.w.view),(1,g.hs),(2,cR g.s g.c2),(3,cZ g.s g.c1)]
def Wk.wH (s:Wk)(t:e_):Wk:={s with ns:=bif qx s.ns.length (λi=>s.ns.getD i []) t then s.ns else s.ns++[t]}
def Lk.with (g:Lk)(y:Wk×Bool×Nat×Nat):Lk:={g with s:=y.1,b:=y.2.1,c1:=y.2.2.1,c2:=y.2.2.2}
structure Lk.OK (g:Lk):Prop where
 c1:g.s.ns.length<=g.c1
 c2:g.s.fs.length<=g.c2
 h:g.w.n<=g.hc
def JU:nC :=
 {G:=Lk×e_,n:=4,N:=5,pre:=λx=>x.1.OK/\x.1.s.ns.length<=1000000,args:=λx=>[.agg (x.1.vs 2 3),.str H x.2],mem:=λx=>x.1.mem,
  RJ:=λx=>.all Nat λc=>.req ((x.1.s.wH x.2).ns.length<=c) (.ret (.agg (Lk.vs {x.1 with s:=x.1.s.wH x.2,c1:=c} 2 4)) [(1,x.1.hs),(2,cR x.1.s x.1.c2),(4,cZ (x.1.s.wH x.2) c)])}
structure adG (w:Sp):Prop where
 n:w.n<=200
 f: ∀ i,i<w.n->(w.f i).length<=1000
 g: ∀ i,i<w.n->aJ (w.f i)=A
 fr:w.fr.length<=1000
 to:w.to.length<=1000
structure Wk.Bd (s:Wk)(c:Nat):Prop where
 ns:s.ns.length<=c
 fs:s.fs.length<=c
 lk:s.lk<=c
structure oz where
 g:Lk
 C:Nat
 x:Nd
 p:e_
structure oz.Pre (m:Nat)(q:oz):Prop where
 m0:0<m
 w:adG q.g.w
 caps:q.g.OK
 x:aI q.x=A
 p:q.p.length<=100000
 m1:m<=402
 go:q.g.b=H->q.g.s.Fit (q.g.s.lk+1)/\zY q.g.w.full q.g.s/\401<=q.g.s.lk+m/\q.p.length<=13*q.g.s.lk
 bad:q.g.b=A->q.g.s.Bd q.C/\q.C<=100000
def oz.GP (m:Nat)(q:oz):Bool:=!q.g.b&&iu q.g.w.full m q.g.s q.x q.p
structure oz.Post (m:Nat)(q:oz)(y:Wk×Bool×Nat×Nat):Prop where
 c1:y.1.ns.length<=y.2.2.1
 c2:y.1.fs.length<=y.2.2.2
 yes:q.GP m=A->y.1=de q.g.w.full m q.g.s q.x q.p/\y.2.1=H
 no:q.GP m=H->y.2.1=A/\y.1.Bd (bif q.g.b then q.C+1 else 500+40*m)
def A9 (m:Nat):nC :=
 {G:=oz,n:=4,N:=6,pre:=λq=>q.Pre m,args:=λq=>[.agg (q.g.vs 2 3),q.x.sv,.str H q.p],mem:=λq=>q.g.mem,
  RJ:=λq=>.all (Wk×Bool×Nat×Nat) λy=>.req (q.Post m y) (.ret (.agg ((q.g.with y).vs 4 5)) [(1,q.g.hs),(4,cR y.1 y.2.2.2),(5,cZ y.1 y.2.2.1)])}
noncomputable def LI:List (FuncId×PT):=(92,gK JU)::(54,aM BM)::(140,aM uj)::(142,bw vM)::xC
noncomputable def abn (m:Nat):List (FuncId×PT):=(91,gK (A9 m))::(89,bw Gr)::LI
def abu (j:Nat)(st:Sx.St):List Nat:=match st.m.get (vB st j)with
 | some (.cells [_,_,_,_,.bx kf _ _ _ _ _,.bx kn _ _ _ _ _,_,_] _ _)=>[kf,kn]
 | _=>[]
def adR (j:Nat)(st:Sx.St):List Nat:=match st.m.get (vB st j)with
 | some (.cells [_,_,_,_,.bx kf _ _ _ _ _,_,_,_] _ _)=>[kf]
 | _=>[]
def LO (g:Lk)(kf kn:Nat):SB:=.cells (g.vs kf kn) 8 155
def XR (q:oz):aX :={α:=e_,pre:=λ_ t=>kj (cat q.p q.x.p)=A->t=br (cat q.p q.x.p),jx:=λ_ _=>0,fresh:=0,slots:=λ_ t=>[(7,.str H t),(8,.bool H (kj (cat q.p q.x.p)))],mem:=λ_ _=>[]}
def XT (q:oz):aX :=
 {α:=Nat,pre:=λ_ c2=>q.g.b=H/\(q.g.s.jQ q.g.w.full q.x q.p).fs.length<=c2,jx:=λ_ _=>0,fresh:=1,slots:=λ_ _=>[],
  mem:=λst c2=>[(vB st 3,LO (q.g.with (q.g.s.jQ q.g.w.full q.x q.p,H,q.g.c1,c2)) st.nx 3),(st.nx,cR (q.g.s.jQ q.g.w.full q.x q.p) c2)],drop:=adR 3}
structure oy (m:Nat)(q:oz)(y:Nat×Wk×Bool×Nat×Nat):Prop where
 i:y.1<=16
 b:q.g.b=H
 c1:y.2.1.ns.length<=y.2.2.2.1
 c2:y.2.1.fs.length<=y.2.2.2.2
 go:y.2.2.1=H->cT q.g.w.full (jA q.g.w.full m) q.x q.p y.1 (q.g.s.jQ q.g.w.full q.x q.p)=I y.2.1
 bad:y.2.2.1=A->0<m/\cT q.g.w.full (jA q.g.w.full m) q.x q.p 16 (q.g.s.jQ q.g.w.full q.x q.p)=J/\y.2.1.Bd (500+40*m+2*y.1)
def Xg (m:Nat)(q:oz):aX :=
 {α:=Nat×Wk×Bool×Nat×Nat,pre:=λ_ y=>oy m q y,jx:=λ_ y=>16 - y.1,fresh:=2,slots:=λ_ y=>[(9,.int .i64 H y.1)],
  mem:=λst y=>[(vB st 3,LO (q.g.with y.2) st.nx (st.nx+1)),(st.nx,cR y.2.1 y.2.2.2.2),(st.nx+1,cZ y.2.1 y.2.2.2.1)],drop:=abu 3}
def Pt (q:oz)(i:Nat):aX :={α:=e_,pre:=λ_ t=>t.length<=q.p.length+13/\(q.x.r i≠[]->t=pH q.x q.p i),jx:=λ_ _=>0,fresh:=0,slots:=λ_ t=>[(10,.str H t)],mem:=λ_ _=>[]}
def HR (q:oz)(st:Sx.St):Option ja:=match slot st.tmps 9 with
 | some (.int _ _ i)=>I (one (Pt q i.toNat))
 | _=>J
def Xf (w:Sp)(h:e_):aX :={α:=Nat×Int,pre:=λ_ y=>y.1<=w.n/\fh (λi=>b7 (w.f i)) h y.1 w.n y.2,jx:=λ_ y=>y.1,fresh:=0,slots:=λ_ y=>[(16,.int .i64 H ((y.1:Int) - 1)),(15,.int .i64 H y.2)],mem:=λ_ _=>[]}
def OO (w:Sp)(st:Sx.St):Option ja:=match slot st.tmps 13 with
 | some (.str _ h)=>I (one (Xf w h))
 | _=>J
noncomputable def SP (m:Nat)(q:oz):dK:={bE with cm:=λf=>ay f (abn m),bh:=λf=>if f=91 then [(9,always (Xg m q)),(105006,always (XR q)),(106008,always (XT q)),(112014,HR q),(21,OO q.g.w)] else []}
theorem uC (h:aI x=A):x.Good:=by
 refine⟨λhk hp=> ?_,λj hj=> ?_⟩
 ·rcases kL h with ⟨h1,_⟩ | ⟨h1,_⟩ | ⟨_,h2⟩ | ⟨h1,_⟩
  ·omega
  ·omega
  ·simp only[nI,gO,V,decide_eq_true_eq,hp] at h2;have:=h2.1.1.1;simp at this
  ·omega
 ·rcases(fQ h).r j hj with e | e
  ·rw[e];decide
  ·have:=oU e;omega
theorem nv (x:Nd)(p:e_):aT x.again p=aT x p:=by
 unfold aT;show(if x.k=3 then(if p≠[]/\ai p 0<16 then x.again.r (ai p 0).toNat else [])else if x.k=2 then(bif preB x.p p then x.r 0 else [])else [])=_
 by_cases h:p≠[]/\ai p 0<16
 ·have:=cg p 0;rw[if_pos h,if_pos h,show x.again.r (ai p 0).toNat=x.r (ai p 0).toNat from eE x.r _ (by omega)]
 ·rw[if_neg h,if_neg h]
theorem q9 (x:Nd)(p:e_):bC x.again p=bC x p:=by unfold bC;rw[nv];rfl
theorem EN (x:Nd)(p:e_):eS x.again p=eS x p:=rfl
theorem EO (x:Nd)(p:e_):fF x.again p=fF x p:=rfl
theorem y5 (h:x.Good)(p:e_):(aT x p).length<9223372036854775808:=by
 unfold aT;split
 ·split
  ·rename_i h1;have:=cg p 0;exact h.2 _ (by omega)
  ·decide
 ·split
  ·cases preB x.p p with
   | true=>exact h.2 0 (by decide)
   | false=>exact(show([]:e_).length<_ by decide)
  ·decide
theorem pF (h:x.Good){p:e_}(h0:aT x p≠[]):(bC x p).length<p.length:=by
 unfold bC;rw[if_neg h0];unfold aT at h0;by_cases h3:x.k=3
 ·rw[if_pos h3] at h0 ⊢;by_cases hp:p≠[]/\ai p 0<16
  ·have:=cL.2 hp.1;rw[cH];omega
  ·rw[if_neg hp] at h0;exact absurd rfl h0
 ·rw[if_neg h3] at h0 ⊢;by_cases h2:x.k=2
  ·rw[if_pos h2] at h0;cases hb:preB x.p p with
   | false=>rw[hb] at h0;exact absurd rfl h0
   | true =>simp only[preB,V,decide_eq_true_eq] at hb;have:=cL.2 (h.1 h2);rw[cH];omega
  ·rw[if_neg h2] at h0;exact absurd rfl h0
section
variable {w : Wy} {P p : e_} {y : Nd} {u m : Nat}
theorem XC (hs:dg w P=gE w m y p u)(hm:p.length<m)(h0:aT y p=[]):dg w P=I (y,p,u):=by
 obtain⟨m,rfl⟩: ∃ k,m=k+1:=⟨m - 1,by omega⟩
 rw[hs,gE,if_pos h0]
theorem TK (hs:dg w P=gE w m y p u)(hm:p.length<m)(hg:y.Good)(h0:aT y p≠[]){z:Nd}{u':Nat}(hf:sK (w.on u) (aT y p)=I (z,u')) :
  ∃ m,(bC y p).length<m/\dg w P=gE w m z (bC y p) u':=by
 obtain⟨m,rfl⟩: ∃ k,m=k+1:=⟨m - 1,by omega⟩
 have:=pF hg h0;exact⟨m,by omega,by rw[hs,gE,if_neg h0,hf]⟩
theorem HI (hs:dg w P=gE w m y p u)(hm:p.length<m)(h0:aT y p≠[])(hf:sK (w.on u) (aT y p)=J):dg w P=none:=by
 obtain⟨m,rfl⟩: ∃ k,m=k+1:=⟨m - 1,by omega⟩
 rw[hs,gE,if_neg h0,hf]
theorem OI (h:bM t=A):sK w t=I (getD t,w.u):=by rw[sK,if_pos h]
theorem Ek (h:bM t=H)(h1:bY t=A)(h2:c8 w (af t)=A):sK w t=I (getD (w.f w.u),w.u+1):=by rw[sK,if_neg (by rw[h];simp),if_pos (by rw[h1,h2];rfl)]
theorem GR (h:bM t=H)(h1:bY t=H∨c8 w (af t)=H):sK w t=none:=by rw[sK,if_neg (by rw[h];simp),if_neg (by rcases h1 with h1 | h1<;>rw[h1]<;>simp)]
theorem B4 {h:e_}(ht:c8 w h=A):w.u<w.n/\b7 (w.f w.u)=h/\aJ (w.f w.u)=true:=by simp only[c8,V,decide_eq_true_eq] at ht;exact⟨by omega,ht.2.1,ht.2.2⟩
theorem Q8 (h:c8 (w.on 0) w.root=H):dg w P=none:=by rw[dg,h];rfl
theorem MO (h:c8 (w.on 0) w.root=A):dg w P=gE w (P.length+1) (getD (w.f 0)) P 1:=by rw[dg,h];rfl
end
structure Wy.jZ (w:Wy):Prop where
 f: ∀ i,i<w.n->(w.f i).length<=1000
def JY (vs:List SV)(l:List Seen):Option (Wy×e_×Option Nat):=match vs,l with
 | [.str H root,.str H key,_],[⟨kk,z,o,n,c,[.str f]⟩]=>I (⟨root,n,f,z,o,c,0⟩,key,kk)
 | _,_=>J
theorem JZ {vs:List SV}{l:List Seen}{w:Wy}{key:e_}{kk:Option Nat}(h:JY vs l=I (w,key,kk)):filled shW vs l=[.str H w.root,.str H key,.aS 0 1 w.z w.o 0 w.n w.c]/\l=[dA w kk]:=by
 unfold JY at h;split at h
 ·cases h;exact⟨rfl,rfl⟩
 ·cases h
structure Wl where
 w:Wy
 y:Nd
 p:e_
 z:Bool
 i:Nat
 k:Nat
 c:Nat
def Wl.left (q:Wl):SV:=.aS 0 1 q.z q.w.o q.i q.k q.c
structure Wl.Pre (m:Nat)(q:Wl):Prop where
 m1:q.p.length<m
 w: ∀ i,i<q.w.n->(q.w.f i).length<=1000
 y:aI q.y=A
 left:q.w.u+q.k=q.w.n
 i:0<q.k->q.i=q.w.u
 kc:q.k<=q.c
 p:q.p.length<1099511627776
structure Wr where
 b:Bool
 v:e_
 z:Bool
 i:Nat
 k:Nat
 c:Nat
def Wr.left (r:Wr)(o:Nat):SV:=.aS 0 1 r.z o r.i r.k r.c
def Wr.Ends (m:Nat)(q:Wl)(r:Wr):Prop:=∃ y p u,gE q.w m q.y q.p q.w.u=I (y,p,u)/\r.b=eS y p/\r.v=fF y p/\u+r.k=q.w.n
def B8 (m:Nat):nC :=
 {G:=Wl,n:=1,N:=1,pre:=λq=>q.Pre m,args:=λq=>[q.y.sv,.str H q.p,q.left],mem:=λq=>[(0,q.w.view)],
  RJ:=λq=>.fork (gE q.w m q.y q.p q.w.u).isSome λb=>match b with
   | true=>.all Wr λr=>.req (r.Ends m q) (.ret (.aD [.bool H r.b,.str H r.v,r.left q.w.o,.bool A A]) [])
   | false=>.all Wr λr=>.ret (.aD [.bool A H,.str A [],r.left q.w.o,.bool A H]) []}
noncomputable def Lz:List (FuncId×PT):=(164,bw oe)::(142,bw vM)::tL
noncomputable def Tb (m:Nat):dK:={bE with cm:=λf=>ay f ((121,gK (B8 m))::Lz)}
noncomputable def Kw (key:e_):dK:={bE with cm:=λf=>ay f ((121,gK (B8 ((ak key).length+1)))::Lz)}
noncomputable def S4:dK:={bE with cm:=λf=>ay f tL}
def zS (w:Wy)(key:e_):cN:=.fork (ck w (ak key)).isSome λb=>match b with
 | true=>.ret (.aD [.bool H (Qs (ck w (ak key))),.str H (Yi (ck w (ak key))),.bool A A])
 | false=>.ret (.aD [.bool A H,.str A [],.bool A H])
theorem Wn (x:Pp)(z:Bool)(o c:Nat)(key:Option Nat):VC.holds (fN (S1 x) 38 a_ [x.sv (.aS 0 1 z o 0 x.n c)] [cE z o c x key] (.ret (.bool H x.ok)))=((λd:SB=>((Fk (x.k=0) (Bk (!decide (x.to=[])) (aa (SV.bool A H) (SV.bool H x.ok)) (Bk (!decide ((x.root.length:Int)=32)) (aa (SV.bool A H) (SV.bool H x.ok)) (Fk (6<(x.key.length:Int)) (aa (SV.bool A H) (SV.bool H x.ok)) (Fk (6<(x.to.length:Int)) (aa (SV.bool A H) (SV.bool H x.ok)) (Fk (200<(x.n:Int)) (aa (SV.bool A H) (SV.bool H x.ok)) ((∃(h:Nat),fM x.n (dV x.f) h/\0=(h:Int)/\ah d d/\ah (cE z o c x key).B (cE z o c x key).B/\True)/\∀(a:Nat),fM x.n (dV x.f) a->Fk ((a:Int)<(x.n:Int)) ((0<=(a:Int)/\(a:Int)<(x.n:Int))/\(o=o/\0+(a:Int).toNat<x.n)/\Fk (1000<(↑(x.f (0+(a:Int).toNat)).length:Int)) (aa (SV.bool A H) (SV.bool H x.ok)) (I6 ((a:Int)+1)/\∃(e:Nat),(fM x.n (dV x.f) e/\x.n - e<x.n - a)/\(a:Int)+1=(e:Int)/\ah d d/\ah (cE z o c x key).B (cE z o c x key).B/\True)) (aa (SV.bool A A) (SV.bool H x.ok)))))))) (Fk (x.k=1) (Bk (!decide ((x.root.length:Int)=32)) (aa (SV.bool A H) (SV.bool H x.ok)) (Fk (6<(x.key.length:Int)) (aa (SV.bool A H) (SV.bool H x.ok)) (Fk (6<(x.to.length:Int)) (aa (SV.bool A H) (SV.bool H x.ok)) (Fk (200<(x.n:Int)) (aa (SV.bool A H) (SV.bool H x.ok)) ((∃(u2:Nat),fM x.n (dV x.f) u2/\0=(u2:Int)/\ah d d/\ah (cE z o c x key).B (cE z o c x key).B/\True) /\∀(b:Nat),fM x.n (dV x.f) b->Fk ((b:Int)<(x.n:Int)) ((0<=(b:Int)/\(b:Int)<(x.n:Int))/\(o=o/\0+(b:Int).toNat<x.n)/\Fk (1000<(↑(x.f (0+(b:Int).toNat)).length:Int)) (aa (SV.bool A H) (SV.bool H x.ok)) (I6 ((b:Int)+1)/\∃(g:Nat),(fM x.n (dV x.f) g/\x.n - g<x.n - b)/\(b:Int)+1=(g:Int)/\ah d d/\ah (cE z o c x key).B (cE z o c x key).B/\True)) (aa (SV.bool A A) (SV.bool H x.ok))))))) (aa (SV.bool A H) (SV.bool H x.ok)))))) (SB.cells (x.sv (SV.aS 0 1 z o 0 x.n c)).cells 5 63)):=by kernel_rfl
theorem yP {f:Nat->e_}(h: ¬ (1000:Int)<((f i).length:Int)):dV f i=true:=by rw[dV,decide_eq_false h];rfl
theorem IE {f:Nat->e_}(h:(1000:Int)<((f i).length:Int)):dV f i=false:=by rw[dV,decide_eq_true h];rfl
set_option maxHeartbeats 4000000 in
theorem Gb (x:Pp)(z:Bool)(o c:Nat)(key:Option Nat):av (fN (S1 x) 38 a_ [x.sv (.aS 0 1 z o 0 x.n c)] [cE z o c x key] (.ret (.bool H x.ok))):=by
 refine av.gV (Wn x z o c key) (by delta Bk Fk;exact rfl) ?_;simp only[Int.toNat_natCast,c6];unfold Pp.ok;have h01:O (x.k=0)=A->O (x.k=1)=false:=by simp only[decide_eq_true_eq,decide_eq_false_iff_not];omega
 generalize O (x.k=0)=b1 at h01 ⊢;generalize O (x.k=1)=b2 at h01 ⊢;generalize O (x.to=[])=b3;generalize O ((x.root.length:Int)=32)=b4;generalize O ((6:Int)<(x.key.length:Int))=b5;generalize O ((6:Int)<(x.to.length:Int))=b6;generalize hr:k8 x.n x.f=b9
 repeat' first
  | exact trivial
  | exact ah.refl _
  | apply And.intro
  | intro (_:_=A)
  | intro (_:_=H)
  | refine⟨0,⟨b_ _,λj hj=>absurd hj (Nat.not_lt_zero _)⟩,rfl,?_⟩
  | intro (i:Nat) (hi:fM _ _ i)
  | refine⟨i+1,⟨i6 hi ?_ ?_,?_⟩,?_,?_⟩
  | fail
 all_goals try simp only[decide_eq_true_eq,decide_eq_false_iff_not] at *
 all_goals first
  | omega
  | exact yP (by assumption)
  | (apply cV;subst hr;rw[k8,kK hi (by assumption)];simp_all;done)
  | (apply cV;subst hr;rw[k8,i7 (i:=i) (by assumption) (IE (by assumption))];simp_all;done)
  | (apply cV;simp_all;done)
def eY (vs:List SV)(l:List Seen):Option (Prop×cN):=match k9 vs l with
 | some (x,_)=>I (True,.ret (.bool H x.ok))
 | none=>J
theorem xT:ax M 38 (bQ BU eY):=by
 refine dN (n:=20) (fn:=a_) Tryz.func38 (by kernel_rfl) (by kernel_rfl) ?_;intro vs l q a h hq;unfold eY at h;split at h
 ·rename_i x r hx;obtain⟨z,o,c,key⟩:=r;cases h;obtain⟨e1,e2⟩:=iP hx;rw[e1,e2];exact⟨_,aa0 x,rfl,rfl,Gb x z o c key⟩
 ·cases h
noncomputable def LG:List (FuncId×PT):=(38,bQ BU eY)::mR
theorem Dx:aQ M (λf=>ay f LG):=.cons xT (bR _ _) fI
noncomputable def S0 (x:Pp):dK:={bE with cm:=λf=>ay f LG,bh:=λf=>if f=31 then [(5,always (Xe 18 4 x.n (dI x.f)))] else []}
theorem aaZ (x:Pp):Sx.Good M (S0 x):=.of bz Dx aU
def I5 (x:Pp):cN:=.fork x.ok λb=>match b with
 | true=>.fork (O ((65536:Int)<(x.put.length:Int))) λb=>match b with
   | true=>.ret (.aD [.str A [],.int .i64 A 8])
   | false=>.ret (.aD [.str H x.put,.int .i64 A 0])
 | false=>.ret (.aD [.str A [],.int .i64 A 1])
theorem aci (x:Pp)(z:Bool)(o c:Nat)(key:Option Nat):VC.holds (fN (S0 x) 31 az [x.sv (.aS 0 1 z o 0 x.n c)] [cE z o c x key] (I5 x))=((λb:SB=>((λg:(Nat×Nat)->SV=>(((((True/\True/\True/\True/\(z=z/\o=o/\0+x.n<=x.n)/\True)/\True)/\True)/\((!{k:=x.k,root:=x.root,key:=x.key,to:=x.to,n:=x.n,f:=fun(i:Nat)=>x.f i:Pp}.ok)=A->Bk x.ok (Fk (65536<(x.put.length:Int)) (aa (SV.aD [SV.str A [],SV.int .i64 A 1]) (SV.aD [SV.str A [],SV.int .i64 A 8])) (aa (SV.aD [SV.str A [],SV.int .i64 A 1]) (SV.aD [SV.str H x.put,SV.int .i64 A 0]))) (aa (SV.aD [SV.str A [],SV.int .i64 A 1]) (SV.aD [SV.str A [],SV.int .i64 A 1])))/\((!{k:=x.k,root:=x.root,key:=x.key,to:=x.to,n:=x.n,f:=fun(j:Nat)=>x.f j:Pp}.ok)=H->(0<=(x.n:Int)/\16*(x.n:Int)<=140737488355328/\(x.n:Int)<=9223372036854775807)/\(∃(e:Nat×Nat),ov x.n e/\0=(e.1:Int)/\((0:Nat)=(0:Nat)/\0=e.1/\(x.n:Int).toNat=e.2)/\True/\ah (SB.cells [] ((x.n:Int).toNat*1) 9) (SB.rows H e.1 [aE.str (dI x.f)] H e.2 9) /\ah (SB.cells (x.sv (SV.aS 0 1 z o 0 x.n c)).cells 5 63) (SB.cells (x.sv (SV.aS 0 1 z o 0 x.n c)).cells 5 63)/\ah (cE z o c x key).B (cE z o c x key).B/\True)/\∀(a:Nat×Nat),ov x.n a->Fk ((a.1:Int)<(x.n:Int)) ((0<=(a.1:Int)/\(a.1:Int)<(x.n:Int))/\(o=o/\0+(a.1:Int).toNat<x.n)/\(x.f (0+(a.1:Int).toNat)).length<1152921504606846976/\(0+a.1<=a.1/\True/\2*(a.1+1)*16<=(281474976710656:Nat)/\a.1+1<(9223372036854775808:Nat))/\a.2=a.2*1/\∀(u2:Nat),a.1+1<=u2->I6 ((a.1:Int)+1)/\∃(d:Nat×Nat),(ov x.n d/\x.n - d.1<x.n - a.1)/\(a.1:Int)+1=(d.1:Int)/\((0:Nat)=(0:Nat)/\a.1+1=d.1/\u2=d.2)/\True/\ah (SB.rows H (a.1+1) [aE.str λh=>if h<a.1 then dI x.f h else bZ [aq (x.f (0+(a.1:Int).toNat))] (h - a.1)] H (u2*1) 9) (SB.rows H d.1 [aE.str (dI x.f)] H d.2 9) /\ah (SB.cells (x.sv (SV.aS 0 1 z o 0 x.n c)).cells 5 63) (SB.cells (x.sv (SV.aS 0 1 z o 0 x.n c)).cells 5 63)/\ah (cE z o c x key).B (cE z o c x key).B/\True) ((0<=x.k% 18446744073709551616/\x.k% 18446744073709551616<(18446744073709551616:Int))/\I b=I b/\I b=I b/\I b=I b/\x.root.length<1152921504606846976/\I b=I b/\I b=I b/\x.key.length<1152921504606846976/\I b=I b/\x.to.length<1152921504606846976/\((0+a.1<=a.1/\a.1<=a.2)/\(bW (dI x.f) 0 a.1).length<=140737488355328/\(flat (bW (dI x.f) 0 a.1)).length<=140737488355328)/\(((0:Int)<=(192:Int)/\(192:Int)<=(192:Int))/\0<=(↑(flat (bW (dI x.f) 0 a.1)).length:Int)/\(↑(flat (bW (dI x.f) 0 a.1)).length:Int)<1152921504606846976)/\(↑(aN 192 (↑(flat (bW (dI x.f) 0 a.1)).length:Int).toNat).length:Int)+(↑(flat (bW (dI x.f) 0 a.1)).length:Int)<=9223372036854775807/\(((5:Nat)=(5:Nat)/\(5:Nat)<=(5:Nat))/\(5:Nat)<=(140737488355328:Nat) /\(flat [aq (digits (x.k% 18446744073709551616)),aq x.root,aq x.key,aq x.to,cat (aN 192 (↑(flat (bW (dI x.f) 0 a.1)).length:Int).toNat) (flat (bW (dI x.f) 0 a.1))]).length<=140737488355328)/\(((0:Int)<=(192:Int)/\(192:Int)<=(192:Int))/\0<=(↑(flat [aq (digits (x.k% 18446744073709551616)),aq x.root,aq x.key,aq x.to,cat (aN 192 (↑(flat (bW (dI x.f) 0 a.1)).length:Int).toNat) (flat (bW (dI x.f) 0 a.1))]).length:Int)/\(↑(flat [aq (digits (x.k% 18446744073709551616)),aq x.root,aq x.key,aq x.to,cat (aN 192 (↑(flat (bW (dI x.f) 0 a.1)).length:Int).toNat) (flat (bW (dI x.f) 0 a.1))]).length:Int)<1152921504606846976) /\(↑(aN 192 (↑(flat [aq (digits (x.k% 18446744073709551616)),aq x.root,aq x.key,aq x.to,cat (aN 192 (↑(flat (bW (dI x.f) 0 a.1)).length:Int).toNat) (flat (bW (dI x.f) 0 a.1))]).length:Int).toNat).length:Int)+(↑(flat [aq (digits (x.k% 18446744073709551616)),aq x.root,aq x.key,aq x.to,cat (aN 192 (↑(flat (bW (dI x.f) 0 a.1)).length:Int).toNat) (flat (bW (dI x.f) 0 a.1))]).length:Int)<=9223372036854775807/\Fk (65536<(↑(cat (aN 192 (↑(flat [aq (digits (x.k% 18446744073709551616)),aq x.root,aq x.key,aq x.to,cat (aN 192 (↑(flat (bW (dI x.f) 0 a.1)).length:Int).toNat) (flat (bW (dI x.f) 0 a.1))]).length:Int).toNat) (flat [aq (digits (x.k% 18446744073709551616)),aq x.root,aq x.key,aq x.to,cat (aN 192 (↑(flat (bW (dI x.f) 0 a.1)).length:Int).toNat) (flat (bW (dI x.f) 0 a.1))])).length:Int)) (Bk x.ok (Fk (65536<(x.put.length:Int)) (aa (SV.aD [SV.str A [],SV.int .i64 A 8]) (SV.aD [SV.str A [],SV.int .i64 A 8])) (aa (SV.aD [SV.str A [],SV.int .i64 A 8]) (SV.aD [SV.str H x.put,SV.int .i64 A 0]))) (aa (SV.aD [SV.str A [],SV.int .i64 A 8]) (SV.aD [SV.str A [],SV.int .i64 A 1]))) (Bk x.ok (Fk (65536<(x.put.length:Int)) (aa (g a) (SV.aD [SV.str A [],SV.int .i64 A 8])) (aa (g a) (SV.aD [SV.str H x.put,SV.int .i64 A 0]))) (aa (g a) (SV.aD [SV.str A [],SV.int .i64 A 1])))))))) (fun(a:Nat×Nat)=>(SV.aD [SV.str H (cat (aN 192 (↑(flat [aq (digits (x.k% 18446744073709551616)),aq x.root,aq x.key,aq x.to,cat (aN 192 (↑(flat (bW (dI x.f) 0 a.1)).length:Int).toNat) (flat (bW (dI x.f) 0 a.1))]).length:Int).toNat) (flat [aq (digits (x.k% 18446744073709551616)),aq x.root,aq x.key,aq x.to,cat (aN 192 (↑(flat (bW (dI x.f) 0 a.1)).length:Int).toNat) (flat (bW (dI x.f) 0 a.1))])),SV.int .i64 A 0])))) (SB.cells [SV.int .i64 H x.k,SV.str H x.root,SV.str H x.key,SV.str H x.to,SV.aS 0 1 z o 0 x.n c] 5 63)):=by kernel_rfl
structure Pp.Small (x:Pp):Prop where
 k:0<=x.k/\x.k<=1
 root:x.root.length=32
 key:x.key.length<=6
 to:x.to.length<=6
 n:x.n<=200
 row: ∀ i,i<x.n->(x.f i).length<=1000
theorem IF {n:Nat}{f:Nat->e_}(h:k8 n f=A)(hi:i<n):(f i).length<=1000:=by unfold k8 at h;rw[List.all_eq_true] at h;have:=h i (List.mem_range.2 hi);simp only[dV,b!,decide_eq_false_iff_not] at this;omega
theorem Pp.qM {x:Pp}(h:x.ok=A):x.Small:=by unfold Pp.ok at h;simp only[V,Bool.or_eq_true,b!,decide_eq_false_iff_not,decide_eq_true_eq] at h;obtain⟨⟨⟨⟨⟨h1,h2⟩,h3⟩,h4⟩,h5⟩,h6⟩:=h;refine⟨?_,by omega,by omega,by omega,by omega,λi hi=>IF h6 hi⟩;rcases h1 with h1 | h1<;>omega
theorem Pp.vP {x:Pp}(h:x.Small):(flat x.rows).length<=201800:=by
 have h0:=Tz (l:=x.rows) (m:=1009) λy hy=>by obtain⟨i,hi,rfl⟩:=Jm hy;have:=h.row i hi;have:=rm (x.f i);unfold dI;omega
 have e:x.rows.length=x.n:=gQ _ _ _;have:=h.n;rw[e] at h0;have:x.n*1009<=200*1009:=Nat.mul_le_mul_right _ h.n;omega
theorem Pp.xe {x:Pp}(h:x.Small):(flat x.items).length<=201900:=by have h1:=rm (digits x.k);have h2:=rm x.root;have h3:=rm x.key;have h4:=rm x.to;have h5:=LF x.rows;have h6:=Pp.vP h;have h7:=fV x.k;have:=h.root;have:=h.key;have:=h.to;simp only[Pp.items,Pb,Pd,numOf];omega
set_option maxHeartbeats 4000000 in
theorem Mj (x:Pp)(z:Bool)(o c:Nat)(key:Option Nat):av (fN (S0 x) 31 az [x.sv (.aS 0 1 z o 0 x.n c)] [cE z o c x key] (I5 x)):=by
 refine av.gV (aci x z o c key) (by delta Bk Fk;exact rfl) ?_;cases hx:x.ok with
 | false =>refine⟨by simp,λ_=>⟨(λh=>by cases h),λ_ _=>rfl⟩,λh=>by cases h⟩
 | true =>
   have hs:=Pp.qM hx;have hl:=Pp.xe hs;have hr:=Pp.vP hs;have hh:=qw 192 (flat x.items).length;have hh2:=qw 192 (flat x.rows).length;have hrow:x.rows.length=x.n:=gQ _ _ _;obtain⟨h1,h2,h3,h4,h5,h6⟩:=hs;have hk:x.k% 18446744073709551616=x.k:=by omega
   simp only[hk,W,Int.toNat_natCast,c6,c5,and_self,true_and,and_true,Bool.not_true,Bool.false_eq_true,Bool.true_eq_false,false_imp_iff,forall_const];refine⟨by omega,⟨(0,x.n),⟨b_ _,b_ _⟩,rfl,⟨rfl,rfl⟩,Sx.ah.empty rfl,ah.refl _,ah.refl _⟩,λy hy=>⟨λhk=> ?_,λhk=> ?_⟩⟩
   ·simp only[decide_eq_true_eq] at hk;have hk':y.1<x.n:=by omega
    have b1:=h6 y.1 hk';have hle:=hy.le;refine⟨by omega,hk',by omega,by omega,λc1 hc=>⟨by omega,(y.1+1,c1),⟨C9 (_k:=0) hy (by omega) hc,by show x.n - (y.1+1)<x.n - y.1;omega⟩,by simp,⟨rfl,rfl⟩,?_,ah.refl _,ah.refl _⟩⟩;have:=TR (_n:=x.n) (F:=dI x.f) (k:=y.1) (v:=aq (x.f y.1)) rfl (c:=c1) (c':=c1) rfl;rw[c5] at this;exact this
   ·simp only[decide_eq_false_iff_not] at hk;have e:y.1=x.n:=by have:=hy.le;omega
    have hc:=hy.cap;rw[e] at hc ⊢;have e1:bW (dI x.f) 0 x.n=x.rows:=rfl;have e2:cat (aN 192 (flat x.rows).length) (flat x.rows)=dn x.rows:=rfl;have e3:flat [aq (digits x.k),aq x.root,aq x.key,aq x.to,dn x.rows]=flat x.items:=rfl;have e4:cat (aN 192 (flat x.items).length) (flat x.items)=x.put:=rfl;rw[e1,e2,e3,e4,hrow];generalize hL:(flat x.items).length=L at *;generalize O ((65536:Int)<(x.put.length:Int))=b at *;refine⟨by omega,by omega,by omega,by omega,by omega,by omega,by omega,by omega,by omega,by omega,?_⟩;cases b with
    | true=>exact⟨λ_=>⟨λ_ _=>rfl,(λh=>by cases h)⟩,(λh=>by cases h)⟩
    | false=>exact⟨(λh=>by cases h),λ_=>⟨(λh=>by cases h),λ_ _=>rfl⟩⟩
def mb (vs:List SV)(l:List Seen):Option (Prop×cN):=match k9 vs l with
 | some (x,_)=>I (True,I5 x)
 | none=>J
theorem Ob:ax M 31 (bQ BU mb):=by
 refine dN (n:=20) (fn:=az) Tryz.func31 (by kernel_rfl) (by kernel_rfl) ?_;intro vs l q a h hq;unfold mb at h;split at h
 ·rename_i x r hx;obtain⟨z,o,c,key⟩:=r;cases h;obtain⟨e1,e2⟩:=iP hx;rw[e1,e2];exact⟨_,aaZ x,rfl,λb=>by cases b<;>first | exact rfl | (intro b;cases b<;>exact rfl),Mj x z o c key⟩
 ·cases h
noncomputable def LH:List (FuncId×PT):=(31,bQ BU mb)::LG
theorem Dy:aQ M (λf=>ay f LH):=.cons Ob (bR _ _) Dx
def aY (s:e_)(j:Nat):e_:=aj (af s) j
def jI (t:e_):Int:=num (af t)
theorem xM (h0:0<=n)(h:n<18446744073709551616):kP (numOf n)=A/\bO (numOf n)=A/\cy (numOf n)=H/\aF (numOf n)=[]/\jI (numOf n)=n:=by obtain⟨h1,h2⟩:=TE h0 h;obtain⟨g1,g2,g3,_⟩:=vf.1 h1;exact⟨h1,g1,g2,g3,by unfold jI numOf;rw[h2,Al h0 h]⟩
theorem ux {b:e_}(h:b.length<=1048576):bO (aq b)=A/\cy (aq b)=H/\aF (aq b)=[]/\af (aq b)=b:=by obtain⟨h1,h2,h3⟩:=VR h;have:=(rj h []).2.2.1;rw[cB] at this;exact⟨h1,h2,h3,this⟩
structure ow (t:e_)(l:List e_):Prop where
 b:bO t=A
 li:cy t=A
 r:aF t=[]
 i:af t=flat l
 ib:cS (af t)=A
 n:au (af t)=l.length
 at': ∀(k:Nat) (v:e_),l[k]?=I v->aj (af t) k=v
def Whole (y:e_):Prop:=bO y=A/\aF y=[]
theorem A4 {l:List e_}(h: ∀ y∈ l,Whole y)(hl:(flat l).length<=1048576):ow (dn l) l:=by obtain⟨h1,h2,h3,h4⟩:=A5 hl [];rw[cB] at h1 h2 h3 h4;have e:aN 192 (flat l).length++flat l=dn l:=rfl;rw[e] at h1 h2 h3 h4;obtain⟨g1,g2,g3⟩:=tu l h;exact⟨h1,h2,h4,h3,by rw[h3];exact g1,by rw[h3];exact g2,λk v hk=>by rw[h3];exact g3 k v hk⟩
theorem ow.whole {l:List e_}(h:ow t l):Whole t:=⟨h.b,h.r⟩
theorem IL (h0:0<=n)(h:n<18446744073709551616):Whole (numOf n):=⟨(xM h0 h).2.1,(xM h0 h).2.2.2.1⟩
theorem lq {b:e_}(h:b.length<=1048576):Whole (aq b):=⟨(ux h).1,(ux h).2.2.1⟩
end
namespace Sx
open Go
noncomputable section
def gy (E:Nat->Nat):SV->Deferred
 | .func fn a b=>{target:=.fn fn (SV.vals E b).toArray,args:=(SV.vals E a).toArray}
 | _=>{target:=.collected 0,args:=#[]}
theorem Ci {E':Nat->Nat}(h: ∀ k,k<nx->E' k=E k)(hw:d.wf nx=A):gy E' d=gy E d:=by
 cases d<;>try rfl
 simp only[SV.wf,V] at hw;simp only[gy,SV.fA h _ hw.1,SV.fA h _ hw.2]
def EV (σ:Operand->Option SV):Op->Option SV
 | .defer c=>(match c.callee,c.args.toList with
   | .value f,[]=>(match σ f with
     | some (.func (.func g) a b)=>I (.func (.func g) a b)
     | _=>J)
   | _,_=>J)
 | _=>J
def XO:Op->Bool
 | .defer _=>A
 | _=>H
theorem Ho {σ:Operand->Option SV}{ρ:Operand->Value}(hr:Reads E σ ρ){o:Oper}(h:EV σ o.op=I d)(w:World) :
  (execOp ρ o).run P w=.ok (.defer (gy E d)) w:=by
 obtain⟨dst,op,type,pos,after,guard⟩:=o;unfold EV at h;simp only at h;split at h
 ·rename_i c;split at h
  ·rename_i f hc hargs;split at h
   ·rename_i g a b hf;cases h;have hf:=hr f _ hf;have ha:c.args=#[]:=by cases c with | mk callee args at'=>simp only at hargs;exact Array.ext' (by simpa using hargs)
    simp only[execOp,resolve,hc,hf,SV.val,Deferred.ofValue,ha,Sem.run_bind,Sem.run_pure,Result.andThen_ok,gy];simp
   ·cases h
  ·cases h
 ·cases h
def bg.pre (Γ:bg):bg:={Γ with tail:=[],rf:=H}
def bg.dfr (Γ:bg)(d:Deferred):bg:={Γ with tail:=[d],rf:=A}
theorem bg.FF (Γ:bg):Γ.le Γ.pre:=⟨rfl,rfl,W _,λ_ _=>rfl,λ_ h=>h⟩
theorem bg.abl (Γ:bg)(d:Deferred):Γ.le (Γ.dfr d):=⟨rfl,rfl,W _,λ_ _=>rfl,λ_ h=>h⟩
theorem aO.Z2 {E m nx w}(h:aO Γ E m nx w):aO Γ.pre E m nx w:=⟨h.gD,h.iq,h.lt,h.iM,h.ext,h.cx,h.kp⟩
theorem aO.VW {E m nx w}(h:aO Γ.pre E m nx w):aO Γ E m nx w:=⟨h.gD,h.iq,h.lt,h.iM,h.ext,h.cx,h.kp⟩
theorem aO.adm {d:Deferred}{E m nx w}(h:aO Γ E m nx w):aO (Γ.dfr d) E m nx w:=⟨h.gD,h.iq,h.lt,h.iM,h.ext,h.cx,h.kp⟩
theorem aO.adn {d:Deferred}{E m nx w}(h:aO (Γ.dfr d) E m nx w):aO Γ E m nx w:=⟨h.gD,h.iq,h.lt,h.iM,h.ext,h.cx,h.kp⟩
def AT (ops:Array Oper):Bool:=match ops[ops.size - 1]? with
 | some o=>XO o.op&&o.guard.isNone&&o.dst.isNone
 | none=>H
def sxD (P:Program)(C:dm)(env:Env)(bh:nA)(n:Nat):Code->Option SV->(Option SV->XP)->(Option SV->XK)->St->VC
 | c,I d,X,K,st=>sx P C env bh n c H (X (I d)) (K (I d)) st
 | .seq a b,J,X,K,st=>sxD P C env bh n a J X (λd e st'=>match e with
    | .normal=>sxD P C env bh n b d X K st'
    | e=>K d e st') st
 | .region id ops drawn,J,X,K,st=>(match drawn,AT ops with
    | false,A=>iQ P (C.j6 env zq) ops (List.range (ops.size - 1)) (λst'=>match ops[ops.size - 1]? with
       | some o=>(match EV (ev st'.tmps) o.op with
         | some d=>(match d.wf st'.nx with
           | true=>K (I d) .normal st'
           | false=>.fail "a key out of bounds")
         | none=>.fail "what is deferred is not known")
       | none=>.fail "no operation") st
    | _,_=>sx P C env bh n (.region id ops drawn) A (X J) (K J) st)
 | c,J,X,K,st=>sx P C env bh n c A (X J) (K J) st
def Ep (K:Option SV->XK)(X:Option SV->XP)(Γ:bg)(E:Nat->Nat)(nx:Nat)(e:Exit)(a:Act)(w:World):Prop :=gx (K J) (X J) Γ.pre E nx e a w∨∃ d E1 nx1,d.wf nx1=A/\nx<=nx1/\(∀ k,k<nx->E1 k=E k)/\gx (K (I d)) (X (I d)) (Γ.dfr (gy E1 d)) E1 nx1 e a w
theorem BS {P:Program}{Γ:bg}{ro:Option Nat}{KP:PK}{call:mF->PT}(hcall: ∀ c,pW P Γ KP c (call c)){ops:Array Oper}{Q:Exit->Act->World->Prop}{K:St->VC}{l':List Nat}{E0:Nat->Nat}{uF:Nat}{T0:List (Option SV)}(hT0:dw uF T0=A)
  (hP: ∀ e a w,cP E0 (unsure ops T0) a->kZ KP Γ E0 uF e a w->Q e a w) :
  ∀(l:List Nat) {st:St} {E:Nat->Nat} {a:Act} {w:World},(iQ P call ops l K st).holds->Sat Γ E st a w->cP E0 (unsure ops T0) a->(∀ k,k<uF->E k=E0 k)->uF<=st.nx ->
   (∀ a w,iK K Γ E st.nx a w->wpOpsIn (Fr ro) 0 P ops Q l' a w)->wpOpsIn (Fr ro) 0 P ops Q (l++l') a w
 | [],st,E,a,w,h,hs,_,_,_,hQ=>hQ _ _ ⟨E,st,λ_ _=>rfl,W _,hs,h⟩
 | j::r,st,E,a,w,h,hs,hF,hE0,hn0,hQ=>by
   rw[List.cons_append,wpOpsIn_cons];unfold wpOpIn;simp only[iQ] at h;cases ho:ops[j]? with
   | none=>rw[ho] at h;exact h.elim
   | some o =>
     rw[ho] at h;simp only;have hmem:o∈ ops.toList:=by rw[← Array.getElem?_toList] at ho;exact List.mem_of_getElem? ho
     have hstep:=pG (ro:=ro) hcall h hs Q (λe w hb=>hP e a w hF (hb.weaken hE0 hn0));have go: ∀ a' w',((∃ r,a'=a.put o.dst r)/\iK (iQ P call ops r K) Γ E st.nx a' w')->wpOpsIn (Fr ro) 0 P ops Q (r++l') a' w':=by rintro a' w' ⟨⟨rr,ha⟩,E',st',g1,g2,g3,g4⟩;refine BS hcall hT0 hP r g4 g3 (ha▸ cP.uB hF hmem rr) (λk hk=>(g1 k (ag hk hn0)).trans (hE0 k hk)) (Y hn0 g2) λa'' w'' hb=>hQ a'' w'' ?_;obtain⟨E'',st'',k1,k2,k3,k4⟩:=hb;exact⟨E'',st'',λk hk=>(k1 k (ag hk g2)).trans (g1 k hk),Y g2 k2,k3,k4⟩
     split
     ·rename_i hw;rw[if_pos hw] at hstep;exact Oper.wpIn_mono go hstep
     ·rename_i hw;rw[if_neg hw] at hstep;exact⟨p7 ro,go _ _ ⟨⟨_,rfl⟩,hstep⟩⟩
section
variable {P : Program} {C : dm} {env : Env} {bh : nA} {n : Nat}
theorem VO (c:Code)(d:SV)(X:Option SV->XP)(K:Option SV->XK)(st:St):sxD P C env bh n c (I d) X K st=sx P C env bh n c H (X (I d)) (K (I d)) st:=by cases c<;>rfl
theorem Mu {n:Nat}(h:0<n):List.range n=List.range (n - 1)++[n - 1]:=by
 obtain⟨k,rfl⟩: ∃ k,n=k+1:=⟨n - 1,by omega⟩
 simp[List.range_succ]
theorem Re (hmix:P.follows .mixedOrders=A)(hC:di P C)(hem: ∀ p∈ env,bq p.2)(hek: ∀ p∈ env,∀ KP,pW P Γ KP (.yield p.1) p.2): ∀(c:Code) (X:Option SV->XP) (K:Option SV->XK) (st:St) (E:Nat->Nat) (a:Act) (w:World),
  (sxD P C env bh n c J X K st).holds->Sat Γ.pre E st a w->c.wpIn (Fr J) 0 P (Ep K X Γ E st.nx) a w:=by
 have plain: ∀(c:Code) (X:Option SV->XP) (K:Option SV->XK) (st:St) (E:Nat->Nat) (a:Act) (w:World),
   (sx P C env bh n c A (X J) (K J) st).holds->Sat Γ.pre E st a w->c.wpIn (Fr J) 0 P (Ep K X Γ E st.nx) a w:=λc X K st E a w h hs =>
  wpIn_mono (we hmix hC hem c A J (λ_=>rfl) Γ.pre (λh=>by cases h) (λp hp KP=>(hek p hp KP).mono Γ.FF) _ _ st E a w h hs) λe a w h=>.inl h
 intro c;induction c with
 | seq x y ihx ihy =>
   intro X K st E a w h hs;simp only[sxD] at h;refine wpIn_seq (wpIn_mono (ihx _ _ st E a w h hs) ?_);rintro e a1 w1 ((⟨ex,rfl,E1,st1,g1,g2,g3,g4⟩ | hp) | ⟨d,E1,nx1,hd,hn1,hE1,(⟨ex,rfl,E2,st1,g1,g2,g3,g4⟩ | hp)⟩)
   ·cases ex with
    | normal =>
      refine wpIn_mono (ihy _ _ st1 E1 a1 w1 g4 g3) λe a2 w2 hb=> ?_;rcases hb with hb | ⟨d,E2,nx2,hd,hn,hE,hb⟩
      ·exact .inl (hb.weaken g1 g2)
      ·exact .inr ⟨d,E2,nx2,hd,Y g2 hn,λk hk=>(hE k (ag hk g2)).trans (g1 k hk),hb⟩
    | exit id=>exact .inl (.inl ⟨.exit id,rfl,E1,st1,g1,g2,g3,g4⟩)
    | ret=>exact .inl (.inl ⟨.ret,rfl,E1,st1,g1,g2,g3,g4⟩)
   ·have hp':=hp;obtain⟨v,E1,st1,rfl,_⟩:=hp';exact .inl (.inr hp)
   ·cases ex with
    | normal =>simp only at g4;rw[VO] at g4;refine wpIn_mono (we hmix hC hem y H J (λ_=>rfl) _ (λ_=>rfl) (λp hp KP=>(hek p hp KP).mono (Γ.abl _)) _ _ st1 E2 a1 w1 g4 g3) λe a2 w2 hb=> ?_;exact .inr ⟨d,E1,nx1,hd,hn1,hE1,hb.weaken g1 g2⟩
    | exit id=>exact .inr ⟨d,E1,nx1,hd,hn1,hE1,.inl ⟨.exit id,rfl,E2,st1,g1,g2,g3,g4⟩⟩
    | ret=>exact .inr ⟨d,E1,nx1,hd,hn1,hE1,.inl ⟨.ret,rfl,E2,st1,g1,g2,g3,g4⟩⟩
   ·have hp':=hp;obtain⟨v,E1',st1,rfl,_⟩:=hp';exact .inr ⟨d,E1,nx1,hd,hn1,hE1,.inr hp⟩
 | region id ops drawn =>
   intro X K st E a w h hs;simp only[sxD] at h;split at h
   ·rename_i hl;unfold AT at hl;cases hlast:ops[ops.size - 1]? with
    | none=>rw[hlast] at hl;cases hl
    | some o =>
      rw[hlast] at hl;simp only[V,Option.isNone_iff_eq_none] at hl;obtain⟨⟨_,hguard⟩,hdst⟩:=hl;have hsz:0<ops.size:=by have:=(Array.getElem?_eq_some_iff.1 hlast).1;omega
      refine wpIn_region ?_;rw[Mu hsz];refine BS (KP:=zq) (hC.ok Γ.pre env hem (λp hp KP=>(hek p hp KP).mono Γ.FF) zq) hs.wt (λe a w _ hb=> ?_) _ h hs hs.tm.unsure (λ_ _=>rfl) (W _) λa1 w1 hb=> ?_
      ·obtain⟨ch,_,_,_,_,_,_,_,_,_,_,_,hno⟩:=hb;exact hno.elim
      ·obtain⟨E1,st1,g1,g2,g3,g4⟩:=hb;rw[hlast] at g4;simp only at g4;split at g4
       ·rename_i d hd;split at g4
        ·rename_i hdw;have hrun:=Ho (P:=P) (o:=o) g3.tm.reads hd w1;rw[wpOpsIn_cons];unfold wpOpIn;rw[hlast];simp only;have hw:Z o (yielded ops a1.tmps)=true:=by unfold Z;rw[hguard]
         rw[if_pos hw];refine⟨p7 J,?_⟩;have hs2:o.semAt (Fr J).round a1.eval=execOp a1.eval o:=rfl;rw[hs2,hrun,Oper.uponIn_defer,hdst];show Ep _ _ _ _ _ _ _ _;refine .inr ⟨d,E1,st1.nx,hdw,g2,g1,.inl ⟨.normal,rfl,E1,st1,λ_ _=>rfl,W _,⟨⟨g3.tm.size,g3.tm.val⟩,g3.wt,?_,g3.mm.VW.adm⟩,g4⟩⟩;obtain⟨Ds,d1,d2,d3,d4⟩:=g3.df;have hnil:=d4 rfl;subst hnil;refine⟨[],?_,List.nodup_nil,(λD hD=>by cases hD),λ_=>rfl⟩;simp only[Act.put,d1,List.map_nil,List.nil_append,bg.pre,bg.dfr]
        ·exact g4.elim
       ·exact g4.elim
   ·exact plain _ _ _ st E a w h hs
 | skip=>intro X K st E a w h hs;exact plain _ _ _ st E a w h hs
 | label l=>intro X K st E a w h hs;exact plain _ _ _ st E a w h hs
 | exit id=>intro X K st E a w h hs;exact plain _ _ _ st E a w h hs
 | ret=>intro X K st E a w h hs;exact plain _ _ _ st E a w h hs
 | cond c x y=>intro X K st E a w h hs;exact plain _ _ _ st E a w h hs
 | block id b=>intro X K st E a w h hs;exact plain _ _ _ st E a w h hs
 | loop b=>intro X K st E a w h hs;exact plain _ _ _ st E a w h hs
 | rangeFunc g ps a b=>intro X K st E a w h hs;exact plain _ _ _ st E a w h hs
 | scope b=>intro X K st E a w h hs;exact plain _ _ _ st E a w h hs
 | goto l=>intro X K st E a w h hs;exact plain _ _ _ st E a w h hs
 | refuse r=>intro X K st E a w h hs;exact plain _ _ _ st E a w h hs
def w9:Op->Bool
 | .call c=>(match c.callee,c.args.toList with
   | .builtin .recover,[]=>A
   | _,_=>H)
 | _=>H
def vG (P:Program)(ops:Array Oper):List Nat->(St->VC)->St->VC
 | [],K,st=>K st
 | j::r,K,st=>(match ops[j]? with
   | some o=>(match dQ P o.op,o.guard,oR ops j with
     | true,J,H=>qop P (λk=>st.m.get k) (ev st.tmps) o.op (λv=>Qq H o.dst v st.tmps st.m st.nx (vG P ops r K))
     | _,_,_=>.fail "an operation in a closure's first region")
   | none=>.fail "no operation")
def recVal:Option SV->SV
 | some v=>v
 | none=>.aA
def Jd (ops:Array Oper):Option (Option Nat):=match ops[0]? with
 | some o=>(match w9 o.op,o.guard with
   | true,J=>I o.dst
   | _,_=>J)
 | none=>J
def uQ (P:Program)(fn:Func)(K:Mem->Nat->VC):XK:=λe st=>match e with
 | .exit _=>.fail "a jump out of a function"
 | _=>(match fz P st fn.results.toList with
   | some _=>K st.m st.nx
   | none=>.fail "a result that is not known")
def MH (P:Program)(C:dm)(env:Env)(bh:nA)(n:Nat)(fn:Func)(mode:Option SV)(K:Mem->Nat->VC)(st:St):Code->VC
 | .seq (.region id ops H) rest=>(match Jd ops with
   | some dst=>vG P ops (bl 1 (ops.size - 1)) (λst=>sx P C env bh n rest A zM (uQ P fn K) st) ⟨ct st.tmps dst (I (recVal mode)),st.m,st.nx⟩
   | none=>(match mode with
     | none=>sx P C env bh n (.seq (.region id ops H) rest) A zM (uQ P fn K) st
     | some _=>.fail "a panic that is not recovered from"))
 | c=>(match mode with
   | none=>sx P C env bh n c A zM (uQ P fn K) st
   | some _=>.fail "a panic that is not recovered from")
def vQ (P:Program)(cfg:dK)(C:dm)(env:Env)(n:Nat)(d:SV)(mode:Option SV)(m:Mem)(nx:Nat)(K:Mem->Nat->VC):VC:=match d with
 | .func (.func g) first captured=>(match cfg.fns g with
   | some fn=>(match fn.body with
     | some body=>MH P C env (cfg.bh g) n fn mode K ⟨(first++captured).map I++c4 (fn.ntmps - (first++captured).length) J,m,nx⟩ body
     | none=>.fail "a closure without a body")
   | none=>.fail "a closure that is not known")
 | _=>.fail "a closure that is not known"
def Bi (E:Nat->Nat):Option SV->FrameMode
 | none=>.returning
 | some v=>.panicking [{v:=v.val E,recovered:=H}]
def zV (K:Mem->Nat->VC)(Γ:bg)(E:Nat->Nat)(nx:Nat)(w:World):Prop:=∃ E' m' nx',(∀ k,k<nx->E' k=E k)/\nx<=nx'/\aO Γ E' m' nx' w/\(K m' nx').holds
theorem yG {e:Exit}{a:Act}{c₀:Frame}{cs:List Frame}{u:FrameMode}(hu:settle u=.returning)(_hc: ∃ c1:Frame,c1={c₀ with mode:=u})
  (h:gx (uQ P fn K) zM Γ.pre E nx e a w) :
  bodyPostS P fn c₀ cs (λe u' w'=>∃ v,e=.returned v/\settle u'=.returning/\zV K Γ E nx w') e a ({c₀ with mode:=u}::cs) w:=by
 rcases h with ⟨ex,rfl,E1,st1,g1,g2,g3,g4⟩ | hp
 rotate_left
 ·exact hp.none.elim
 have hnil:a.defers=[]:=by obtain⟨Ds,d1,d2,d3,d4⟩:=g3.df;have:=d4 rfl;subst this;exact d1
 have main:(match fz P st1 fn.results.toList with
   | some _=>K st1.m st1.nx
   | none=>VC.fail "a result that is not known").holds->a.defers=[]/\∃ u',({c₀ with mode:=u}::cs)={c₀ with mode:=u'}::cs/\∃ v,(results fn a.tmps).run P w=.ok v w/\∃ v',Ending.returned v=.returned v'/\settle u'=.returning/\zV K Γ E nx w:=by
  intro h;cases hr:fz P st1 fn.results.toList with
  | none=>rw[hr] at h;exact h.elim
  | some vs =>rw[hr] at h;exact⟨hnil,u,rfl,_,qW g3.tm g3.mm hr,_,rfl,hu,E1,st1.m,st1.nx,g1,g2,g3.mm.VW,h⟩
 cases ex with
 | exit id=>exact g4.elim
 | normal=>exact main g4
 | ret=>exact main g4
theorem Je {o:Oper}(h:w9 o.op=A)(ρ:Operand->Value)(w:World):(execOp ρ o).run P w=.ok .recover w:=by
 obtain⟨dst,op,type,pos,after,guard⟩:=o;unfold w9 at h;simp only at h;split at h
 ·rename_i c;split at h
  ·rename_i hc ha;have ha:c.args=#[]:=by cases c with | mk callee args at'=>simp only at ha;exact Array.ext' (by simpa using ha)
   simp only[execOp,resolve,hc,Sem.run_bind,Sem.run_pure,Result.andThen_ok,invoke];rfl
  ·cases h
 ·cases h
theorem qQ {Γ:bg}{ops:Array Oper}{K:St->VC}{cs:List Frame}{Q:Exit->Act->List Frame->World->Prop}: ∀(l:List Nat) (st:St) (E:Nat->Nat) (a:Act) (w:World),(vG P ops l K st).holds->Sat Γ E st a w ->
  (∀ E' st' a',(∀ k,k<st.nx->E' k=E k)->st.nx<=st'.nx->Sat Γ E' st' a' w->(K st').holds->Q .normal a' cs w)->wpOpsSIn S 0 P ops Q l a cs w
 | [],st,E,a,w,h,hs,hQ=>hQ E st a (λ_ _=>rfl) (W _) hs h
 | j::r,st,E,a,w,h,hs,hQ=>by
   simp only[vG] at h;simp only[wpOpsSIn];cases ho:ops[j]? with
   | none=>rw[ho] at h;exact h.elim
   | some o =>
     rw[ho] at h;simp only at h ⊢;split at h
     ·rename_i hq hg _;obtain⟨obl,sv,h1,h2⟩:=Gg (P:=P) (look:=λk=>st.m.get k) (σ:=ev st.tmps) o;obtain⟨hobl,hk⟩:=(h1 _).1 h;obtain⟨rv,hrun,hv⟩:=h2 E w a.eval ⟨hs.mm.ny,hs.mm.Az,hs.mm.gD⟩ hs.tm.reads hobl;have hw:Z o (yielded ops a.tmps)=true:=by unfold Z;rw[hg]
      refine⟨λ_ _=>trivial,?_⟩;rw[if_pos hw,hrun];simp only;obtain⟨E1,st1,g1,g2,g3,g4⟩:=tZ hk hs.tm hs.wt hs.df hs.mm hv;exact qQ r st1 E1 _ w g4 g3 λE' st' a' k1 k2 k3 k4=>hQ E' st' a' (λk hk=>(k1 k (ag hk g2)).trans (g1 k hk)) (Y g2 k2) k3 k4
     ·exact h.elim
theorem Ja {n:Nat}(h:0<n):List.range n=0::bl 1 (n - 1):=by
 obtain⟨k,rfl⟩: ∃ k,n=k+1:=⟨n - 1,by omega⟩
 rw[List.range_eq_range',List.range'_succ];simp
theorem Gw (hmix:P.follows .mixedOrders=A)(hC:di P C)(hem: ∀ p∈ env,bq p.2)(hek: ∀ p∈ env,∀ KP,pW P Γ KP (.yield p.1) p.2){mode:Option SV}{st:St}{body:Code}{a:Act}
  (h:(MH P C env bh n fn mode K st body).holds) (hs:Sat Γ.pre E st a w) (hmw: ∀ v,mode=I v->v.wf st.nx=A) {c₀:Frame} (cs:List Frame) (hu:c₀.mode=Bi E mode) :
  body.wpSIn S 0 P (bodyPostS P fn c₀ cs (λe u' w'=>∃ v,e=.returned v/\settle u'=.returning/\zV K Γ E st.nx w')) a (c₀::cs) w:=by
 have plain: ∀(c:Code),(sx P C env bh n c A zM (uQ P fn K) st).holds->c₀.mode=.returning->c.wpSIn S 0 P (bodyPostS P fn c₀ cs (λe u' w'=>∃ v,e=.returned v/\settle u'=.returning/\zV K Γ E st.nx w')) a (c₀::cs) w:=by
  intro c h hr;refine wpSIn_of_wpIn rfl (wpIn_mono (we hmix hC hem c A J (λ_=>rfl) Γ.pre (λh=>by cases h) (λp hp KP=>(hek p hp KP).mono Γ.FF) _ _ st E a w h hs) λe a w hb=> ?_);have:=yG (c₀:=c₀) (cs:=cs) (u:=.returning) rfl ⟨_,rfl⟩ hb;have he:({c₀ with mode:=.returning}:Frame)=c₀:=by rw[← hr]
  rw[he] at this;exact this
 unfold MH at h;split at h
 ·rename_i id ops rest;split at h
  ·rename_i dst hf;unfold Jd at hf;cases h0:ops[0]? with
   | none=>rw[h0] at hf;cases hf
   | some o =>
     rw[h0] at hf;simp only at hf;split at hf
     ·rename_i hrec hg;cases hf;have hsz:0<ops.size:=(Array.getElem?_eq_some_iff.1 h0).1;refine wpSIn_seq (wpSIn_region ?_);rw[Ja hsz];simp only[wpOpsSIn,h0];have hw:Z o (yielded ops a.tmps)=true:=by unfold Z;rw[hg]
      refine⟨λ_ _=>trivial,?_⟩;rw[if_pos hw,Je hrec];simp only
      have key: ∀(rv:Value) (cs1:List Frame) (u:FrameMode),rv=(recVal mode).val E->cs1={c₀ with mode:=u}::cs->settle u=.returning ->
        wpOpsSIn S 0 P ops (Exit.thenS (rest.wpSIn S 0 P (bodyPostS P fn c₀ cs (λe u' w'=>∃ v,e=.returned v/\settle u'=.returning/\zV K Γ E st.nx w'))) (bodyPostS P fn c₀ cs (λe u' w'=>∃ v,e=.returned v/\settle u'=.returning/\zV K Γ E st.nx w')))
         (bl 1 (ops.size - 1)) (a.put o.dst rv) cs1 w:=by
       intro rv cs1 u hrv hcs1 hst;subst hcs1
       have hs1:Sat Γ.pre E ⟨ct st.tmps o.dst (I (recVal mode)),st.m,st.nx⟩ (a.put o.dst rv) w :=
        ⟨hs.tm.put (λv hv=>by cases hv;exact hrv),jw hs.wt (λv hv=>by
         cases hv;cases mode with
         | none=>rfl
         | some v=>exact hmw v rfl),by cases o.dst<;>exact hs.df,hs.mm⟩
       refine qQ _ _ E _ w h hs1 λE' st' a' k1 k2 k3 k4=> ?_;show rest.wpSIn _ _ _ _ _ _ _;refine wpSIn_of_wpIn rfl (wpIn_mono (we hmix hC hem rest A J (λ_=>rfl) Γ.pre (λh=>by cases h) (λp hp KP=>(hek p hp KP).mono Γ.FF) _ _ st' E' a' w k4 k3) λe a w hb=> ?_);exact yG (c₀:=c₀) (cs:=cs) (u:=u) hst ⟨_,rfl⟩ (hb.weaken k1 k2)
      cases mode with
      | none =>
        have hu:c₀.mode=.returning:=hu;have:recoverD (c₀::cs)=none:=by simp[recoverD,hu]
        rw[this];exact key _ _ .returning rfl (by rw[← hu]) rfl
      | some v =>
        have hu:c₀.mode=.panicking [{v:=v.val E,recovered:=H}]:=hu;have:recoverD (c₀::cs)=I (v.val E,{c₀ with mode:=.panicking [{v:=v.val E,recovered:=A}]}::cs):=by simp[recoverD,hu]
        rw[this];exact key _ _ _ rfl rfl (by simp[settle])
     ·cases hf
  ·split at h
   ·exact plain _ h hu
   ·exact h.elim
 ·split at h
  ·exact plain _ h hu
  ·exact h.elim
theorem ME (hg:Good P cfg)(hC:di P C)(hem: ∀ p∈ env,bq p.2)(hek: ∀ p∈ env,∀ KP,pW P Γ KP (.yield p.1) p.2){mode:Option SV}{m:Mem}
  (h:(vQ P cfg C env n d mode m nx K).holds) (hs:aO Γ E m nx w) (hd:d.wf nx=A) (hmw: ∀ v,mode=I v->v.wf nx=A) :
  ∃ fv cap f args,(gy E d).target=.fn fv cap/\(invoke (gy E d).target (gy E d).args).run P w=.ok (.enter f args) w /\
    CallsDIn S 0 P f args (Bi E mode) w (λe u' w'=>∃ v,e=.returned v/\settle u'=.returning/\zV K Γ E nx w'):=by
 unfold vQ at h;split at h
 ·rename_i g first captured
  split at h
  ·rename_i fn hfn;split at h
   ·rename_i body hb;obtain⟨hf,hname⟩:=hg.fns g fn hfn;refine⟨.func g,_,g,(SV.vals E (first++captured)).toArray,rfl,?_,?_⟩
    ·simp only[gy,invoke];rw[show(SV.vals E first).toArray++(SV.vals E captured).toArray=(SV.vals E (first++captured)).toArray by rw[kM];simp only[List.append_toArray]]
     exact fT hf hname hb _ _
    ·refine callsDIn_of_wpSIn hf hb trivial λc₀ cs hu=> ?_;simp only[SV.wf,V] at hd;exact Gw hg.mix hC hem hek h (aO.start (Δ:=Γ.pre) hs.Z2 rfl (ew hd.1 hd.2) fn.ntmps) hmw cs hu
   ·exact h.elim
  ·exact h.elim
 ·exact h.elim
def Vy (P:Program)(cfg:dK)(C:dm)(env:Env)(bh:nA)(n:Nat)(fn:Func):PT:=λargs m nx K =>
 match fn.body with
 | some body=>sxD P C env bh n body J (λd v st=>match d with
    | some d=>(match v.wf st.nx with
      | true=>vQ P cfg C env n d (I v) st.m st.nx (λm' nx'=>match fz P ⟨st.tmps,m',nx'⟩ fn.results.toList with
        | some vs=>n7 nx (mj vs) m' nx' K
        | none=>.fail "a result that is not known")
      | false=>.fail "a key out of bounds")
    | none=>.fail "a panic") (λd e st=>match e with
    | .exit _=>.fail "a jump out of a function"
    | _=>(match d with
      | some d=>vQ P cfg C env n d J st.m st.nx (λm' nx'=>match fz P ⟨st.tmps,m',nx'⟩ fn.results.toList with
        | some vs=>n7 nx (mj vs) m' nx' K
        | none=>.fail "a result that is not known")
      | none=>(match fz P st fn.results.toList with
        | some vs=>n7 nx (mj vs) st.m st.nx K
        | none=>.fail "a result that is not known")))
    ⟨args.map I++c4 (fn.ntmps - args.length) J,m,nx⟩
 | none=>.fail "a function without a body"
theorem sW {fn:Func}{Γ:bg}{E:Nat->Nat}{m:Mem}{nx:Nat}{tmps:Array Value}{R:Ending->World->Prop}{u:FrameMode}{tl:List Deferred}(hu:u≠.run)
  (fin: ∀ w,aO Γ E m nx w->LeavesInM S 0 P fn tmps R tl u w): ∀(Ds:List Nat) (w:World),Ds.Nodup ->
  (∀ D∈ Ds,w.heap[D]?=I (.deferred (I []))/\D∉ Γ.keep/\Γ.w0.heap.size<=D)->aO Γ E m nx w->LeavesInM S 0 P fn tmps R (Ds.map xE++tl) u w
 | [],w,_,_,hm=>fin w hm
 | D::Ds,w,hnd,hD,hm=>by obtain⟨h1,h2,h3⟩:=hD D (by simp);rw[List.nodup_cons] at hnd;refine⟨hu,.inl ⟨D,_,rfl,run_takeDeferred h1,sW hu fin Ds _ hnd.2 (λD' hD'=> ?_) (hm.shut h1 h2 h3 _)⟩⟩;obtain⟨g1,g2⟩:=hD D' (by simp[hD']);exact⟨by rw[World.putObj_heap_other (λe=>hnd.1 (by rw[← e];exact hD'))];exact g1,g2⟩
theorem YA (hg:Good P cfg)(hC:di P C)(hem: ∀ p∈ env,bq p.2)(hek: ∀ p∈ env,∀ KP,pW P Γ KP (.yield p.1) p.2)(hf:P.funcs[f]?=I fn)
  (hname:(fn.name== "runtime.NumGoroutine")=H):pW P Γ zq (.fn f) (Vy P cfg C env bh n fn):=by
 intro Δ hle args m nx K h hwf hargs E w hs;have hek2: ∀ p∈ env,∀ KP,pW P Δ KP (.yield p.1) p.2:=λp hp KP=>(hek p hp KP).mono hle;unfold Vy at h;split at h
 ·rename_i body hb;simp only[mF.sem];rw[fT hf hname hb];simp only[Out];refine callsIn_wide.1 (callsIn_of_wp_marks (F:=S) (n:=0) hf hb trivial ?_);refine wpIn_mono (Re hg.mix hC hem hek2 body _ _ _ E _ w h (aO.start (Δ:=Δ.pre) hs.Z2 rfl hargs _)) (λe a' w' hq=> ?_)
  have fin: ∀(E':Nat->Nat) (T:List (Option SV)) (m':Mem) (nx':Nat) (a:Act) (w:World),(match fz P ⟨T,m',nx'⟩ fn.results.toList with
     | some vs=>n7 nx (mj vs) m' nx' K
     | none=>VC.fail "a result that is not known").holds->cP E' T a->(∀ k,k<nx->E' k=E k)->nx<=nx'->aO Δ E' m' nx' w ->
    LeavesInM S 0 P fn a.tmps (λe w'=>(∃ v,e=.returned v/\bF (lift K) Δ E nx v w')∨∃ ch,e=.panicked ch/\ij zq Δ E nx ch w') [] .returning w:=by
   intro E' T m' nx' a w h ht hE hn hm;cases hr:fz P ⟨T,m',nx'⟩ fn.results.toList with
   | none=>rw[hr] at h;exact h.elim
   | some vs =>rw[hr] at h;show ∃ v,_/\_;exact⟨_,qW (st:=⟨T,m',nx'⟩) ht hm hr,.inl ⟨_,rfl,pg h hm hs.cx.1 hE hn⟩⟩
  have clos: ∀(d:SV) (E1:Nat->Nat) (nx1:Nat) (E2:Nat->Nat) (st:St) (mode:Option SV) (a:Act) (w:World),d.wf nx1=A->nx<=nx1->(∀ k,k<nx->E1 k=E k)->(∀ k,k<nx1->E2 k=E1 k)->nx1<=st.nx ->
    Sat (Δ.dfr (gy E1 d)) E2 st a w->(∀ v,mode=I v->v.wf st.nx=A) ->
    (vQ P cfg C env n d mode st.m st.nx (λm' nx'=>match fz P ⟨st.tmps,m',nx'⟩ fn.results.toList with
      | some vs=>n7 nx (mj vs) m' nx' K
      | none=>.fail "a result that is not known")).holds ->
    LeavesInM S 0 P fn a.tmps (λe w'=>(∃ v,e=.returned v/\bF (lift K) Δ E nx v w')∨∃ ch,e=.panicked ch/\ij zq Δ E nx ch w') a.defers (Bi E2 mode) w:=by
   intro d E1 nx1 E2 st mode a w hd hn1 hE1 hE2 hn2 hsat hmw hrun;obtain⟨Ds,d1,d2,d3,d4⟩:=hsat.df;rw[d1];have hum:Bi E2 mode≠.run:=by cases mode<;>simp[Bi]
   refine sW (tl:=[gy E1 d]) hum (λw hm=> ?_) Ds w d2 d3 hsat.mm;rw[show gy E1 d=gy E2 d from(Ci hE2 hd).symm]
   obtain⟨fv,cap,g,args',h1,h2,h3⟩:=ME hg hC hem (Γ:=Δ) hek2 hrun hm.adn (SV.fE hn2 _ hd) hmw;refine⟨hum,.inr ⟨(λh=>by cases h),fv,cap,g,args',h1,h2,λ_ _=>trivial,?_⟩⟩;refine⟨h3.1,λc cs hc hr=> ?_⟩;obtain⟨e,u',w',fr,hR,hcome,hk,hfn,hgo⟩:=h3.2 c cs hc hr;obtain⟨v,rfl,hset,E3,m3,nx3,q1,q2,q3,q4⟩:=hR;refine⟨.returned v,u',w',fr,?_,hcome,hk,hfn,hgo⟩;simp only;rw[hset];exact fin E3 st.tmps m3 nx3 a w' q4 (hsat.tm.congr hsat.wt q1) (λk hk=>(q1 k (ag hk (Y hn1 hn2))).trans ((hE2 k (ag hk hn1)).trans (hE1 k hk))) (Y hn1 (Y hn2 q2)) q3
  rcases hq with ((⟨ex,rfl,E1,st1,g1,g2,g3,g4⟩ | hp) | ⟨d,E1,nx1,hd,hn1,hE1,(⟨ex,rfl,E2,st1,g1,g2,g3,g4⟩ | ⟨v,E2,st1,rfl,gw,g1,g2,g3,g4⟩)⟩)
  ·have hnil:a'.defers=[]:=by obtain⟨Ds,d1,d2,d3,d4⟩:=g3.df;have:=d4 rfl;subst this;exact d1
   have go:(match fz P st1 fn.results.toList with
     | some vs=>n7 nx (mj vs) st1.m st1.nx K
     | none=>VC.fail "a result that is not known").holds->LeavesInM S 0 P fn a'.tmps _ a'.defers .returning w':=λh=>by
    rw[hnil];exact fin E1 st1.tmps st1.m st1.nx a' w' h g3.tm g1 g2 g3.mm.VW
   cases ex with
   | exit id=>exact g4.elim
   | normal=>exact go g4
   | ret=>exact go g4
  ·obtain⟨v,E1,st1,rfl,_,_,_,_,hno⟩:=hp;exact hno.elim
  ·cases ex with
   | exit id=>exact g4.elim
   | normal=>exact clos d E1 nx1 E2 st1 J a' w' hd hn1 hE1 g1 g2 g3 (λv hv=>by cases hv) g4
   | ret=>exact clos d E1 nx1 E2 st1 J a' w' hd hn1 hE1 g1 g2 g3 (λv hv=>by cases hv) g4
  ·simp only at g4;rw[gw] at g4;exact clos d E1 nx1 E2 st1 (I v) a' w' hd hn1 hE1 g1 g2 g3 (λu hu=>by cases hu;exact gw) g4
 ·exact h.elim
end
end
end Sx
namespace Sx
open Go
theorem zj (hg:Good P cfg)(hf:P.funcs[f]?=I fn) (hn:(fn.name== "runtime.NumGoroutine")=H) (hb:fn.body.isSome=A) {args:List SV} {m:Mem}  {K:SV->Mem->Nat->VC}
  {C:dm} (hC:di P C) (h:av (Vy P cfg C [] (cfg.bh f) cfg.rounds fn args m nx K)) (hm:Mem.wf nx m=A) (ha:SV.e9 nx args=A)    (hs:aO Γ E m nx w) :
  Calls P f (SV.vals E args).toArray w λe w'=>∃ v,e=.returned v/\bF (lift K) Γ E nx v w':=by
 have:=YA hg hC (env:=[]) (λp hp=>by cases hp) (Γ:=Γ) (λp hp=>by cases hp) (bh:=cfg.bh f) (n:=cfg.rounds) hf hn Γ Γ.le_refl args m nx K h.out hm ha E w hs;obtain⟨body,hb⟩:=Option.isSome_iff_exists.1 hb;simp only[mF.sem] at this;rw[fT hf hn hb] at this;refine Calls.mono this ?_;rintro e w' (h | ⟨ch,_,_,_,_,_,_,_,_,_,_,hno⟩)
 ·exact h
 ·exact hno.elim
theorem Xp (hf:P.funcs[f]?=I fn) (hn:(fn.name== "runtime.NumGoroutine")=H) (hb:fn.body.isSome=A) {spec:List SV->Option (Prop×cN)}
  (h: ∀ args p a,spec args=I (p,a)->p->∃ cfg C,Good P cfg/\di P C/\SV.e9 0 args=A/\a.Ok/\av (Vy P cfg C [] (cfg.bh f) cfg.rounds fn args [] 0 (λv m _=>a.fit v m))):ax P f (bw spec):=by
 intro args m nx K hk hwf hargs Γ E w hs;unfold bw at hk;split at hk
 ·rename_i p a hr;obtain⟨hp,hk⟩:=hk;obtain⟨cfg,C,hg,hC,h1,h2,h3⟩:=h _ _ _ hr hp;have hc:=zj hg hf hn hb hC h3 rfl h1 (aO.none w hs.Az);rw[SV.lN h1 (λ_=>0) E,jR] at hc;refine eF hf hn hb (hc.mono ?_);rintro e w' ⟨v,rfl,E',sv,m',nx',_,_,g3,g4,g5⟩;refine⟨v,rfl,?_⟩;cases sv with
  | none=>exact g5.elim
  | some u=>rw[g3 u rfl];exact cN.told hs hwf g4 h2 g5 hk
 ·exact hk.elim
end Sx
namespace Sx
open Go
noncomputable section
def Ca (C:dm)(ex:List (FuncId×(PK->PT))):dm:=⟨λenv KP c=>match c with
    | .fn f=>(match ex.find? (λe=>bn e.1 f)with
      | some e=>e.2 KP
      | none=>C.j6 env KP (.fn f))
    | c=>C.j6 env KP c,C.bd⟩
structure yq (P:Program)(f:FuncId)(g:PK->PT):Prop where
 ok: ∀ KP Γ,pW P Γ KP (.fn f) (g KP)
 mono: ∀ KP,bq (g KP)
 nU: ∀ KP KP':PK,(∀ v m nx,(KP v m nx).holds->(KP' v m nx).holds)->∀ args m nx K,(g KP args m nx K).holds->(g KP' args m nx K).holds
theorem Cb {C:dm}(hC:di P C){ex:List (FuncId×(PK->PT))}(he: ∀ e∈ ex,yq P e.1 e.2):di P (Ca C ex):=by
 refine⟨λenv hem KP c=> ?_,λenv hem KP KP' hK c args m nx K h=> ?_,λΓ env hem hek KP c=> ?_,hC.bd⟩
 ·unfold Ca;cases c with
  | yield k=>exact hC.mono env hem KP _
  | panic=>exact hC.mono env hem KP _
  | fn f =>
    simp only;split
    ·rename_i e hf;exact(he e (a! hf)).mono KP
    ·exact hC.mono env hem KP _
 ·unfold Ca at h ⊢;cases c with
  | yield k=>exact hC.nU env hem KP KP' hK _ _ _ _ _ h
  | panic=>exact hC.nU env hem KP KP' hK _ _ _ _ _ h
  | fn f =>
    simp only at h ⊢;cases hf:ex.find? (λe=>bn e.1 f)with
    | some e=>rw[hf] at h;exact(he e (a! hf)).nU KP KP' hK _ _ _ _ h
    | none=>rw[hf] at h;exact hC.nU env hem KP KP' hK _ _ _ _ _ h
 ·unfold Ca;cases c with
  | yield k=>exact hC.ok Γ env hem hek KP _
  | panic=>exact hC.ok Γ env hem hek KP _
  | fn f =>
    simp only;cases hf:ex.find? (λe=>bn e.1 f)with
    | some e =>have h1:=List.find?_some hf;have h2:e.1=f:=Nat.eq_of_beq_eq_true h1;rw[← h2];exact(he e (a! hf)).ok KP Γ
    | none=>exact hC.ok Γ env hem hek KP _
def tX (KP:PK):SV->Mem->Nat->VC:=λv m nx=>match v.wf nx with
 | true=>KP v m nx
 | false=>.fail "a key out of bounds"
def sZ (spec:List SV->Option (Prop×Bool×cN×cN)):PK->PT:=λKP args m nx K=>match spec (args.map y8)with
 | some (p,b,a,q)=>.and (.atom p) (Sx.fork b λb=>match b with
   | true=>a.vc m nx K
   | false=>q.vc m nx (tX KP))
 | none=>.fail "arguments that nothing is said of"
theorem IU {KP KP':PK}(hK: ∀ v m nx,(KP v m nx).holds->(KP' v m nx).holds): ∀ v m nx,(tX KP v m nx).holds->(tX KP' v m nx).holds:=by
 intro v m nx h;unfold tX at h ⊢;split at h
 ·exact hK _ _ _ h
 ·exact h
theorem bF.toP {KP:PK}{v:Value}(h:bF (lift (tX KP)) Γ E nx v w):ij KP Γ E nx [{v:=v,recovered:=H}] w:=by
 obtain⟨E',sv,m',nx',h1,h2,h3,h4,h5⟩:=h;cases sv with
 | none=>exact h5.elim
 | some x =>
   have h5:(tX KP x m' nx').holds:=h5;unfold tX at h5;split at h5
   ·rename_i hw;exact⟨E',x,m',nx',h1,h2,by rw[h3 x rfl],hw,h4,h5⟩
   ·exact h5.elim
theorem Md (hf:P.funcs[f]?=I fn) (hn:(fn.name== "runtime.NumGoroutine")=H) (_hb:fn.body.isSome=A) {spec:List SV->Option (Prop×Bool×cN×cN)}
  (h: ∀ args p b a q,spec args=I (p,b,a,q)->p->∃ C bh n,di P C/\P.follows .mixedOrders=A/\SV.e9 0 args=A/\a.Ok/\q.Ok /\
    av (fL P C [] (λv m _=>.and (.atom (b=H)) (q.fit v m)) bh n fn args [] 0 (λv m _=>.and (.atom (b=A)) (a.fit v m)))):yq P f (sZ spec):=by
 refine⟨λKP Γ0=> ?_,λKP args m nx K K' hK hh=> ?_,λKP KP' hK args m nx K hh=> ?_⟩
 ·intro Γ _ args m nx K hk hwf hargs E w hs;unfold sZ at hk;split at hk
  ·rename_i p b a q hr;obtain⟨hp,hk⟩:=hk;obtain⟨C,bh,n,hC,hmix,h1,h2,hq,h3⟩:=h _ _ _ _ _ hr hp;have hk:=c9.1 hk;have hc:=BP hmix hC (env:=[]) (λp hp=>by cases hp) (Γ:=bg.at w (λ_=>False) hs.Az (λ_ _ h=>h)) (λp hp=>by cases hp) (bh:=bh) (n:=n) hf hn _ (bg.le_refl _) _ [] 0 _ h3.out rfl h1 (λ_=>0) w (aO.none w hs.Az);simp only[mF.sem] at hc ⊢;rw[SV.lN h1 (λ_=>0) E,jR] at hc;refine hc.mono (λv w' hh=> ?_) (λch w' hh=> ?_)
   ·obtain⟨E',sv,m',nx',_,_,g3,g4,g5⟩:=hh;cases sv with
    | none=>exact g5.elim
    | some u =>obtain⟨gb,g5⟩:=g5;have gb:b=true:=gb;subst gb;rw[g3 u rfl];exact cN.told hs hwf g4 h2 g5 hk
   ·obtain⟨E',u,m',nx',_,_,g3,gw,g4,gb,g5⟩:=hh;have gb:b=false:=gb;subst gb;rw[g3];exact(cN.told hs hwf g4 hq g5 hk).toP
  ·exact hk.elim
 ·unfold sZ at hh ⊢;split at hh
  ·rename_i p b a q hr;refine⟨hh.1,c9.2 ?_⟩;have:=c9.1 hh.2;cases b
   ·exact this
   ·exact cN.pJ hK this
  ·exact hh
 ·unfold sZ at hh ⊢;split at hh
  ·rename_i p b a q hr;refine⟨hh.1,c9.2 ?_⟩;have:=c9.1 hh.2;cases b
   ·exact cN.pJ (IU hK) this
   ·exact this
  ·exact hh
end
end Sx
section
open Go Sx
set_option maxRecDepth 20000
def gu (s:e_):Pp:=⟨jI (aY s 0),af (aY s 1),af (aY s 2),af (aY s 3),au (af (aY s 4)),λi=>af (aj (af (aY s 4)) i)⟩
def dc (s:e_):Bool:=(gu s).fits&&O ((gu s).put=s)
def N5:SV:=.agg [.int .i64 A 0,.str A [],.str A [],.str A [],.aK]
def NM (s:e_):cN:=.fork (dc s) λb=>match b with
 | true=>.all Nat λc=>.req (au (af (aY s 4))<=c) (.new (λk=>.aD [(gu s).sv (.bx k 1 A 0 (au (af (aY s 4))) c),.int .i64 A 0]) (.rows A (au (af (aY s 4))) [.str (gu s).f] H c 9))
 | false=>.ret (.aD [N5,.int .i64 A 2])
def Zn (st:St)(t:Nat):Nat:=match slot st.tmps t with
 | some (.ptr k _ _)=>k
 | _=>0
def mI:cN:=.all Int λat'=>.new (λk=>.iface 253 (.ptr k A 0)) (.cells [.int .i64 H at',.iface 30 (.int .i64 A 2)] 2 255)
theorem tn:mI.Ok:=λ_=>⟨rfl,rfl,λk=>by simp[SV.wf,Nat.blt_eq],λE E' k k' h=>by simp only[SV.val,h rfl]⟩
noncomputable def Gv (C:dm)(bh:nA)(fn:Func)(args:List SV)(b:Bool)(a q:cN):VC :=fL M C [] (λv m _=>.and (.atom (b=H)) (q.fit v m)) bh 100 fn args [] 0 (λv m _=>.and (.atom (b=A)) (a.fit v m))
def cC (t:e_)(l:Bool):Bool:=bO t&&O (aF t=[])&&(cy t==l)
noncomputable def Hg:dK:={bE with cm:=λf=>ay f LH}
theorem AB:Sx.Good M Hg:=.of bz Dy aU
noncomputable def Ab:dm:=calling M Hg 20
theorem Rt (n:Int)(t:e_)(l:Bool):VC.holds (Gv Ab [] cl [.int .i64 H n,.str H t,.bool H l] (cC t l) (.ret (.str H (af t))) mI)=((t.length<9223372036854775808/\Bk (bO t) (Fk (aF t=[]) (Bk (!cy t==l) (cC t l=H/\∃(u2:Int),ah (SB.cells [SV.int .i64 H n,SV.iface 30 (SV.int .i64 A 2)] 2 255) (SB.cells [SV.int .i64 H u2,SV.iface 30 (SV.int .i64 A 2)] 2 255)/\aa (SV.iface 253 (SV.ptr 0 A 0)) (SV.iface 253 (SV.ptr 0 A 0))) (cC t l=A/\aa (SV.str H (af t)) (SV.str H (af t)))) (cC t l=H/\∃(a:Int),ah (SB.cells [SV.int .i64 H n,SV.iface 30 (SV.int .i64 A 2)] 2 255) (SB.cells [SV.int .i64 H a,SV.iface 30 (SV.int .i64 A 2)] 2 255)/\aa (SV.iface 253 (SV.ptr 0 A 0)) (SV.iface 253 (SV.ptr 0 A 0)))) (cC t l=H/\∃(b:Int),ah (SB.cells [SV.int .i64 H n,SV.iface 30 (SV.int .i64 A 2)] 2 255) (SB.cells [SV.int .i64 H b,SV.iface 30 (SV.int .i64 A 2)] 2 255)/\aa (SV.iface 253 (SV.ptr 0 A 0)) (SV.iface 253 (SV.ptr 0 A 0))))):=by kernel_rfl
theorem iF : ∃(x:Int),ah (SB.cells [SV.int IntKind.i64 H n,SV.iface 30 (SV.int IntKind.i64 A (2:Int))] (2:Nat) 255) (SB.cells [SV.int IntKind.i64 H x,SV.iface 30 (SV.int IntKind.i64 A (2:Int))] (2:Nat) 255) /\
  aa (SV.iface 253 (SV.ptr (0:Nat) A (0:Nat))) (SV.iface 253 (SV.ptr (0:Nat) A (0:Nat))):=⟨n,ah.refl _,λ_=>rfl⟩
def tE:List SV->Option (Prop×Bool×cN×cN)
 | [.int .i64 H _,.str H t,.bool H l]=>I (t.length<9223372036854775808,cC t l,.ret (.str H (af t)),mI)
 | _=>J
theorem Po:yq M 125 (sZ tE):=by
 refine Md (fn:=cl) Tryz.func125 (by kernel_rfl) (by kernel_rfl) ?_;intro args p b a q h hp;unfold tE at h;split at h
 ·rename_i n t l;injection h with h;injection h with h1 h;injection h with h2 h;injection h with h3 h4;subst h1;subst h2;subst h3;subst h4;refine⟨Ab,[],100,nF AB 20,bz,rfl,rfl,tn,av.gV (Rt n t l) (by delta Bk Fk;exact rfl) ?_⟩;refine⟨hp,λh1=>⟨λh2=>⟨λh3=>⟨?_,iF⟩,λh3=>⟨?_,λ_=>rfl⟩⟩,λh2=>⟨?_,iF⟩⟩,λh1=>⟨?_,iF⟩⟩
  all_goals (unfold cC;simp_all)
 ·cases h
noncomputable def aar:List (FuncId×(PK->PT)):=[(125,sZ tE)]
theorem NF: ∀ e∈ aar,yq M e.1 e.2:=λe he=>by
 rcases List.mem_cons.1 he with rfl | he
 ·exact Po
 ·cases he
noncomputable def Kr:dm:=Ca Ab aar
theorem OW:di M Kr:=Cb (nF AB 20) NF
def fo (s:e_):Bool:=cC s A&&cS (af s)
def Oa (s:e_):cN:=.all Nat λc=>.req (au (af s)<=c) (.new (λk=>.bx k 1 A 0 (au (af s)) c) (.rows A (au (af s)) [.str (aj (af s))] H c 9))
theorem Wm (n:Int)(s:e_):VC.holds (Gv Kr [] Tryz.f123 [.int .i64 H n,.str H s] (fo s) (Oa s) mI)=((s.length<9223372036854775808/\Bk (cC s A) ((af s).length<1099511627776/\Bk (cS (af s)) (∀(a:Nat),au (af s)<=a->fo s=A/\∃(b:Nat),au (af s)<=b/\ah (SB.rows A (au (af s)) [aE.str (aj (af s))] H a 9) (SB.rows A (au (af s)) [aE.str (aj (af s))] H b 9)/\aa (SV.bx 0 1 A 0 (au (af s)) a) (SV.bx 0 1 A 0 (au (af s)) b)) (fo s=H/\∃(u2:Int),ah (SB.cells [SV.int .i64 H n,SV.iface 30 (SV.int .i64 A 2)] 2 255) (SB.cells [SV.int .i64 H u2,SV.iface 30 (SV.int .i64 A 2)] 2 255)/\aa (SV.iface 253 (SV.ptr 0 A 0)) (SV.iface 253 (SV.ptr 0 A 0)))) (∀(c:Int),fo s=H/\∃(d:Int),ah (SB.cells [SV.int .i64 H c,SV.iface 30 (SV.int .i64 A 2)] 2 255) (SB.cells [SV.int .i64 H d,SV.iface 30 (SV.int .i64 A 2)] 2 255)/\aa (SV.iface 253 (SV.ptr 0 A 0)) (SV.iface 253 (SV.ptr 0 A 0))))):=by kernel_rfl
end
end Go.Proofs.YtoibaecagklkaaaGreatDoor
