/-
  Wire: Judge: the contract; WireRoots: the set-up.
-/
import Derived.Test.YtpaaiebohjjieaaGreatDoorMu
import Derived.Test.YtpaaiebohjjieaaGreatDoorMt
import Derived.Test.YtpaaiebohjjieaaGreatDoorMq
import Derived.Test.YtpaaiebohjjieaaGreatDoorMs
import Derived.Test.YtpaaiebohjjieaaGreatDoorMi
import Derived.Test.YtpaaiebohjjieaaGreatDoorMj
import Derived.Test.YtpaaiebohjjieaaGreatDoorMk
import Derived.Test.YtpaaiebohjjieaaGreatDoorMo
import Derived.Test.YtpaaiebohjjieaaGreatDoorMp
import Derived.Test.YtpaaiebohjjieaaGreatDoorMm
import Derived.Test.YtpaaiebohjjieaaGreatDoorMn
namespace Go.Proofs.YtpaaiebohjjieaaGreatDoor
open Go Sx
set_option maxRecDepth 20000
section
attribute [local irreducible] eE DU eB pvB pvV Pp.ok ay
theorem Sm (x:Pp)(z:Bool)(o c:Nat)(key:Option Nat):aq (i7 ad1 8 Tryz.f8 [x.sv (.cC 0 1 z o 0 x.n c)] [yG z o c x key] (xK x (x.sp z o c) (x.wy z o c))):=by
 refine aq.j7 (alN x z o c key) (by delta Fk Bk Er aX aF bC bx ak k6 cY aL bH gi cS kG ax aS dY jg bn cQ fV eC fX bT cq fW cI gK qw cB jh cH c6 Aw C3 x5 Gg Up NC JR wC J0 ZW Um Ur;exact rfl) ?_
 try dsimp only
 have S: ∀ v:SV,ah v v:=fun _ _=>rfl;have V:(((True/\True/\True/\True/\(z=z/\o=o/\(0:Nat)+x.n<=x.n)/\True)/\True)/\True):=⟨⟨⟨trivial,trivial,trivial,trivial,⟨rfl,rfl,by omega⟩,trivial⟩,trivial⟩,trivial⟩
 have e1:(⟨x.key,x.to,x.n,x.f,z,o+0,c,fun _=>false,fun _=>0⟩:Sp)=x.sp z o c:=rfl;have e2:(⟨x.root,x.n,x.f,z,o+0,c,0⟩:Wy)=x.wy z o c:=rfl;rw[e1,e2];unfold Pp.PY Pp.jl Pp.Wq;cases hok:x.ok with
 | false=>exact⟨V,fun _=>⟨(fun h=>by cases h),fun _ _=>rfl⟩,(fun h=>by cases h)⟩
 | true =>
   have hs:=Pp.ur hok;have hkey:=hs.key;have f1:(x.sp z o c).th:=⟨hs.row,by show x.key.length<=1000;omega,by have:=hs.to;show x.to.length<=1000;omega⟩
   have f2:(x.wy z o c).th:=⟨hs.row⟩
   generalize x.sp z o c=w at f1 ⊢;generalize x.wy z o c=y at f2 ⊢;refine⟨V,(fun h=>by cases h),fun _=> ?_⟩;cases hk:decide (x.k=1)with
   | true =>
     refine⟨fun _=>⟨⟨⟨trivial,⟨trivial,trivial,trivial⟩,⟨rfl,rfl,by omega⟩,trivial⟩,f1⟩,?_⟩,(fun h=>by cases h)⟩;cases hr:(eE x.root w).isSome with
     | true=>exact⟨fun _ c' hc=>⟨fun _=>⟨c',hc,af.refl _,S _⟩,(fun h=>by cases h)⟩,(fun h=>by cases h)⟩
     | false=>exact⟨(fun h=>by cases h),fun _=>⟨(fun h=>by cases h),fun _ _=>rfl⟩⟩
   | false =>
     refine⟨(fun h=>by cases h),fun _=>⟨⟨⟨trivial,trivial,⟨rfl,rfl,by omega⟩,trivial⟩,f2,by omega⟩,?_⟩⟩;cases hr:(eB y (ay x.key)).isSome with
     | true =>
       cases hb:pvB (eB y (ay x.key))with
       | true=>exact⟨fun _=>⟨(fun h=>by cases h),fun _=>⟨fun _=>⟨1,Nat.le_refl _,af.entry rfl,fun _=>rfl⟩,(fun h=>by cases h)⟩⟩,(fun h=>by cases h)⟩
       | false=>exact⟨fun _=>⟨fun _=>⟨(fun h=>by cases h),fun _ _=>rfl⟩,(fun h=>by cases h)⟩,(fun h=>by cases h)⟩
     | false=>exact⟨(fun h=>by cases h),fun _=>⟨(fun h=>by cases h),fun _ _=>rfl⟩⟩
end
theorem amz {l b:Bool}(h:b=true):ah (.bool l b) (.bool false true):=fun E=>by subst h;rfl
theorem MA (x:Pp)(z:Bool)(o c:Nat): ∀(m:Nat) (y:Nd) (p:List UInt8) (u:Nat),Lx (x.wy z o c) m y p u=Lx (x.wy false 0 0) m y p u
 | 0,_,_,_=>rfl
 | m+1,y,p,u=>by
   unfold Lx;rw[show yT ((x.wy z o c).on u) (br y p)=yT ((x.wy false 0 0).on u) (br y p)from rfl]
   simp only[MA x z o c m]
theorem FZ (x:Pp)(z:Bool)(o c:Nat)(p:List UInt8):eB (x.wy z o c) p=eB (x.wy false 0 0) p:=by unfold eB;rw[show fQ (x.wy z o c) p=fQ (x.wy false 0 0) p by unfold fQ;rw[MA];rfl];rfl
def Sp.put (w:Sp)(z:Bool)(o c:Nat):Sp:={w with z:=z,o:=o,c:=c}
theorem Dl (w:Sp)(z:Bool)(o c:Nat)(T:Wk->Nd->List UInt8->Option Wk)(x:Nd)(p:List UInt8): ∀(i:Nat) (s:Wk),fz (w.put z o c) T x p i s=fz w T x p i s
 | 0,_=>rfl
 | i+1,s=>by unfold fz;rw[Dl w z o c T x p i s];rfl
theorem OA (w:Sp)(z:Bool)(o c:Nat): ∀(m:Nat),z6 (w.put z o c) m=z6 w m
 | 0=>rfl
 | m+1=>by funext s x p;unfold z6;rw[OA w z o c m,Dl];rfl
theorem GN (root:List UInt8)(w:Sp)(z:Bool)(o c:Nat):eE root (w.put z o c)=eE root w:=by
 have:sj root (w.put z o c).full=sj root w.full:=by
  unfold sj;rw[show(w.put z o c).full=w.full.put z o c from rfl,OA]
  rfl
 unfold eE;rw[this];rfl
def Pp.jN (x:Pp):Bool:=x.PY (x.sp false 0 0) (x.wy false 0 0)
def Pp.jE (x:Pp):Int:=x.Wq (x.sp false 0 0) (x.wy false 0 0)
def Pp.jL (x:Pp):List (List UInt8×List UInt8):=x.jl (x.sp false 0 0) (x.wy false 0 0)
def P1 (x:Pp):b7:=.fork x.jN fun b=>match b with
 | true=>.all Nat fun c=>.req (x.jL.length<=c) (.new (fun k=>.bL [.bI k 2 true 0 x.jL.length c,.int .i64 true 0]) (.rows true x.jL.length [gN x.jL,gO x.jL] false (c*2) 38))
 | false=>.ret (.bL [.aO,.int .i64 false x.jE])
theorem So (x:Pp)(z:Bool)(o c:Nat):xK x (x.sp z o c) (x.wy z o c)=P1 x:=by
 have e:eE x.root (x.sp z o c)=eE x.root (x.sp false 0 0):=GN x.root (x.sp false 0 0) z o c;have e':xK x (x.sp z o c) (x.wy z o c)=xK x (x.sp false 0 0) (x.wy false 0 0):=by unfold xK Pp.jl Pp.PY Pp.Wq DU;rw[FZ x z o c,e]
 rw[e'];unfold xK P1;refine congrArg (b7.fork _) ?_;funext b;cases b<;>rfl
def zh (vs:List SV)(l:List Seen):Option (Prop×b7):=match zz vs l with
 | some (x,_)=>some (True,P1 x)
 | none=>none
theorem abv (x:Pp)(w:Sp)(y:Wy):(xK x w y).Ok:=by
 intro b;cases b with
 | false=>rfl
 | true=>intro c;exact aav (x.jl w y) c
theorem Sn:au Tryz.prog 8 (bE shP zh):=by
 refine gq (n:=20) (fn:=Tryz.f8) Tryz.func8 (by kernel_rfl) (by kernel_rfl) ?_;intro vs l q a h hq;unfold zh at h;split at h
 ·rename_i x r hx;obtain⟨z,o,c,key⟩:=r;injection h with h;injection h with h1 h2;subst h1;subst h2;obtain⟨e1,e2⟩:=BA hx;rw[e1,e2,← So x z o c];exact⟨_,anI,rfl,abv x _ _,Sm x z o c key⟩
 ·cases h
end Go.Proofs.YtpaaiebohjjieaaGreatDoor
namespace Go.Proofs.YtpaaiebohjjieaaGreatDoor
open Go Sx
set_option maxRecDepth 20000
def L0:List SV->Option (Prop×b7)
 | []=>some (True,.ret (.bool true true))
 | _=>none
abbrev OK:Prop:=au Tryz.prog 4 (bW L0)
def amq (s:List UInt8):b7:=.fork (fG s) fun b=>match b with
 | true=>.all Pp fun x=>.req (x=gJ s) (.all Nat fun c=>.req (x.n<=c) (.new (fun k=>.bL [x.sv (.bI k 1 true 0 x.n c),.int .i64 true 0]) (.rows true x.n [.str x.f] false c 9)))
 | false=>.ret (.bL [Qs,.int .i64 true 2])
def IE (vs:List SV):Option (Prop×b7):=match vs with
 | [.str false s]=>some (True,amq s)
 | _=>none
section
attribute [local irreducible] aj aH dU aa cA aC dD wZ fG dr
theorem akg:au Tryz.prog 7 (bW IE):=apm Qy fun vs q' a' h hq=>by
 unfold IE at h;split at h
 ·rename_i s;injection h with h;injection h with h1 h2;subst h1;subst h2;refine⟨True,My s,rfl,trivial,fun m nx K hk=> ?_⟩;unfold My;unfold amq at hk;simp only[b7.vc] at hk ⊢;rw[dx] at hk ⊢;cases h:fG s with
  | true=>rw[h] at hk;exact hk (gJ s) rfl
  | false=>rw[h] at hk;exact hk
 ·cases h
end
def YR (x:Pp):b7:=.fork x.jN fun b=>match b with
 | true=>.all (List Rw) fun L=>.req (L=x.jL) (.all Nat fun c=>.req (L.length<=c) (.new (fun k=>.bL [.bI k 2 true 0 L.length c,.int .i64 true 0]) (.rows true L.length [gN L,gO L] false (c*2) 38)))
 | false=>.ret (.bL [.aO,.int .i64 false x.jE])
def Bl (vs:List SV)(l:List Seen):Option (Prop×b7):=match zz vs l with
 | some (x,_)=>some (True,YR x)
 | none=>none
theorem abw:au Tryz.prog 8 (bE shP Bl):=al8 Sn fun vs l q' a' h hq=>by
 unfold Bl at h;split at h
 ·rename_i x r hx;injection h with h;injection h with h1 h2;subst h1;subst h2;refine⟨_,_,by unfold zh;rw[hx],trivial,fun m nx K hk=> ?_⟩;unfold P1;unfold YR at hk;simp only[b7.vc] at hk ⊢;rw[dx] at hk ⊢;cases h:x.jN with
  | true=>rw[h] at hk;exact hk x.jL rfl
  | false=>rw[h] at hk;exact hk
 ·cases h
noncomputable def afP:List (FuncId×PT):=(4,bW L0)::(5,bE shE Ir)::(7,bW IE)::(8,bE shP Bl)::(12,bE aoX P2)::(13,bE aoW V2)::(10,bE alp oK)::WD
theorem abO (ha:OK):aU Tryz.prog (fun f=>aA f afP):=.cons ha (bX _) (.cons aj9 (bJ _ _) (.cons akg (bX _) (.cons abw (bJ _ _) (.cons Su (bJ _ _) (.cons V4 (bJ _ _) (.cons acA (bJ _ _) MS))))))
def Pp.xr (x:Pp)(n:Nat)(f g:Nat->List UInt8)(z:Bool)(o c c':Nat):Xr:=⟨n,f,g,z,o,c,x.key,x.to,x.n,x.f,true,0,c'⟩
def Pp.xk (x:Pp)(n:Nat)(f g:Nat->List UInt8)(z:Bool)(o c c':Nat):Xr:=⟨n,f,g,z,o,c,x.key,[],x.n,x.f,true,0,c'⟩
def Cu (n:Nat)(f g:Nat->List UInt8)(s:List UInt8):Prop:=(gJ s).k≠1->∀ z o c c',((gJ s).xk n f g z o c c').qH=true
noncomputable def apJ (n:Nat)(f g:Nat->List UInt8)(s:List UInt8):bp:={α:=Unit,pre:=fun _ _=>Cu n f g s,sM:=fun _ _=>0,fresh:=0,slots:=fun _ _=>[],mem:=fun _ _=>[]}
noncomputable def aej (n:Nat)(f g:Nat->List UInt8)(s:List UInt8):gF:={cF with cM:=fun f=>aA f afP,aR:=fun h=>if h=3 then [(113015,always (apJ n f g s))] else []}
theorem an3 (ha:OK)(n:Nat)(f g:Nat->List UInt8)(s:List UInt8):Sx.Good Tryz.prog (aej n f g s):=.of bO (abO ha) bt
end Go.Proofs.YtpaaiebohjjieaaGreatDoor
namespace Go.Proofs.YtpaaiebohjjieaaGreatDoor
open Go Sx
set_option maxRecDepth 20000
theorem YT {x:Xr}(h0:fR x.n x.f x.g=0)(h1:x.cl.isSome=true)(h2:x.right=false):x.qH=true:=by
 obtain⟨⟨y,q⟩,hr⟩:=Option.isSome_iff_exists.1 h1;have hs:=abz (w:=x.wy) (key:=x.fr) (m9 h0).1 (by show gC x.n x.f x.g=_;unfold gC;rw[uh]) hr;rcases hs with hs | ⟨i,t,hi,ht,hc⟩
 ·exfalso;have hf:=akd (n:=x.n) (f:=x.f) (g:=x.g) (k:=x.fr);rw[← hs] at hf;have e1:pvB x.cl=iJ y q:=by rw[hr];rfl
  have e2:pvV x.cl=jm y q:=by rw[hr];rfl
  unfold Xr.right at h2;rw[e1,e2] at h2;by_cases hb:iJ y q=true
  ·have hf':Iz x.n x.f x.g x.fr=some (x.fr,jm y q):=by rw[hf];unfold D6;rw[if_pos hb];rfl
   have g1:tV x.n x.f x.g x.fr=true:=by unfold tV;rw[hf'];rfl
   have g2:xy x.n x.f x.g x.fr=jm y q:=by unfold xy;rw[hf'];rfl
   rw[hb,g1,g2] at h2;simp at h2
  ·have hf':Iz x.n x.f x.g x.fr=none:=by rw[hf];unfold D6;rw[if_neg hb];rfl
   have hb:=Bool.eq_false_iff.2 hb;have g1:tV x.n x.f x.g x.fr=false:=by unfold tV;rw[hf'];rfl
   have g2:xy x.n x.f x.g x.fr=[]:=by unfold xy;rw[hf'];rfl
   have g3:jm y q=[]:=by unfold jm;rw[hb];rfl
   rw[hb,g1,g2,g3] at h2;simp at h2
 ·have hu:t∈ x.U:=(uX _ _ rfl t).2 (by rw[uh];exact ht);obtain⟨j,hj,rfl⟩:=List.getElem_of_mem hu;refine Xr.YV (Xr.Sq h0 h1 h2) hi hj ?_;rw[List.getD_eq_getElem?_getD,List.getElem?_eq_getElem hj];exact hc
theorem aff {x:Xr}(h0:fR x.n x.f x.g=0)(h1:(eE (gC x.n x.f x.g) x.sp).isSome=true)(h2: ¬ x.told=x.bet):x.hit=true:=by
 have ht:eE (gC x.n x.f x.g) x.sp=some x.told:=by
  unfold Xr.told DU;cases e:eE (gC x.n x.f x.g) x.sp with
  | none=>rw[e] at h1;cases h1
  | some l=>rfl
 have hs:=sound (m9 h0).1 (w:=x.sp) (root:=gC x.n x.f x.g) (by unfold gC;rw[uh]) ht;rcases hs with hs | ⟨i,t,hi,ht,hc⟩
 ·exact absurd hs h2
 ·have hu:t∈ x.U:=(uX _ _ rfl t).2 (by rw[uh];exact ht);obtain⟨j,hj,rfl⟩:=List.getElem_of_mem hu;refine Xr.afe (Xr.Yn h0 h1 h2) hi hj ?_;rw[List.getD_eq_getElem?_getD,List.getElem?_eq_getElem hj];exact hc
section
variable {x : Pp} {n : Nat} {f g : Nat -> List UInt8} {z : Bool} {o c c' : Nat}
theorem aqE (hx:x.ok=true)(hn:n<9223372036854775808):(x.xr n f g z o c c').Ok:=by have hs:=Pp.ur hx;exact⟨hn,hs.row,by have:=hs.key;show x.key.length<=1000;omega,by have:=hs.to;show x.to.length<=1000;omega⟩
theorem aqD (hx:x.ok=true)(hn:n<9223372036854775808):(x.xk n f g z o c c').KOk:=by have hs:=Pp.ur hx;exact⟨hn,⟨hs.row⟩,by have:=hs.key;show x.key.length<_;omega⟩
theorem ajC (hr:x.root=gC n f g):eE (gC n f g) (x.xr n f g z o c c').sp=eE x.root (x.sp false 0 0):=by rw[← hr];exact GN x.root (x.sp false 0 0) true 0 c'
theorem ajA (hr:x.root=gC n f g):(x.xk n f g z o c c').cl=eB (x.wy false 0 0) (ay x.key):=by unfold Xr.cl;rw[show(x.xk n f g z o c c').wy=x.wy true 0 c' by unfold Xr.wy Pp.wy Pp.xk;rw[hr]];exact FZ x true 0 c' _
theorem abB (h0:fR n f g=0)(hr:x.root=gC n f g)(hk:x.k=1)(hj:x.jN=true)(hs:i5 x.jL.length (fun i=>(x.jL.getD i ([],[])).1) (fun i=>(x.jL.getD i ([],[])).2) (cO x.key x.to (cm n f g)).length (fun i=>((cO x.key x.to (cm n f g)).getD i ([],[])).1) (fun i=>((cO x.key x.to (cm n f g)).getD i ([],[])).2)=false):(x.xr n f g z o c c').hit=true:=by
 unfold Pp.jN Pp.PY at hj;rw[decide_eq_true hk,cond_true,Bool.and_eq_true] at hj;have hL:x.jL=DU x.root (x.sp false 0 0):=by unfold Pp.jL Pp.jl;rw[decide_eq_true hk];rfl
 refine aff h0 (by rw[show eE (gC (x.xr n f g z o c c').n (x.xr n f g z o c c').f (x.xr n f g z o c c').g) (x.xr n f g z o c c').sp=_ from ajC hr];exact hj.2) fun e=> ?_
 have e1:(x.xr n f g z o c c').told=x.jL:=by rw[hL];unfold Xr.told DU;rw[show eE (gC (x.xr n f g z o c c').n (x.xr n f g z o c c').f (x.xr n f g z o c c').g) (x.xr n f g z o c c').sp=_ from ajC hr]
 rw[e1] at e;rw[Oo,decide_eq_false_iff_not] at hs;exact hs e
theorem YX (h0:fR n f g=0)(hr:x.root=gC n f g)(hk: ¬ x.k=1)(hj:x.jN=true)(hs: ¬ (tV n f g x.key=true/\(x.jL.getD 0 ([],[])).2=xy n f g x.key)):(x.xk n f g z o c c').qH=true:=by
 unfold Pp.jN Pp.PY at hj;rw[decide_eq_false hk,cond_false,Bool.and_eq_true,Bool.and_eq_true] at hj;have hL:x.jL=[(x.key,pvV (eB (x.wy false 0 0) (ay x.key)))]:=by unfold Pp.jL Pp.jl;rw[decide_eq_false hk];rfl
 have hc:=ajA (z:=z) (o:=o) (c:=c) (c':=c') hr;refine YT h0 (by rw[hc];exact hj.2.1) ?_;unfold Xr.right;rw[hc,hj.2.2];rw[hL] at hs;show(true==tV n f g x.key&&(decide (pvV _=xy n f g x.key)&&true))=false;cases hb:tV n f g x.key with
 | false=>rfl
 | true =>rw[hb] at hs;have: ¬ pvV (eB (x.wy false 0 0) (ay x.key))=xy n f g x.key:=fun e=>hs ⟨rfl,e⟩;rw[decide_eq_false this];rfl
theorem YU (hk: ¬ x.k=1):x.jL.length=1/\(x.jL.getD 0 ([],[])).1=x.key:=by
 have hL:x.jL=[(x.key,pvV (eB (x.wy false 0 0) (ay x.key)))]:=by unfold Pp.jL Pp.jl;rw[decide_eq_false hk];rfl
 rw[hL];exact⟨rfl,rfl⟩
theorem afv (h0:fR n f g=0)(hx:x.ok=true)(hr:x.root=gC n f g)(hk: ¬ x.k=1)(hj:x.jN=false)(he:x.jE=0)(hs:tV n f g x.key=true):(x.xk n f g z o c c').qH=true:=by
 unfold Pp.jN Pp.PY at hj;unfold Pp.jE Pp.Wq at he;rw[decide_eq_false hk,cond_false,hx,Bool.true_and] at hj;rw[decide_eq_false hk,cond_false,hx,cond_true] at he;have hc:=ajA (z:=z) (o:=o) (c:=c) (c':=c') hr;cases hi:(eB (x.wy false 0 0) (ay x.key)).isSome with
 | false=>rw[hi] at he;cases he
 | true =>rw[hi,Bool.true_and] at hj;refine YT h0 (by rw[hc];exact hi) ?_;unfold Xr.right;rw[hc,hj];show(false==tV n f g x.key&&_)=false;rw[hs];rfl
theorem acr (hx:x.ok=true)(hk:x.k=1)(hj:x.jN=false):x.jE=10:=by unfold Pp.jN Pp.PY at hj;unfold Pp.jE Pp.Wq;rw[decide_eq_true hk,cond_true,hx,Bool.true_and] at hj;rw[decide_eq_true hk,cond_true,hx,cond_true,hj];rfl
end
end Go.Proofs.YtpaaiebohjjieaaGreatDoor
namespace Go.Proofs.YtpaaiebohjjieaaGreatDoor
open Go Sx
set_option maxRecDepth 20000
section
variable (n m k i : Nat) (x z : Nat -> List UInt8) (f : Bool) (y : Pp)
abbrev NG:=dM true
abbrev qz1:=∀(a:List UInt8×List UInt8),Xs a->(ij a.1/\ij a.2)/\ah (dM (cw a.1 a.2)) NG
abbrev lG:Nat->List UInt8:=fun a=>x a
abbrev NF:=c6 (jw/\cI y.n y.n)
abbrev AJ:=Pl.c f n Pl.t
abbrev amH:=Pl.n (k7 3 (AJ 2 false) (AJ 2 false)) (k7 0 (AJ 1 false) (AJ 1 false))
abbrev ahG:=aS (ak (pI n m f) Aw (NF y)/\Xr.Ok (Xr.mk m (lG x) (lG z) f (n+0) k y.key y.to y.n (x5 y) true 0 i)) qz1 (iU NG) (Xr.hit (Xr.mk m (lG x) (lG z) f (n+0) k y.key y.to y.n (x5 y) true 0 i))
abbrev ag7:=aS (ak (pI n m f) True (NF y)/\Xr.KOk (Xr.mk m (lG x) (lG z) f (n+0) k y.key List.nil y.n (x5 y) true 0 i)) (∀(a:List UInt8×List UInt8),Xs a->ahG n m k i x z f y) (ahG n m k i x z f y) (Xr.qH (Xr.mk m (lG x) (lG z) f (n+0) k y.key List.nil y.n (x5 y) true 0 i))
abbrev NR:=cO y.key y.to (cm n (lG x) (lG z))
abbrev T5:=Xr.mk n (lG x) (lG z) f (m+0) k y.key List.nil y.n (x5 y) true 0 i
abbrev nF:=ah mz NG
abbrev Di:=List.length (NR n x z y)
end
theorem Vn (n:Nat)(f g:Nat->List UInt8)(s:List UInt8)(z:Bool)(o c:Nat)(key:Option Nat):gS (k7 2 (k7 2 (k7 0 (k7 1 (Pl.n (Pl.n (Pl.n (AL 1 2 (AJ 3 true) (AJ 2 true)) (AJ 1 true)) (AJ 0 true)) Pl.t) amH) (k7 2 (Pl.n (Pl.n (AJ 0 true) (AJ 0 true)) Pl.t) amH)) Pl.t) Pl.t) (i7 (aej n f g s) 3 Tryz.f3 [.cC 0 2 z o 0 n c,.str false s] [jP z o c n f g key] (.ret (.bool false true))) (gQ True (c6 (c6 (pI o n z))) (c6 (pI o n z)) (cr n) (gA (bn nF (bf nF (aS True (∀(a:Pp),a=gJ s->(∀(b:Nat),aX a.n b (aS (c6 (c6 (aI True True True True (NF a)))) (∀(d:List Rw),d=Pp.jL (Gg a)->(∀(e:Nat),aX (List.length d) e (bn nF (ak (jh (pI o n z) True/\cr n) (cS (Bk (tV n (lG f) (lG g) a.key) (cS (ak (fo (List.length d) 0) (0<List.length d) (Fk ((mU 0 d).1=a.key) (ak (fo (List.length d) 0) (0<List.length d) (Fk ((mU 0 d).2=xy n (lG f) (lG g) a.key) nF (∃(_:Unit),Cu n f g s))) (∃(_:Unit),Cu n f g s))) (∃(_:Unit),Cu n f g s) (NI (List.length d)) 1) (cS nF (∃(_:Unit),Cu n f g s) (NI (List.length d)) 0)) (∃(_:Unit),Cu n f g s) a.k 0) (∀(_:Unit),Cu n f g s->cS (aI (jh (pI o n z) Aw) (lq n) (JZ n f) (lq (C3 a)) (lq (J3 a))/\(∀(e:Nat),aX (Di n f g a) e (aS (jh (jw/\cI (List.length d) (List.length d)) (jw/\cI (Di n f g a) (Di n f g a))/\cr (List.length d)) nF (ag7 o n c b f g z a) (i5 (List.length d) (fun a=>(mU a d).1) (fun a=>(mU a d).2) (Di n f g a) (fun b=>(lS b (NR n f g a)).1) (fun b=>(lS b (NR n f g a)).2))))) (aS (ak (pI o n z) True (NF a)/\Xr.KOk (T5 n o c b f g z a)) qz1 (iU NG) (Xr.qH (T5 n o c b f g z a))) a.k 1)) (eV a.root (gC n (lG f) (lG g)))))) (bn nF (bn nF (ak (jh (pI o n z) True/\cr n) (cS (Bk (tV n (lG f) (lG g) a.key) (∃(_:Unit),Cu n f g s) nF) (∃(_:Unit),Cu n f g s) a.k 0) (∀(_:Unit),Cu n f g s->cS (aI (jh (pI o n z) Aw) (lq n) (JZ n f) (lq (C3 a)) (lq (J3 a))/\(∀(d:Nat),aX (Di n f g a) d (aS (jh True (jw/\cI (Di n f g a) (Di n f g a))/\cr 0) nF (ag7 o n c b f g z a) (i5 0 (fun _=>List.nil) (fun _=>List.nil) (Di n f g a) (fun b=>(lS b (NR n f g a)).1) (fun b=>(lS b (NR n f g a)).2))))) (aS (ak (pI o n z) True (NF a)/\Xr.KOk (T5 n o c b f g z a)) qz1 (iU NG) (Xr.qH (T5 n o c b f g z a))) a.k 1)) (eV a.root (gC n (lG f) (lG g)))) (eX (Pp.jE (Gg a)) 0)) (Pp.jN (Gg a))))) (aS (c6 (c6 (fW True True Aw))) (∀(a:List Rw),a=Pp.jL (Pp.mk 0 List.nil List.nil List.nil 0 (fun _=>List.nil))->(∀(b:Nat),aX (List.length a) b nF)) nF (Pp.jN (Pp.mk 0 List.nil List.nil List.nil 0 (fun _=>List.nil)))) (fG s)) 8000 (bP s)) (Cg n (lG f) (lG g))) (bn nF (bf nF nF 8000 (bP s)) (Cg n (lG f) (lG g))) (bn nF (bf nF nF 8000 (bP s)) (Cg n (lG f) (lG g))) (fR n (lG f) (lG g)) 0 (fR n (lG f) (lG g)) 1)):=⟨by kernel_rfl,by kernel_rfl⟩
theorem LV (n:Nat)(f g:Nat->List UInt8)(s:List UInt8)(z:Bool)(o c:Nat)(hn:n<9223372036854775808)(key:Option Nat):aq (i7 (aej n f g s) 3 Tryz.f3 [.cC 0 2 z o 0 n c,.str false s] [jP z o c n f g key] (.ret (.bool false true))):=by
 refine aq.Qz (Vn n f g s z o c key) (by delta Fk Bk Ix Er NI bf aX bh bP ak aI aL cS fK dM eX gQ cr aS fo bn k8 ij dZ fW cI mz jh dS gA c6 eV jw iU lS pR mU lq pI JZ Xs Aw C3 J3 x5 Gg NG qz1 lG NF ahG ag7 NR T5 nF Di;exact rfl) ?_;have T:ah (SV.bool true true) (SV.bool false true):=fun _=>rfl;have ex: ∀ x:Pp,(⟨x.k,x.root,x.key,x.to,x.n,fun i=>x.f i⟩:Pp)=x:=fun _=>rfl;have ek: ∀(x:Pp) (c':Nat),(⟨n,f,g,z,o,c,x.key,[],x.n,fun i=>x.f i,true,0,c'⟩:Xr)=x.xk n f g z o c c':=fun _ _=>rfl;have er: ∀(x:Pp) (c':Nat),(⟨n,f,g,z,o,c,x.key,x.to,x.n,fun i=>x.f i,true,0,c'⟩:Xr)=x.xr n f g z o c c':=fun _ _=>rfl;simp only[Nat.zero_add,Nat.add_zero,Nat.le_refl,true_and,and_true,decide_eq_true_eq,decide_eq_false_iff_not,Bool.not_eq_true',Bool.not_eq_false',ex,ek,er];refine⟨hn,fun h0=>⟨fun _=>T,fun _=>⟨fun _=>T,fun _=>⟨fun hB x hx c' hc'=> ?_,fun _=>⟨fun _ _ _ _ _=>T,fun _=>T⟩⟩⟩⟩,fun _=>⟨fun _=>⟨fun _=>T,fun _=>⟨fun _=>T,fun _=>T⟩⟩,fun _=>⟨fun _=>T,fun _=>⟨fun _=>T,fun _=>T⟩⟩⟩⟩;have hok:x.ok=true:=by rw[hx];exact(tW.1 hB).1
 have hs:=Pp.ur hok;have kok:=aqD (f:=f) (g:=g) (z:=z) (o:=o) (c:=c) (c':=c') hok hn;have rok:=aqE (f:=f) (g:=g) (z:=z) (o:=o) (c:=c) (c':=c') hok hn;obtain⟨he,h40⟩:=m9 h0;have hf: ∀ i,i<n->(f i).length<1099511627776:=fun i hi=>by have:=(he.key (f i,g i) (by unfold cm;exact List.mem_map.2 ⟨i,List.mem_range.2 hi,rfl⟩)).2;have:(f i).length<=6:=this;omega
 have bK:(x.xk n f g z o c c').qH=true->((x.xk n f g z o c c').KOk/\((x.xk n f g z o c c').qH=true->∀ u:List UInt8×List UInt8,cw u.1 u.2=true/\u.1.length<=1000/\u.2.length<=1000->(u.1.length<1152921504606846976/\u.2.length<1152921504606846976)/\ah (.bool false (cw u.1 u.2)) (.bool false true))/\((x.xk n f g z o c c').qH=false->ah (.bool true false) (.bool false true))):=fun hh =>⟨kok,fun _ u hu=>⟨⟨by omega,by omega⟩,amz hu.1⟩,fun h=>by rw[hh] at h;cases h⟩
 have bR:(x.xr n f g z o c c').hit=true->((x.xr n f g z o c c').Ok/\((x.xr n f g z o c c').hit=true->∀ u:List UInt8×List UInt8,cw u.1 u.2=true/\u.1.length<=1000/\u.2.length<=1000->(u.1.length<1152921504606846976/\u.2.length<1152921504606846976)/\ah (.bool false (cw u.1 u.2)) (.bool false true))/\((x.xr n f g z o c c').hit=false->ah (.bool true false) (.bool false true))):=fun hh =>⟨rok,fun _ u hu=>⟨⟨by omega,by omega⟩,amz hu.1⟩,fun h=>by rw[hh] at h;cases h⟩
 have h01:x.k=0∨x.k=1:=by have:=hs.k;omega
 have F:(¬ x.k=1->∀ z o c c',(x.xk n f g z o c c').qH=true)->∃ _:Unit,Cu n f g s:=fun h=>⟨(),by unfold Cu;rw[← hx];exact h⟩
 have G:Cu n f g s->¬ x.k=1->(x.xk n f g z o c c').qH=true:=fun h k1=>by unfold Cu at h;rw[← hx] at h;exact h k1 z o c c'
 refine⟨fun hj L hL cL hcL=>⟨fun _=>T,fun hr=>⟨hn,⟨fun k0=>⟨fun hb=>⟨fun hl=>⟨⟨by omega,by omega⟩,by omega,fun hk=>⟨⟨by omega,by omega⟩,by omega,fun _=>T,fun hv=>F fun k1 _ _ _ _=>YX h0 hr k1 hj (by rw[← hL];exact fun e=>hv e.2)⟩,fun hk=>F fun k1=>absurd (by rw[hL];exact(YU k1).2) hk⟩,fun hl=>F fun k1=>absurd (by rw[hL,(YU k1).1];rfl) hl⟩,fun hb=>⟨fun _=>T,fun hl=>F fun k1 _ _ _ _=>YX h0 hr k1 hj (by rw[hb];exact fun e=>by cases e.1)⟩⟩,fun k0=>F fun k1=>absurd h01 (by omega)⟩,fun _ hF=>⟨fun k1=>⟨⟨by omega,hf,by have:=hs.key;omega,by have:=hs.to;omega⟩,fun cb hcb=>⟨?_,fun _=>T,fun hsa=> ?_⟩⟩,fun k1=>bK (G hF k1)⟩⟩⟩,fun hj=>⟨fun _=>T,fun he=>⟨fun _=>T,fun hr=>⟨hn,⟨fun k0=>⟨fun hb=>F fun k1 _ _ _ _=>afv h0 hok hr k1 hj he hb,fun _=>T⟩,fun k0=>F fun k1=>absurd h01 (by omega)⟩,fun _ hF=>⟨fun k1=>absurd (he.symm.trans (acr hok k1 hj)) (by decide),fun k1=>bK (G hF k1)⟩⟩⟩⟩⟩
 ·have hl:(x.jL).length<=400:=by
   have hL:x.jL=DU x.root (x.sp false 0 0):=by unfold Pp.jL Pp.jl;rw[decide_eq_true k1];rfl
   rw[hL];exact aaA _ _
  rw[hL];omega
 have hh:=abB (z:=z) (o:=o) (c:=c) (c':=c') h0 hr k1 hj (by rw[← hL];exact hsa);exact⟨kok,fun _ _ _=>bR hh,fun _=>bR hh⟩
end Go.Proofs.YtpaaiebohjjieaaGreatDoor
namespace Go.Proofs.YtpaaiebohjjieaaGreatDoor.Sx
open Go
end Go.Proofs.YtpaaiebohjjieaaGreatDoor.Sx
namespace Go.Proofs.YtpaaiebohjjieaaGreatDoor
open Go Sx
set_option maxRecDepth 20000
def aiq (args:List SV)(_:Mem):Bool:=match args with
 | [.str true s]=>decide (s.length<32)
 | _=>false
noncomputable def afI:List (FuncId×PT):=(21,v7 Zb ofG)::(187,M3 aiq (aT zF))::(188,m7 rA)::(205,m7 (mb 9223372036854775808))::(146,m7 (rz 9223372036854775808)) ::
 (133,m7 (nt fun x=>some (Fits x,agA x)))::(189,sQ (gI fun x=>some (wW 9223372036854775808 x.r,.bool false (bB x))))::(147,m7 (nt fun x=>some (Fits x,Cq x)))::(14,aT sE)::Bp
theorem abH:aU Tryz.prog (fun f=>aA f afI):=.cons ago (GQ _ _) (.cons (SQ Bw) (Jf (aN _)) (.cons (oP Hu) (gY _) (.cons (oP (jo _)) (gY _) (.cons (oP (vJ (jo _))) (gY _)
 (.cons (oP Bv) (gY _) (.cons (CN (Jt (jo _))) (qL _) (.cons (oP MB) (gY _) (.cons Ia (aN _) qV))))))))
def yes:b7:=.ret (.bool false true)
end Go.Proofs.YtpaaiebohjjieaaGreatDoor
namespace Go.Proofs.YtpaaiebohjjieaaGreatDoor.Sx
open Go
section
variable {P : Program} {C : de} {env : Env} {aR : qy} {n : Nat}
theorem aiz (hC:cv P C)(he: ∀ p∈ env,aJ p.2): ∀(c:Code) (d:Option SV) (X:Option SV->XP) (K K':Option SV->XK) (_: ∀ d e st,(K d e st).holds->(K' d e st).holds) (X':Option SV->XP) (_: ∀ d v st,(X d v st).holds->(X' d v st).holds) (st:St),
  (sxD P C env aR n c d X K st).holds->(sxD P C env aR n c d X' K' st).holds:=by
 have plain: ∀(c:Code) (r:Bool) (d:Option SV) (X:Option SV->XP) (K K':Option SV->XK) (_: ∀ d e st,(K d e st).holds->(K' d e st).holds) (X':Option SV->XP) (_: ∀ d v st,(X d v st).holds->(X' d v st).holds) (st:St),
   (sx P C env aR n c r (X d) (K d) st).holds->(sx P C env aR n c r (X' d) (K' d) st).holds:=fun c r d X K K' hK X' hX st h =>
  s9 hC.mono hC.rF he c r _ _ (hX d) _ _ st (fun e st' _=>hK d e st') h
 intro c;induction c with
 | seq a b iha ihb =>
   intro d X K K' hK X' hX st h;cases d with
   | some d=>rw[DF] at h ⊢;exact plain _ _ _ _ _ _ hK _ hX st h
   | none =>
     simp only[sxD] at h ⊢;refine iha none _ _ _ (fun d e st h=> ?_) _ hX st h;cases e with
     | normal=>exact ihb d _ _ _ hK _ hX st h
     | exit _=>exact hK _ _ _ h
     | ret=>exact hK _ _ _ h
 | region id ops drawn =>
   intro d X K K' hK X' hX st h;cases d with
   | some d=>rw[DF] at h ⊢;exact plain _ _ _ _ _ _ hK _ hX st h
   | none =>
     simp only[sxD] at h ⊢;split at h
     ·refine yI (hC.mono env he Al) (l0:=ops.toList.filterMap (fun(o:Oper)=>o.dst)) (t0:=st.tmps) (fun j o d ho hd=>Pr ho hd) (fun st' _ h=> ?_) _ st (Kp.refl _ _) h;split at h
      ·split at h
       ·split at h
        ·exact hK _ _ _ h
        ·exact h.elim
       ·exact h.elim
      ·exact h.elim
     ·exact plain _ _ _ _ _ _ hK _ hX st h
 | _ =>
   intro d X K K' hK X' hX st h;cases d with
   | some d=>rw[DF] at h ⊢;exact plain _ _ _ _ _ _ hK _ hX st h
   | none=>exact plain _ true none _ _ _ hK _ hX st h
theorem An {ops:Array Oper}{K K':St->VC}(hK: ∀ st,(K st).holds->(K' st).holds): ∀(l:List Nat) (st:St),(rL P ops l K st).holds->(rL P ops l K' st).holds
 | [],st,h=>hK st h
 | j::r,st,h=>by
   unfold rL at h ⊢;cases ho:ops[j]? with
   | none=>rw[ho] at h;exact h.elim
   | some o =>
     rw[ho] at h;simp only at h ⊢;cases h1:ff P o.op with
     | false=>rw[h1] at h;exact h.elim
     | true =>
       cases h2:o.guard with
       | some g=>rw[h1,h2] at h;exact h.elim
       | none =>
         cases h3:sJ ops j with
         | true=>rw[h1,h2,h3] at h;exact h.elim
         | false =>
           rw[h1,h2,h3] at h;have e: ∀ K:St->VC,qop P (fun k=>st.m.get k) (ev st.tmps) o.op (fun v=>Xh false o.dst v st.tmps st.m st.nx K)=dF P (fun _ _ _ _ _=>.fail "") ops j o K st:=fun K=>by unfold dF guardOf;rw[h2,h1,h3]
           simp only at h ⊢;rw[e] at h ⊢;exact ck (call:=fun _ _ _ _ _=>.fail "") (fun _ _ _ _ _ _ _ h=>h) (fun u m nx hh=>An hK r _ hh) h
theorem Pb {fn:Func}{K K':Mem->Nat->VC}(hK: ∀ m nx,(K m nx).holds->(K' m nx).holds)(e:Ex)(st:St)(h:(oR P fn K e st).holds):(oR P fn K' e st).holds:=by unfold oR at h ⊢;cases e<;>first | exact h.elim | (simp only at h ⊢;split at h<;>first | exact hK _ _ h | exact h.elim)
theorem US (hC:cv P C)(he: ∀ p∈ env,aJ p.2){fn:Func}{mode:Option SV}{K K':Mem->Nat->VC}(hK: ∀ m nx,(K m nx).holds->(K' m nx).holds)(st:St)(c:Code)
  (h:(Fb P C env aR n fn mode K st c).holds):(Fb P C env aR n fn mode K' st c).holds:=by
 have go: ∀ c st,(sx P C env aR n c true FV (oR P fn K) st).holds->(sx P C env aR n c true FV (oR P fn K') st).holds:=fun c st h =>s9 hC.mono hC.rF he c true _ _ (fun _ _ h=>h) _ _ st (fun e st' _=>Pb hK e st') h
 unfold Fb at h ⊢;split at h
 ·split at h
  ·exact An (fun st h=>go _ st h) _ _ h
  ·split at h
   ·exact go _ _ h
   ·exact h.elim
 ·split at h
  ·exact go _ _ h
  ·exact h.elim
theorem Dt {cfg:gF}(hC:cv P C)(he: ∀ p∈ env,aJ p.2){d:SV}{mode:Option SV}{m:Mem}{nx:Nat}{K K':Mem->Nat->VC}(hK: ∀ m nx,(K m nx).holds->(K' m nx).holds)
  (h:(oX P cfg C env n d mode m nx K).holds):(oX P cfg C env n d mode m nx K').holds:=by
 unfold oX at h ⊢;split at h
 ·split at h
  ·split at h
   ·exact US hC he hK _ _ h
   ·exact h.elim
  ·exact h.elim
 ·exact h.elim
theorem acy {cfg:gF}(hC:cv P C)(he: ∀ p∈ env,aJ p.2){fn:Func}:aJ (UQ P cfg C env aR n fn):=by
 intro args m nx K K' hK h
 have R: ∀(T:List (Option SV)) (m':Mem) (nx':Nat),(match fc P ⟨T,m',nx'⟩ fn.results.toList with
   | some vs=>p4 nx (kL vs) m' nx' K
   | none=>VC.fail "a result that is not known").holds->(match fc P ⟨T,m',nx'⟩ fn.results.toList with
   | some vs=>p4 nx (kL vs) m' nx' K'
   | none=>VC.fail "a result that is not known").holds:=fun T m' nx' h=>by
  cases hr:fc P ⟨T,m',nx'⟩ fn.results.toList with
  | none=>rw[hr] at h;exact h.elim
  | some vs=>rw[hr] at h;exact uQ hK h
 unfold UQ at h ⊢;split at h
 ·refine aiz hC he _ _ _ _ _ (fun d e st h=> ?_) _ (fun d v st h=> ?_) _ h
  ·have go:(match d with
    | some d=>oX P cfg C env n d none st.m st.nx (fun m' nx'=>match fc P ⟨st.tmps,m',nx'⟩ fn.results.toList with
      | some vs=>p4 nx (kL vs) m' nx' K
      | none=>.fail "a result that is not known")
    | none=>(match fc P st fn.results.toList with
      | some vs=>p4 nx (kL vs) st.m st.nx K
      | none=>.fail "a result that is not known")).holds->(match d with
    | some d=>oX P cfg C env n d none st.m st.nx (fun m' nx'=>match fc P ⟨st.tmps,m',nx'⟩ fn.results.toList with
      | some vs=>p4 nx (kL vs) m' nx' K'
      | none=>.fail "a result that is not known")
    | none=>(match fc P st fn.results.toList with
      | some vs=>p4 nx (kL vs) st.m st.nx K'
      | none=>.fail "a result that is not known")).holds:=fun h=>by
    cases d with
    | some d=>exact Dt hC he (fun m' nx' h=>R _ _ _ h) h
    | none=>exact R _ _ _ h
   cases e with
   | exit _=>exact h.elim
   | normal=>exact go h
   | ret=>exact go h
  ·cases d with
   | none=>exact h.elim
   | some d =>
     simp only at h ⊢;split at h
     ·exact Dt hC he (fun m' nx' h=>R _ _ _ h) h
     ·exact h.elim
 ·exact h.elim
end
def ant:PT:=fun _ _ _ _=>.atom False
def Mc:Env:=[(999999,ant)]
theorem vl: ∀ p∈ Mc,aJ p.2:=fun p hp=>by obtain rfl:=List.mem_singleton.1 hp;exact fun _ _ _ _ _ _ h=>h
theorem RC {P:Program}{Γ:aQ}: ∀ p∈ Mc,∀ KP,qO P Γ KP (.yield p.1) p.2:=fun p hp KP=>by obtain rfl:=List.mem_singleton.1 hp;exact fun Δ _ args m nx K h=>h.elim
noncomputable def Ph (P:Program)(cfg:gF)(n:Nat)(f:FuncId)(fn:Func):PT:=UQ P cfg (calling P cfg n) Mc (cfg.aR f) cfg.rounds fn
theorem Pj {P:Program}{cfg:gF}(hg:Good P cfg)(n:Nat)(f:FuncId)(fn:Func):aJ (Ph P cfg n f fn):=acy (kR hg n) vl
theorem VV {P:Program}{cfg:gF}(hg:Good P cfg)(n:Nat){f:FuncId}{fn:Func}(hf:P.funcs[f]?=some fn) (hn:(fn.name== "runtime.NumGoroutine")=false):au P f (Ph P cfg n f fn):=by intro args m nx K h hm ha Γ E w hs;exact(aaw hg (kR hg n) (env:=Mc) vl (Γ:=Γ) RC hf hn Γ Γ.le_refl args m nx K h hm ha E w hs).mono (fun _ _ h=>h) (fun _ _ ⟨_,_,_,_,_,_,_,_,_,h⟩=>h.elim)
section
def mo (n:Nat)(k:Nat->VC):VC:=match n with
 | 0=>k 0
 | m+1=>k (m+1)
theorem gD (n:Nat)(k:Nat->VC):mo n k=k n:=by cases n<;>rfl
def V8 (i:Int)(k:Int->VC):VC:=match i with
 | .ofNat n=>mo n fun n=>k (.ofNat n)
 | .negSucc n=>mo n fun n=>k (.negSucc n)
theorem abg (i:Int)(k:Int->VC):V8 i k=k i:=by cases i<;>(unfold V8;exact gD _ _)
def PF:List UInt8->(List UInt8->VC)->VC
 | [],k=>k []
 | a::r,k=>mo a.toNat fun n=>PF r fun r=>k (UInt8.ofNat n::r)
theorem Mw: ∀(s:List UInt8) (k:List UInt8->VC),PF s k=k s
 | [],_=>rfl
 | a::r,k=>by unfold PF;rw[gD,Mw r,UInt8.ofNat_toNat]
def V9 (l:Bool)(n:Nat)(k:Nat->VC):VC:=match l with
 | true=>mo n k
 | false=>k n
theorem Mv (l:Bool)(n:Nat)(k:Nat->VC):V9 l n k=k n:=by cases l<;>first | rfl | exact gD _ _
mutual
def SV.force (d:Bool):SV->(SV->VC)->VC
 | .agg l,k=>SV.vv d l fun l=>k (.agg l)
 | .bL l,k=>SV.vv d l fun l=>k (.bL l)
 | .iface t v,k=>v.force d fun v=>k (.iface t v)
 | .func f a b,k=>SV.vv d a fun a=>SV.vv d b fun b=>k (.func f a b)
 | .int i true n,k=>V8 n fun n=>k (.int i true n)
 | .bool true b,k=>(match b with
   | true=>k (.bool true true)
   | false=>k (.bool true false))
 | .str true s,k=>(match d with
   | true=>PF s fun s=>k (.str true s)
   | false=>k (.str true s))
 | .ptr a l o,k=>mo a fun a=>V9 l o fun o=>k (.ptr a l o)
 | .slc a o n l c,k=>mo a fun a=>mo o fun o=>mo n fun n=>V9 l c fun c=>k (.slc a o n l c)
 | .map a,k=>mo a fun a=>k (.map a)
 | v,k=>k v
def SV.vv (d:Bool):List SV->(List SV->VC)->VC
 | [],k=>k []
 | x::r,k=>x.force d fun x=>SV.vv d r fun r=>k (x::r)
end
mutual
theorem SV.force_eq (d:Bool): ∀(v:SV) (k:SV->VC),v.force d k=k v
 | .agg l,k=>by unfold SV.force;exact SV.ow d l _
 | .bL l,k=>by unfold SV.force;exact SV.ow d l _
 | .iface t v,k=>by unfold SV.force;exact SV.force_eq d v _
 | .func f a b,k=>by unfold SV.force;rw[SV.ow d a,SV.ow d b]
 | .int i true n,k=>by unfold SV.force;exact abg _ _
 | .int i false n,k=>rfl
 | .bool true b,k=>by cases b<;>rfl
 | .bool false b,k=>rfl
 | .str true s,k=>by cases d<;>first | rfl | (unfold SV.force;exact Mw _ _)
 | .str false s,k=>rfl
 | .ptr a l o,k=>by unfold SV.force;rw[gD,Mv]
 | .slc a o n l c,k=>by unfold SV.force;rw[gD,gD,gD,Mv]
 | .map a,k=>by unfold SV.force;rw[gD]
 | .o5 ..,_=>rfl
 | .tM ..,_=>rfl
 | .cc,_=>rfl
 | .bI ..,_=>rfl
 | .cC ..,_=>rfl
 | .lA ..,_=>rfl
 | .aO,_=>rfl
 | .aZ,_=>rfl
 | .gL,_=>rfl
 | .yield _,_=>rfl
 | .iy,_=>rfl
 | .raw _,_=>rfl
 | .iq ..,_=>rfl
 | .fq ..,_=>rfl
 | .su ..,_=>rfl
theorem SV.ow (d:Bool): ∀(l:List SV) (k:List SV->VC),SV.vv d l k=k l
 | [],_=>rfl
 | x::r,k=>by unfold SV.vv;rw[SV.force_eq d x,SV.ow d r]
end
def Hq:List (Nat×SV×SV)->(List (Nat×SV×SV)->VC)->VC
 | [],k=>k []
 | (b,x,y)::r,k=>mo b fun b=>x.force false fun x=>y.force false fun y=>Hq r fun r=>k ((b,x,y)::r)
theorem IA: ∀(l:List (Nat×SV×SV)) (k:List (Nat×SV×SV)->VC),Hq l k=k l
 | [],_=>rfl
 | (b,x,y)::r,k=>by unfold Hq;rw[gD,SV.force_eq,SV.force_eq,IA r]
def SB.force (d:Bool):SB->(SB->VC)->VC
 | .cells cs tot ty,k=>SV.vv d cs fun cs=>k (.cells cs tot ty)
 | .map es c,k=>Hq es fun es=>mo c fun c=>k (.map es c)
 | B,k=>k B
theorem SB.force_eq (d:Bool)(B:SB)(k:SB->VC):B.force d k=k B:=by
 cases B with
 | cells cs tot ty=>exact SV.ow d _ _
 | map es c=>exact(IA _ _).trans (gD _ _)
 | _=>rfl
def Mem.force:Mem->(Mem->VC)->VC
 | [],k=>k []
 | (a,B)::r,k=>mo a fun a=>B.force false fun B=>Mem.force r fun r=>k ((a,B)::r)
theorem Mem.force_eq: ∀(m:Mem) (k:Mem->VC),m.force k=k m
 | [],_=>rfl
 | (a,B)::r,k=>by unfold Mem.force;rw[gD,SB.force_eq,Mem.force_eq r]
def Hr (pt:PT):PT:=fun args m nx K=>SV.vv false args fun args=>m.force fun m=>mo nx fun nx=>pt args m nx fun v m nx=>v.force false fun v=>m.force fun m=>mo nx fun nx=>K v m nx
theorem IB (pt:PT):Hr pt=pt:=by funext args m nx K;unfold Hr;rw[SV.ow,Mem.force_eq,gD];congr 1;funext v m nx;rw[SV.force_eq,Mem.force_eq,gD]
def zC (pt:PT):PT:=fun args m nx K=>pt args m nx fun v m nx=>v.force true fun v=>(match m with
 | (a,B)::r=>B.force true fun B=>K v ((a,B)::r) nx
 | []=>K v [] nx)
theorem Xd (pt:PT):zC pt=pt:=by
 funext args m nx K;unfold zC;congr 1;funext v m nx;rw[SV.force_eq];cases m with
 | nil=>rfl
 | cons e r=>exact SB.force_eq _ _ _
end
noncomputable def To (b:List SV->Bool)(spec:List SV->Option (Prop×b7)):PT:=fun args m nx K=>match DX args,b (args.map yS)with
 | true,true=>(match spec (args.map yS)with
   | some (_,a)=>a.vcl m nx K
   | none=>.fail "arguments that nothing is said of")
 | _,_=>.fail "arguments that are not written out"
theorem iO (b:List SV->Bool)(spec:List SV->Option (Prop×b7)):aJ (To b spec):=by
 intro args m nx K K' hK h;unfold To at h ⊢;split at h
 ·split at h
  ·exact b7.sq hK h
  ·exact h
 ·exact h
theorem oC {P:Program}{f:FuncId}{b:List SV->Bool}{spec:List SV->Option (Prop×b7)}(h:au P f (bW spec))(hb: ∀ vs p a,b vs=true->spec vs=some (p,a)->p):au P f (To b spec):=by
 intro args m nx K hk;refine oP h args m nx K ?_;unfold To at hk;unfold m7;split at hk
 ·rename_i h1 h2;split at hk
  ·rename_i p a hs;rw[h1];simp only[hs];exact⟨hb _ _ _ h2 hs,hk⟩
  ·exact hk.elim
 ·exact hk.elim
def oW (spec:List SV->Option (Prop×SV))(vs:List SV):Option (Prop×b7):=(spec vs).map fun p=>(p.1,.ret p.2)
theorem QV {P:Program}{f:FuncId}{spec:List SV->Option (Prop×SV)}(h:au P f (aT spec)):au P f (bW (oW spec)):=by
 intro args m nx K hk;refine h args m nx K ?_;unfold bW oW at hk;unfold aT;cases hs:spec (args.map yS)with
 | none=>rw[hs] at hk;exact hk.elim
 | some p=>rw[hs] at hk;exact hk
noncomputable def O7 (P:Program)(c0:gF)(skip dl:List Nat):Nat->FuncId->Option PT
 | 0,f=>c0.cM f
 | d+1,f=>(match c0.cM f with
   | some pt=>some pt
   | none=>(match skip.contains f,c0.fns f with
     | false,some fn=>(match dl.contains f with
       | true=>some (Hr (Ph P {c0 with cM:=O7 P c0 skip dl d} 40 f fn))
       | false=>some (Hr (gR P (calling P {c0 with cM:=O7 P c0 skip dl d} 40) Mc Al (c0.aR f) c0.rounds fn)))
     | _,_=>none))
noncomputable def aeq (P:Program)(c0:gF)(skip dl:List Nat)(d:Nat):gF:={c0 with cM:=O7 P c0 skip dl d}
theorem aer {P:Program}{c0:gF}(h:Good P c0)(skip dl:List Nat): ∀ d,Good P (aeq P c0 skip dl d)
 | 0=>⟨h.mix,h.cM,h.fns,h.iter⟩
 | d+1=>⟨h.mix,(fun f pt e=>by
    have hg:=aer h skip dl d;unfold aeq O7 at e;split at e
    ·rename_i pt' e';injection e with e;subst e;exact h.cM f _ e'
    ·split at e
     ·rename_i fn _ hf;have hfn:=h.fns f fn hf;split at e
      ·injection e with e;subst e;rw[IB];exact⟨VV hg 40 hfn.1 hfn.2,Pj hg 40 f fn⟩
      ·injection e with e;subst e;rw[IB];refine⟨fun args m nx K hk hm ha Γ E w hs=> ?_,KV (kR hg 40) vl⟩;exact(Du h.mix (kR hg 40) (env:=Mc) vl (Γ:=Γ) RC (KP:=Al) hfn.1 hfn.2 Γ Γ.le_refl args m nx K hk hm ha E w hs).mono (fun _ _ h=>h) (fun _ _ ⟨_,_,_,_,_,_,_,_,_,h⟩=>h.elim)
     ·cases e),h.fns,h.iter⟩
def O4:SV->SV->Bool
 | .int k _ a,.int k' _ b=>decide (k=k')&&decide (a=b)
 | .str _ a,.str _ b=>decide (a=b)
 | .bool _ a,.bool _ b=>decide (a=b)
 | .aO,.aO=>true
 | _,_=>false
def Hi:List SV->List SV->Bool
 | [],[]=>true
 | a::r,b::s=>O4 a b&&Hi r s
 | _,_=>false
def adH:SV->SV->Bool
 | .agg a,.agg b=>Hi a b
 | a,b=>O4 a b
def OS:List SV->List SV->Bool
 | [],[]=>true
 | a::r,b::s=>adH a b&&OS r s
 | _,_=>false
theorem H6 {a b:SV}(h:O4 a b=true)(E:Nat->Nat):a.val E=b.val E:=by
 unfold O4 at h;split at h
 ·rw[Bool.and_eq_true,decide_eq_true_eq,decide_eq_true_eq] at h;obtain⟨rfl,rfl⟩:=h;rfl
 ·rw[decide_eq_true_eq] at h;subst h;rfl
 ·rw[decide_eq_true_eq] at h;subst h;rfl
 ·rfl
 ·cases h
theorem FE: ∀ {a b:List SV},Hi a b=true->∀ E,SV.vals E a=SV.vals E b
 | [],[],_,_=>rfl
 | [],_::_,h,_=>by cases h
 | _::_,[],h,_=>by cases h
 | a::r,b::s,h,E=>by simp only[Hi,Bool.and_eq_true] at h;simp only[SV.vals,H6 h.1 E,FE h.2 E]
theorem aaS {a b:SV}(h:adH a b=true)(E:Nat->Nat):a.val E=b.val E:=by
 unfold adH at h;split at h
 ·simp only[SV.val,FE h E]
 ·exact H6 h E
theorem HP: ∀ {a b:List SV},OS a b=true->∀ E,SV.vals E a=SV.vals E b
 | [],[],_,_=>rfl
 | [],_::_,h,_=>by cases h
 | _::_,[],h,_=>by cases h
 | a::r,b::s,h,E=>by simp only[OS,Bool.and_eq_true] at h;simp only[SV.vals,aaS h.1 E,HP h.2 E]
noncomputable def CI (args0:List SV)(a:b7):PT:=fun args m nx K=>match OS args args0 with
 | true=>a.vc m nx K
 | false=>.fail "other arguments"
theorem vM (args0:List SV)(a:b7):aJ (CI args0 a):=by
 intro args m nx K K' hK h;unfold CI at h ⊢;split at h
 ·exact b7.td hK h
 ·exact h
theorem aoz {P:Program}{f:FuncId}{pt:PT}(hp:au P f pt){args0:List SV}{a0:b7}(h1:SV.gM 0 args0=true)(h2:a0.Ok)(h3:aq (pt args0 [] 0 (fun v m _=>a0.fit v m))):au P f (CI args0 a0):=by
 intro args m nx K hk hwf hargs Γ E w hs;unfold CI at hk;split at hk
 ·rename_i he;have ho:=hp args0 [] 0 _ h3.out rfl h1 _ _ w (aG.none w hs.G2);rw[SV.oN h1 (fun _=>0) E,← HP he E] at ho;refine ho.mono (fun v w' h=> ?_) (fun _ _ h=>h);obtain⟨E',sv,m',nx',_,_,g3,g4,g5⟩:=h;cases sv with
  | none=>exact g5.elim
  | some u=>rw[g3 u rfl];exact b7.told hs hwf g4 h2 g5 hk
 ·exact hk.elim
inductive Tr where
 | z
 | r (m:Nat) (t: ∀ c:Nat,m<=c->Tr)
 | b (x y:Tr)
 | q (p:Prop) (h:p)
 | a (α:Type) (t:Tr)
 | i (p:Prop) (t:Tr)
 | e (t:Tr)
def Tr.p:Tr->Prop
 | .z=>True
 | .r m t=>∀(c:Nat) (h:m<=c),(t c h).p
 | .b x y=>x.p/\y.p
 | .q p _=>p
 | .a α t=>∀ _:α,t.p
 | .i p t=>p->t.p
 | .e t=>∃ _:Unit,t.p
theorem Tr.ok: ∀ t:Tr,t.p
 | .z=>trivial
 | .r _ t=>fun c h=>(t c h).ok
 | .b x y=>⟨x.ok,y.ok⟩
 | .q _ h=>h
 | .a _ t=>fun _=>t.ok
 | .i _ t=>fun _=>t.ok
 | .e t=>⟨(),t.ok⟩
theorem aq.closed {v:VC}(t:Tr)(e:gS .t v t.p):aq v:=.pr e t.ok
end Go.Proofs.YtpaaiebohjjieaaGreatDoor.Sx
namespace Go.Proofs.YtpaaiebohjjieaaGreatDoor
open Go Sx
set_option maxRecDepth 20000
theorem Yd {d:List aK}{m:Mem}{k o n c:Nat}{cl:Bool}{p:Prop}{s:Seen}(h:we d m (.slc k o n cl c)=some (p,s)):p:=by
 unfold we at h;dsimp only at h;split at h
 ·split at h
  ·injection h with h;injection h with h1 h2;subst h1;trivial
  ·split at h
   ·split at h
    ·injection h with h;injection h with h1 h2;subst h1;trivial
    ·cases h
   ·cases h
 ·cases h
def Fe (l:List (List UInt8)):Bool:=Nat.blt l.length 1000000&&Nat.blt (flat l).length 1000000
noncomputable def agp:PT:=fun args m nx K=>match args with
 | [.slc k o n cl c]=>(match we [.str fun _=>[]] m (.slc k o n cl c),Qb m (.slc k o n cl c)with
   | some (_,s),some l=>(match s.av,Fe l with
     | [.str _],true=>K (.str true (cT (flat l))) m nx
     | _,_=>.fail "texts that are not written out")
   | _,_=>.fail "texts that are not written out")
 | _=>.fail "texts that are not written out"
theorem ab9:aJ agp:=by
 intro args m nx K K' hK h;unfold agp at h ⊢
 repeat' first
  | exact hK _ _ _ h
  | exact h
  | split at h
theorem akO:au Tryz.prog 21 agp:=by
 intro args m nx K hk hwf hargs Γ E w hs;have key:(v7 Zb ofG args m nx (fun v m nx=>K (lit v) m nx)).holds:=by
  unfold agp at hk;unfold v7;split at hk
  ·split at hk
   ·rename_i k o n cl c _ _ p s l hv hl;split at hk
    ·rename_i f hc hsh;simp only[hv,hc,hl];unfold Fe at hsh;rw[Bool.and_eq_true,Nat.blt_eq,Nat.blt_eq] at hsh;exact⟨⟨Yd hv,by omega,by omega⟩,hk⟩
    ·exact hk.elim
   ·exact hk.elim
  ·exact hk.elim
 exact(ago args m nx _ key hwf hargs Γ E w hs).mono (fun e w' hh=>aV.aap hh) (fun _ _ h=>h)
noncomputable def JE:PT:=fun args m nx K=>match args with
 | [.slc k o n true c,.str _ []]=>(match BO m (.slc k o n true c)with
   | some (_,l)=>(match Nat.beq l.length n&&(Nat.ble n c&&Fe l)with
     | true=>K (.str true (flat l)) m nx
     | false=>.fail "join")
   | none=>.fail "join")
 | [.slc k o n false c,.str _ []]=>(match BO m (.slc k o n false c)with
   | some (_,l)=>(match Nat.beq l.length n&&Fe l with
     | true=>.and (.atom (n<=c)) (K (.str true (flat l)) m nx)
     | false=>.fail "join")
   | none=>.fail "join")
 | _=>.fail "join: of what"
theorem Tp:aJ JE:=by
 intro args m nx K K' hK h;unfold JE at h ⊢
 repeat' first
  | exact hK _ _ _ h
  | exact⟨h.1,hK _ _ _ h.2⟩
  | exact h
  | split at h
theorem K8 {m:Mem}{k o n c:Nat}{cl:Bool}{p:Prop}{l:List (List UInt8)}(h:BO m (.slc k o n cl c)=some (p,l))(h1:l.length=n)(h2:n<=c):p:=by
 unfold BO at h;dsimp only at h;split at h
 ·split at h
  ·injection h with h;injection h with h3 h4;subst h4;subst h3;exact⟨h1,h2⟩
  ·cases h
 ·cases h
theorem Ot {l:List (List UInt8)}(h:Fe l=true):l.length<1000000/\(flat l).length<1000000:=by
 unfold Fe at h
 rwa [Bool.and_eq_true,Nat.blt_eq,Nat.blt_eq] at h
theorem ab8:au Tryz.prog 160 JE:=by
 intro args m nx K hk hwf hargs Γ E w hs;have key:(xJ args m nx (fun v m nx=>K (lit v) m nx)).holds:=by
  unfold JE at hk;unfold xJ;split at hk
  ·split at hk
   ·rename_i k o n c _ p l hl;split at hk
    ·rename_i hb;rw[Bool.and_eq_true,Bool.and_eq_true] at hb;have h1:=Ot hb.2.2;simp only[hl];exact⟨⟨K8 hl (Nat.eq_of_beq_eq_true hb.1) (Nat.le_of_ble_eq_true hb.2.1),by omega,by omega⟩,hk⟩
    ·exact hk.elim
   ·exact hk.elim
  ·split at hk
   ·rename_i k o n c _ p l hl;split at hk
    ·rename_i hb;rw[Bool.and_eq_true] at hb;have h1:=Ot hb.2;simp only[hl];exact⟨⟨K8 hl (Nat.eq_of_beq_eq_true hb.1) hk.1,by omega,by omega⟩,hk.2⟩
    ·exact hk.elim
   ·exact hk.elim
  ·exact hk.elim
 exact(P0 args m nx _ key hwf hargs Γ E w hs).mono (fun e w' hh=>aV.aap hh) (fun _ _ h=>h)
def zZ:List SV->Bool
 | [.str _ s]=>Nat.blt s.length 1000000
 | _=>false
def aqf:List SV->Bool
 | [.int .u64 _ n]=>decide (0<=n)&&decide (n<1000000)
 | _=>false
def amx:List SV->Bool
 | [.int .u8 _ a,.int .i64 _ n]=>(decide (0<=a)&&decide (a<=192))&&(decide (0<=n)&&decide (n<1000000))
 | _=>false
def ndB:List SV->Bool
 | [.agg l]=>(match LF l with
   | some x=>(List.range 16).all fun j=>Nat.blt (x.r j).length 1000000
   | none=>false)
 | _=>false
theorem aqc {g:Nd->b7}: ∀ vs p a,ndB vs=true->nt (fun x=>some (Fits x,g x)) vs=some (p,a)->p:=fun vs p a hb h=>by
 unfold nt at h;split at h
 ·split at h
  ·rename_i l x hx;injection h with h;injection h with h1 h2;subst h1;unfold ndB at hb;simp only[hx] at hb;intro j hj;have:=List.all_eq_true.1 hb j (List.mem_range.2 hj);rw[Nat.blt_eq] at this;omega
  ·cases h
 ·cases h
noncomputable def Eu:List (FuncId×PT):=(7,To (fun _=>true) xW)::(8,B4 shP zh)::(21,agp)::(160,JE) ::
 (187,To zZ (oW zF))::(188,To zZ rA)::(205,To zZ (mb 9223372036854775808))::(146,To zZ (rz 9223372036854775808)) ::
 (133,To ndB (nt fun x=>some (Fits x,agA x)))::(147,To ndB (nt fun x=>some (Fits x,Cq x))) ::
 (39,To zZ (oW yL))::(96,To aqf (oW CH))::(68,To zZ Co)::(137,To zZ tZ)::(138,To zZ uW)::(78,To amx (oW xF))::afI
theorem uf:aU Tryz.prog (fun f=>aA f Eu) :=
 .cons (oC Qy fun vs p a _ h=>by unfold xW at h;split at h;(injection h with h;injection h with h1 h2;subst h1;trivial);cases h) (iO _ _)
 (.cons (adG Sn) (OR _ _) (.cons akO ab9 (.cons ab8 Tp
 (.cons (oC (QV Bw) fun vs p a hb h=>by
   unfold oW zF at h;unfold zZ at hb;split at h
   ·simp only[Option.map_some,Option.some.injEq,Prod.mk.injEq] at h;rw[← h.1];rw[Nat.blt_eq] at hb;omega
   ·cases h) (iO _ _)
 (.cons (oC Hu fun vs p a hb h=>by
   unfold rA at h;unfold zZ at hb;split at h
   ·injection h with h;injection h with h1 h2;subst h1;rw[Nat.blt_eq] at hb;omega
   ·cases h) (iO _ _)
 (.cons (oC (jo _) fun vs p a hb h=>by
   unfold mb at h;unfold zZ at hb;split at h
   ·injection h with h;injection h with h1 h2;subst h1;rw[Nat.blt_eq] at hb;exact⟨.inl (by omega),by omega⟩
   ·cases h) (iO _ _)
 (.cons (oC (vJ (jo _)) fun vs p a hb h=>by
   unfold rz at h;unfold zZ at hb;split at h
   ·injection h with h;injection h with h1 h2;subst h1;rw[Nat.blt_eq] at hb;exact⟨by omega,by omega⟩
   ·cases h) (iO _ _)
 (.cons (oC Bv aqc) (iO _ _) (.cons (oC MB aqc) (iO _ _)
 (.cons (oC (QV Rc) fun vs p a hb h=>by
   unfold oW yL at h;unfold zZ at hb;split at h
   ·simp only[Option.map_some,Option.some.injEq,Prod.mk.injEq] at h;rw[← h.1];rw[Nat.blt_eq] at hb;omega
   ·cases h) (iO _ _)
 (.cons (oC (QV W4) fun vs p a hb h=>by
   unfold oW CH at h;unfold aqf at hb;split at h
   ·simp only[Option.map_some,Option.some.injEq,Prod.mk.injEq] at h;rw[← h.1];simp only[Bool.and_eq_true,decide_eq_true_eq] at hb;omega
   ·cases h) (iO _ _)
 (.cons (oC Wc fun vs p a hb h=>by
   unfold Co at h;unfold zZ at hb;split at h
   ·injection h with h;injection h with h1 h2;subst h1;rw[Nat.blt_eq] at hb;omega
   ·cases h) (iO _ _)
 (.cons (oC Sk fun vs p a hb h=>by
   unfold tZ at h;unfold zZ at hb;split at h
   ·injection h with h;injection h with h1 h2;subst h1;rw[Nat.blt_eq] at hb;omega
   ·cases h) (iO _ _)
 (.cons (oC K5 fun vs p a hb h=>by
   unfold uW at h;unfold zZ at hb;split at h
   ·injection h with h;injection h with h1 h2;subst h1;rw[Nat.blt_eq] at hb;omega
   ·cases h) (iO _ _)
 (.cons (oC (QV PU) fun vs p a hb h=>by
   unfold oW xF at h;unfold amx at hb;split at h
   ·simp only[Option.map_some,Option.some.injEq,Prod.mk.injEq] at h;rw[← h.1];simp only[Bool.and_eq_true,decide_eq_true_eq] at hb;omega
   ·cases h) (iO _ _) abH)))))))))))))))
def zI:SV:=.int .i64 true 0
def zS:SV:=.str true []
def JF:SV:=.int .i64 true 1
noncomputable def ajL:bp :=
 {α:=Unit,pre:=fun _ _=>True,sM:=fun _ _=>0,fresh:=7,slots:=fun st _=>[(2,.ptr st.nx true 0),(3,.int .i64 true 0)],
  mem:=fun st _=>[(st.nx,.cells [(slot st.tmps 4).getD .cc,.ptr (st.nx+1) true 0,.ptr (st.nx+2) true 0,.ptr (st.nx+4) true 0,.ptr (st.nx+5) true 0,.map (st.nx+6),JF,zI,.aO] 9 216),
   (st.nx+1,.cells ([JF,JF]++List.flatten (List.replicate 4 [zI,zI,zI,zI,zI,zS,zI,zS,zI])++List.replicate 11 zI) 49 328),
   (st.nx+2,.cells [JF,.map (st.nx+3)] 2 331),(st.nx+3,.map [] 0),
   (st.nx+4,.cells [JF,.aO] 2 333),(st.nx+5,.cells [JF,.aO] 2 333),(st.nx+6,.map [] 0)]}
def Ff (st:St):List SV:=match slot st.tmps 12 with
 | some (.ptr k _ _)=>(match st.m.get k with
   | some (.cells cs _ _)=>cs
   | _=>[])
 | _=>[]
def alo (st:St):SV:=match(Ff st).getD 10 .aO with
 | .slc k _ _ _ _=>(match st.m.get k with
   | some (.cells (x::_) _ _)=>x
   | _=>zS)
 | _=>zS
def amL (st:St):Bool:=match(Ff st).getD 2 .aO with
 | .bool _ true=>true
 | _=>false
def akP (st:St):List SV:=match amL st with
 | true=>[.bool true false,.aO,.aO]++((Ff st).drop 3).take 7++[alo st]
 | false=>[.bool true false,.aO,.aO,zI,zI,zI,zI,zS,zS,zI,zS]
noncomputable def apH:bp :=
 {α:=Unit,pre:=fun _ _=>True,sM:=fun _ _=>0,fresh:=1,slots:=fun st _=>[(13,.ptr st.nx true 0),(14,.bool true (amL st))],
  mem:=fun st _=>[(st.nx,.cells (akP st) 11 123)]}
def apW (st:St)(i:Nat):Nat:=match slot st.tmps 0 with
 | some (.ptr g _ _)=>(match st.m.get g with
   | some (.cells cs _ _)=>(match cs.getD i .cc with
     | .map k=>k
     | .ptr k _ _=>k
     | _=>0)
   | _=>0)
 | _=>0
def B5:List SV:=[zI,zI,JF,.int .i64 true (-1),zS,zS,zI]
noncomputable def am7:bp :=
 {α:=Nat,pre:=fun _ c=>1<=c,sM:=fun _ _=>0,fresh:=2,slots:=fun _ _=>[],
  mem:=fun st c=>[(apW st 3,.cells [JF,.slc (st.nx+1) 0 0 true 0] 2 333),(st.nx+1,.cells [] 0 9),
   (apW st 5,.map [(0,zI,.slc st.nx 0 1 false c)] 1),(st.nx,.cells B5 (c*7) 66)]}
def apQ (st:St):Bool:=match slot st.tmps 3 with
 | some (.ptr k _ _)=>(match st.m.get k with
   | some (.cells (.int _ _ (.ofNat 3)::_) _ _)=>true
   | _=>false)
 | _=>false
noncomputable def apC (st:St):Option q9:=match apQ st with
 | true=>always am7 st
 | false=>none
noncomputable def apz (f:FuncId):qy:=if f=49 then [(1004,always ajL)] else if f=18 then [(1014,always apH)] else if f=51 then [(1006,apC)] else []
noncomputable def ami (l:List (FuncId×PT)):gF:=aeq Tryz.prog {cF with cM:=fun f=>(aA f l).map zC,aR:=apz,rounds:=1000} [209] [16,221] 60
theorem am1 {l:List (FuncId×PT)}(hl:aU Tryz.prog (fun f=>aA f l)):Sx.Good Tryz.prog (ami l):=aer (.of bO (fun f pt h=>by
 have e:(fun pt:PT=>zC pt)=fun pt=>pt:=funext Xd;have:(aA f l).map zC=aA f l:=by rw[show zC=fun pt=>pt from e];exact Option.map_id' ..
 exact hl f pt (this.symm.trans h)) bt) _ _ _
noncomputable def ajJ (l:List (FuncId×PT))(f:FuncId):PT:=match(ami l).cM f with
 | some pt=>pt
 | none=>fun _ _ _ _=>.fail "a function that is not known"
theorem Yj {l:List (FuncId×PT)}(hl:aU Tryz.prog (fun f=>aA f l))(f:FuncId):au Tryz.prog f (ajJ l f):=by
 unfold ajJ;split
 ·rename_i pt h;exact((am1 hl).cM f pt h).1
 ·exact fun _ _ _ _ h=>h.elim
noncomputable def alV (l:List (FuncId×PT))(f:FuncId)(args:List SV)(a:b7):VC:=ajJ l f args [] 0 fun v m _=>a.fit v m
theorem JG {l:List (FuncId×PT)}(hl:aU Tryz.prog (fun f=>aA f l)){f:FuncId}{args:List SV}{a:b7}(h1:SV.gM 0 args=true)(h2:a.Ok)(h:aq (alV l f args a)):au Tryz.prog f (CI args a):=aoz (Yj hl f) h1 h2 h
def Ym:SV:=.agg B5
def ajV:List UInt8:=[200,128,128,128,1,128,128,128,128]
def amM:List UInt8:=[118,190,139,82,141,0,117,247,170,233,141,111,165,122,109,60,131,174,72,10,132,105,230,104,215,176,175,150,137,149,172,113]
def BI:List UInt8:=[233,1,1,1,128,128,160]++amM++[192,128,128]
def UI (l:SV):SV:=.agg [JF,JF,zI,zI,.str true amM,l,zS,.bool true false]
def Ze:b7:=.ret (.bL [.str true ajV,zI])
def YP:b7:=.ret (.bL [Ym,zI])
def Zf:b7:=.ret (.bL [.str true BI,zI])
noncomputable def PG:b7:=.new (fun k=>.bL [UI (.slc k 0 0 true 0),zI]) (.cells [] 0 38)
noncomputable def aqQ:VC:=alV Eu 162 [Ym] Ze
noncomputable def aqR:VC:=alV Eu 228 [.str true ajV] YP
noncomputable def aqS:VC:=alV Eu 125 [UI .aO] Zf
noncomputable def aqT:VC:=alV Eu 55 [.str true BI] PG
end Go.Proofs.YtpaaiebohjjieaaGreatDoor
