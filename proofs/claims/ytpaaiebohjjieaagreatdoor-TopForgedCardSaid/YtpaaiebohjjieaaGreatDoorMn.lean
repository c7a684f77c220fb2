/-
  Node: which nodes may be, the node that bytes are: the contracts.
-/
import Derived.Test.YtpaaiebohjjieaaGreatDoorMm
import Derived.Test.YtpaaiebohjjieaaGreatDoorMi
import Derived.Test.YtpaaiebohjjieaaGreatDoorMj
import Derived.Test.YtpaaiebohjjieaaGreatDoorMk
namespace Go.Proofs.YtpaaiebohjjieaaGreatDoor
open Go Sx
set_option maxRecDepth 20000
theorem Ni {f:FuncId}{fn:Func}(hf:Tryz.prog.funcs[f]?=some fn) (hn:(fn.name== "runtime.NumGoroutine")=false) (hb:fn.body.isSome=true) {g:Nd->Option (Prop×SV)}
  (H: ∀ x p v,g x=some (p,v)->p->∃ cfg args',Sx.Good Tryz.prog cfg/\(∀ E,SV.vals E args'=SV.vals E [x.sv])/\SV.gM 0 args'=true/\v.wf 0=true/\aq (fS cfg f fn args' (fun u=>ah u v))):au Tryz.prog f (aT (gI g)):=by
 refine gz (Yl (n:=20) hf hn hb ?_);intro args p a h hp;obtain⟨⟨p0,v0⟩,hq,hpa⟩:=Option.map_eq_some_iff.1 h;obtain⟨x,hx,hg⟩:=qW hq;subst hx;injection hpa with h1 h2;subst h1;subst h2;obtain⟨cfg,args',c1,c2,c3,c4,c5⟩:=H x _ _ hg hp;exact⟨cfg,args',c1,c2,c3,c4,c5⟩
theorem Nd.th.kind {x:Nd}(h:x.th)(k:Int):Nd.th {k:=k,p:=x.p,v:=x.v,r:=fun(i:Nat)=>[x.r 0,x.r 1,x.r 2,x.r 3,x.r 4,x.r 5,x.r 6,x.r 7,x.r 8,x.r 9,x.r 10,x.r 11,x.r 12,x.r 13,x.r 14,x.r 15].getD i []} :=⟨h.p,h.v,fun j hj=>by show([x.r 0,x.r 1,x.r 2,x.r 3,x.r 4,x.r 5,x.r 6,x.r 7,x.r 8,x.r 9,x.r 10,x.r 11,x.r 12,x.r 13,x.r 14,x.r 15].getD j []).length<=1000;rw[gT x.r j hj];exact h.r j hj⟩
theorem p5 (x:Nd){k:Int}(h:x.k=k)(E:Nat->Nat):SV.vals E [x.Fh true k]=SV.vals E [x.sv]:=by subst h;rfl
theorem aft {k:Int}(h:0<=k/\k<=3):k=0∨k=1∨k=2∨k=3:=by omega
theorem ab3:au Tryz.prog 190 (aT (gI fun x=>some ((0<=x.k/\x.k<=3)/\x.th,.str false (dQ x)))):=by
 refine Ni Tryz.func190 (by kernel_rfl) (by kernel_rfl) fun x p v h hp=> ?_;injection h with h;injection h with h1 h2;subst h1;subst h2;obtain⟨hk,hf⟩:=hp;rcases aft hk with e | e | e | e
 ·exact⟨Cb,[x.Fh true 0],PM,p5 x e,rfl,rfl,(by refine aq.j7 (alY x _) (by delta ax;exact rfl) ?_;exact⟨trivial,fun E=>by rw[dQ,if_pos e]⟩)⟩
 ·exact⟨Cb,[x.Fh true 1],PM,p5 x e,rfl,rfl,(by refine aq.j7 (alZ x _) (by delta ax fU CV c9 oa pT;exact rfl) ?_;exact⟨hf.kind 1,fun E=>by rw[dQ,if_neg (by omega),if_pos e];rfl⟩)⟩
 ·exact⟨Cb,[x.Fh true 2],PM,p5 x e,rfl,rfl,(by refine aq.j7 (al0 x _) (by delta ax fU CV c9 oa pT;exact rfl) ?_;exact⟨hf.kind 2,fun E=>by rw[dQ,if_neg (by omega),if_neg (by omega),if_pos e];rfl⟩)⟩
 ·exact⟨Cb,[x.Fh true 3],PM,p5 x e,rfl,rfl,(by refine aq.j7 (al5 x _) (by delta ax fU CV c9 oa pT;exact rfl) ?_;exact⟨hf.kind 3,fun E=>by rw[dQ,if_neg (by omega),if_neg (by omega),if_neg (by omega)];rfl⟩)⟩
section
variable {L : Nat} (hI : au Tryz.prog 205 (bW (mb L)))
include hI
theorem MT:aU Tryz.prog (fun f=>aA f (WE L)):=.cons hI (bX _) qV
theorem anK:Sx.Good Tryz.prog (ad3 L):=.of bO (MT hI) bt
theorem anx (x:Nd):Sx.Good Tryz.prog (adV L x):=.of bO (MT hI) bt
theorem anq:au Tryz.prog 242 (aT (gI fun x=>some (Rel L (x.r 0),.bool false (tj cG x)))):=by
 refine Ni Tryz.func242 (by kernel_rfl) (by kernel_rfl) fun x p v h hp=> ?_;injection h with h;injection h with h1 h2;subst h1;subst h2;refine⟨ad3 L,[x.sv],anK hI,fun E=>rfl,rfl,rfl,aq.j7 (aqt L x _) (by delta Bk jV fI fK eX cr aS dj bn dX mz cH fU CV c9 oa pT uG sR;exact rfl) ?_⟩;have e:lJ {k:=x.k,p:=x.p,v:=x.v,r:=fun(i:Nat)=>[x.r 0,x.r 1,x.r 2,x.r 3,x.r 4,x.r 5,x.r 6,x.r 7,x.r 8,x.r 9,x.r 10,x.r 11,x.r 12,x.r 13,x.r 14,x.r 15].getD i []:Nd} 1=lJ x 1:=rfl;rw[e,iu (gT x.r)];unfold tj;have nn: ∀ {b:Bool},(!b)=true->b=false:=fun h=>by simpa using h
 have nf: ∀ {b:Bool},(!b)=false->b=true:=fun h=>by simpa using h
 refine⟨trivial,fun a=>cX ?_,fun a=>⟨fun b=>cX ?_,fun b=>⟨trivial,fun c=>cX ?_,fun c=>⟨hp.2,fun d=>cX ?_,fun d=>⟨hp,fun f=>cX ?_,fun f=>cX ?_⟩⟩⟩⟩⟩
 ·rw[nn a];rfl
 ·rw[nf a,nn b];rfl
 ·rw[nf a,nf b,nn c];rfl
 ·rw[nf a,nf b,nf c,d];rfl
 ·rw[nf a,nf b,nf c,d,f];rfl
 ·rw[nf a,nf b,nf c,d,f];rfl
theorem aaX:au Tryz.prog 243 (aT (gI fun x=>some (wW L x.r,.bool false (fe cG x)))):=by
 refine Ni Tryz.func243 (by kernel_rfl) (by kernel_rfl) fun x p v h hp=> ?_;injection h with h;injection h with h1 h2;subst h1;subst h2;have hp:wW L x.r:=hp;refine⟨adV L x,[x.sv],anx hI x,fun E=>rfl,rfl,rfl,aq.j7 (aiR L x _) (by delta Fk Bk I6 Sr Er NI jV fI bf aF bC bh ak cR aL bH fK ax cr aS dj bn dX wO oG c8 bT dZ cg gU fh jb jh fN cZ fA cH iH fU CV lF aD EX JQ wP F5 nM lO gj NS je Ar Gv F1 TP ahh;exact rfl) ?_⟩;have nn: ∀ {b:Bool},(!b)=true->b=false:=fun h=>by simpa using h
 have nf: ∀ {b:Bool},(!b)=false->b=true:=fun h=>by simpa using h
 refine⟨fun a=>cX ?_,fun a=>⟨fun b=>cX ?_,fun b R=>⟨⟨0,⟨by omega,rfl⟩,rfl,HZ (by simp[gy]),af.refl _,af.refl _,af.refl _,af.refl _,trivial⟩,fun i hi=>⟨fun c=> ?_,fun c=> ?_⟩⟩⟩⟩
 ·unfold fe;rw[nn a];rfl
 ·have b:=of_decide_eq_true b;unfold fe;rw[nf a,decide_eq_false (show ¬ (x.v.length:Int)<=80 by omega)];rfl
 ·have c:=of_decide_eq_true c;have ei:i<16:=by omega
  rw[Int.toNat_natCast,GK x.r ei];have hr:=hp i ei;have hfn:0<=gy x.r i/\gy x.r i<=i:=by
   have: ∀ n,0<=gy x.r n/\gy x.r n<=n:=by
    intro n;induction n with
    | zero=>exact⟨Int.le_refl _,Int.le_refl _⟩
    | succ n ih=>unfold gy;split<;>omega
   exact this i
  refine⟨by omega,fun d=> ?_,fun d=> ?_⟩
  ·have d: ¬ x.r i=[]:=of_decide_eq_false (nn d);have step:gy x.r (i+1)=gy x.r i+1:=by rw[gy,if_neg d]
   refine⟨rfl,hr.2,fun f=>⟨by omega,by omega,i+1,⟨⟨by omega,?_⟩,by omega⟩,by omega,HZ (by omega),af.refl _,af.refl _,af.refl _,af.refl _,trivial⟩,fun f=>⟨hr,fun g=>⟨by omega,by omega,i+1,⟨⟨by omega,?_⟩,by omega⟩,by omega,HZ (by omega),af.refl _,af.refl _,af.refl _,af.refl _,trivial⟩,fun g=>cX ?_⟩⟩
   ·simp only[qJ,hi.2,mu,f,Bool.true_or,Bool.or_true,Bool.and_true]
   ·simp only[qJ,hi.2,mu,g,Bool.or_true,Bool.and_true]
   ·have hm:qJ cG x.r 16=false:=S1 ei d (by rw[mu,f,g];rfl);unfold fe;rw[hm];simp
  ·have d:x.r i=[]:=of_decide_eq_true (nf d);have step:gy x.r (i+1)=gy x.r i:=by rw[gy,if_pos d]
   refine⟨by omega,i+1,⟨⟨by omega,?_⟩,by omega⟩,by omega,HZ (by omega),af.refl _,af.refl _,af.refl _,af.refl _,trivial⟩;simp only[qJ,hi.2,d,decide_true,Bool.true_or,Bool.and_true]
 ·have c:=of_decide_eq_false c;have hi1:=hi.1;have e:i=16:=by omega
  subst e;have b:=of_decide_eq_false b;refine cX ?_;unfold fe;rw[nf a,hi.2,decide_eq_true (show(x.v.length:Int)<=80 by omega)];rfl
theorem abJ:aU Tryz.prog (fun f=>aA f (afK L)):=.cons (anq hI) (aN _) (.cons (aaX hI) (aN _) qV)
theorem IG:Sx.Good Tryz.prog (xm L):=.of bO (abJ hI) bt
theorem Jt:au Tryz.prog 189 (aT (gI fun x=>some (wW L x.r,.bool false (bB x)))):=by
 refine Ni Tryz.func189 (by kernel_rfl) (by kernel_rfl) fun x p v h hp=> ?_;injection h with h;injection h with h1 h2;subst h1;subst h2;have hp:wW L x.r:=hp;by_cases hk:0<=x.k/\x.k<=3
 ·have hm:wW L (fun(i:Nat)=>[x.r 0,x.r 1,x.r 2,x.r 3,x.r 4,x.r 5,x.r 6,x.r 7,x.r 8,x.r 9,x.r 10,x.r 11,x.r 12,x.r 13,x.r 14,x.r 15].getD i []):=fun j hj=>by show Rel L ([x.r 0,x.r 1,x.r 2,x.r 3,x.r 4,x.r 5,x.r 6,x.r 7,x.r 8,x.r 9,x.r 10,x.r 11,x.r 12,x.r 13,x.r 14,x.r 15].getD j []);rw[gT x.r j hj];exact hp j hj
  rcases aft hk with e | e | e | e
  ·refine⟨xm L,[x.Fh true 0],IG hI,p5 x e,rfl,rfl,aq.of_eq (ajc L x _) ⟨trivial,cX ?_⟩⟩;rw[bB,mB,if_pos e];unfold wA;rw[e];congr 3
  ·refine⟨xm L,[x.Fh true 1],IG hI,p5 x e,rfl,rfl,aq.of_eq (ajd L x _) ⟨trivial,cX ?_⟩⟩;rw[bB,mB,if_neg (by omega),if_pos e];unfold pn;rw[iu (gT x.r)];rfl
  ·refine⟨xm L,[x.Fh true 2],IG hI,p5 x e,rfl,rfl,aq.of_eq (aje L x _) ⟨hp 0 (by decide),cX ?_⟩⟩;rw[bB,mB,if_neg (by omega),if_neg (by omega),if_pos e];unfold tj;rw[iu (gT x.r)];rfl
  ·refine⟨xm L,[x.Fh true 3],IG hI,p5 x e,rfl,rfl,aq.of_eq (ajf L x _) ⟨hm,cX ?_⟩⟩;rw[bB,mB,if_neg (by omega),if_neg (by omega),if_neg (by omega),if_pos e];unfold fe;have e1: ∀ n,n<=16->qJ cG (fun(i:Nat)=>[x.r 0,x.r 1,x.r 2,x.r 3,x.r 4,x.r 5,x.r 6,x.r 7,x.r 8,x.r 9,x.r 10,x.r 11,x.r 12,x.r 13,x.r 14,x.r 15].getD i []) n=qJ cG x.r n/\gy (fun(i:Nat)=>[x.r 0,x.r 1,x.r 2,x.r 3,x.r 4,x.r 5,x.r 6,x.r 7,x.r 8,x.r 9,x.r 10,x.r 11,x.r 12,x.r 13,x.r 14,x.r 15].getD i []) n=gy x.r n:=by
    intro n;induction n with
    | zero=>intro _;exact⟨rfl,rfl⟩
    | succ n ih =>intro hn;obtain⟨i1,i2⟩:=ih (by omega);have g:=gT x.r n (by omega);simp only[qJ,gy,i1,i2,g,and_self]
   obtain⟨i1,i2⟩:=e1 16 (by omega);rw[i1,i2]
 ·refine⟨xm L,[x.sv],IG hI,fun E=>rfl,rfl,rfl,aq.j7 (ajg L x _) (by delta Fk Ix bf fK;exact rfl) ?_⟩;have hv:bB x=false:=by rw[bB,mB,if_neg (by omega),if_neg (by omega),if_neg (by omega),if_neg (by omega)]
  rw[hv];exact⟨fun _ _=>rfl,fun a=>⟨fun _ _=>rfl,fun b=>absurd ⟨by have:=of_decide_eq_false a;omega,by have:=of_decide_eq_false b;omega⟩ hk⟩⟩
theorem MU:aU Tryz.prog (fun f=>aA f (WG L)):=.cons (Jt hI) (aN _) (.cons ab3 (aN _) qV)
theorem anL:Sx.Good Tryz.prog (ad4 L):=.of bO (MU hI) bt
end
end Go.Proofs.YtpaaiebohjjieaaGreatDoor
namespace Go.Proofs.YtpaaiebohjjieaaGreatDoor
open Go Sx
set_option maxRecDepth 20000
theorem acE: ¬ 0<=aY []:=by decide
theorem Hs {L:Nat}{s:List UInt8}{X:Nd}(hX:getD s=X)(hk:0<=aY s)(hr:wW L X.r){V N:SV}(hV:ah V (.bL [X.sv,.int .i64 true 0]))(hN:ah N (.bL [jB,.int .i64 true 2])) :
  wW L X.r/\((!bB X)=true->(ey s=true->ah N (.bL [(getD s).sv,.int .i64 true 0]))/\(ey s=false->ah N (.bL [jB,.int .i64 true 2]))) /\
   ((!bB X)=false->((0<=X.k/\X.k<=3)/\X.th)/\((!decide (dQ X=s))=true->(ey s=true->ah N (.bL [(getD s).sv,.int .i64 true 0]))/\(ey s=false->ah N (.bL [jB,.int .i64 true 2]))) /\
    ((!decide (dQ X=s))=false->(ey s=true->ah V (.bL [(getD s).sv,.int .i64 true 0]))/\(ey s=false->ah V (.bL [jB,.int .i64 true 2])))):=by
 have hB:ey s=(bB X&&decide (dQ X=s)):=by unfold ey Lw;rw[hX,decide_eq_true hk];rfl
 refine⟨hr,fun a=> ?_,fun a=> ?_⟩
 ·have a:bB X=false:=by simpa using a
  rw[hB,a];exact⟨(fun h=>by cases h),fun _=>hN⟩
 ·have a:bB X=true:=by simpa using a
  have hs:=p7 a;refine⟨⟨hs.k,hs.few⟩,fun b=> ?_,fun b=> ?_⟩
  ·have b:decide (dQ X=s)=false:=by simpa using b
   rw[hB,a,b];exact⟨(fun h=>by cases h),fun _=>hN⟩
  ·have b:decide (dQ X=s)=true:=by simpa using b
   rw[hB,a,b,hX];exact⟨fun _=>hV,fun h=>by cases h⟩
attribute [local irreducible] aj aa gP cA aC dB
theorem ap6:({k:=0,p:=[],v:=[],r:=fun(i:Nat)=>[[],[],[],[],[],[],[],[],[],[],[],[],[],[],[],[]].getD i []}:Nd)=gV:=rfl
theorem aoh:(fun(i:Nat)=>[[],[],[],[],[],[],[],[],[],[],[],[],[],[],[],[]].getD i [])=(gV).r:=rfl
theorem ap7 (s:List UInt8):({k:=1,p:=gP (aa (aj (aa s) 0)),v:=aa (aj (aa s) 1),r:=fun(i:Nat)=>[bg 0,bg 1,bg 2,bg 3,bg 4,bg 5,bg 6,bg 7,bg 8,bg 9,bg 10,bg 11,bg 12,bg 13,bg 14,bg 15].getD i []}:Nd)=tA s:=rfl
theorem aoi (s:List UInt8):(fun(i:Nat)=>[bg 0,bg 1,bg 2,bg 3,bg 4,bg 5,bg 6,bg 7,bg 8,bg 9,bg 10,bg 11,bg 12,bg 13,bg 14,bg 15].getD i [])=(tA s).r:=rfl
theorem ap8 (s:List UInt8):({k:=2,p:=gP (aa (aj (aa s) 0)),v:=[],r:=fun(i:Nat)=>[bM (aj (aa s) 1) 0,bM (aj (aa s) 1) 1,bM (aj (aa s) 1) 2,bM (aj (aa s) 1) 3,bM (aj (aa s) 1) 4,bM (aj (aa s) 1) 5,bM (aj (aa s) 1) 6,bM (aj (aa s) 1) 7,bM (aj (aa s) 1) 8,bM (aj (aa s) 1) 9,bM (aj (aa s) 1) 10,bM (aj (aa s) 1) 11,bM (aj (aa s) 1) 12,bM (aj (aa s) 1) 13,bM (aj (aa s) 1) 14,bM (aj (aa s) 1) 15].getD i []}:Nd)=AN s:=rfl
theorem aoj (s:List UInt8):(fun(i:Nat)=>[bM (aj (aa s) 1) 0,bM (aj (aa s) 1) 1,bM (aj (aa s) 1) 2,bM (aj (aa s) 1) 3,bM (aj (aa s) 1) 4,bM (aj (aa s) 1) 5,bM (aj (aa s) 1) 6,bM (aj (aa s) 1) 7,bM (aj (aa s) 1) 8,bM (aj (aa s) 1) 9,bM (aj (aa s) 1) 10,bM (aj (aa s) 1) 11,bM (aj (aa s) 1) 12,bM (aj (aa s) 1) 13,bM (aj (aa s) 1) 14,bM (aj (aa s) 1) 15].getD i [])=(AN s).r:=rfl
theorem lit_3 (s:List UInt8):({k:=3,p:=[],v:=aa (aj (aa s) 16),r:=fun(i:Nat)=>[fu (dB (aa s)) 0,fu (dB (aa s)) 1,fu (dB (aa s)) 2,fu (dB (aa s)) 3,fu (dB (aa s)) 4,fu (dB (aa s)) 5,fu (dB (aa s)) 6,fu (dB (aa s)) 7,fu (dB (aa s)) 8,fu (dB (aa s)) 9,fu (dB (aa s)) 10,fu (dB (aa s)) 11,fu (dB (aa s)) 12,fu (dB (aa s)) 13,fu (dB (aa s)) 14,fu (dB (aa s)) 15].getD i []}:Nd)=lW s:=rfl
theorem aok (s:List UInt8):(fun(i:Nat)=>[fu (dB (aa s)) 0,fu (dB (aa s)) 1,fu (dB (aa s)) 2,fu (dB (aa s)) 3,fu (dB (aa s)) 4,fu (dB (aa s)) 5,fu (dB (aa s)) 6,fu (dB (aa s)) 7,fu (dB (aa s)) 8,fu (dB (aa s)) 9,fu (dB (aa s)) 10,fu (dB (aa s)) 11,fu (dB (aa s)) 12,fu (dB (aa s)) 13,fu (dB (aa s)) 14,fu (dB (aa s)) 15].getD i [])=(lW s).r:=rfl
theorem aio (s:List UInt8):aY s<=3:=by
 have hp:uu (aa s)<=3:=by unfold uu;cases (fy (aj (aa s) 0)&&nu (aa (aj (aa s) 0)))<;>cases fH (aa (aj (aa s) 0))<;>cases fy (aj (aa s) 1)<;>decide
 have hl:wz (aa s)<=3:=by
  unfold wz;cases dU (aa s)with
  | false=>show(-1:Int)<=3;decide
  | true =>
    simp only[cond_true];split
    ·exact hp
    ·split
     ·cases fy (aj (aa s) 16)<;>decide
     ·decide
 unfold aY;split
 ·decide
 ·cases (cA s&&(dD s&&decide (aC s=[])))with
  | false=>show(-1:Int)<=3;decide
  | true=>exact hl
theorem ae3 {s:List UInt8}(hk: ¬ 0<=aY s):ey s=false:=by unfold ey Lw;rw[decide_eq_false hk];rfl
theorem QU {L:Nat}{s:List UInt8}(hs:s.length<=L/\s.length<1099511627776)(hk:0<=aY s):wW L (getD s).r:=by
 intro j _;by_cases e:(getD s).r j=[]
 ·rw[e];have hp:0<s.length:=by
   cases s with
   | nil=>exact absurd hk acE
   | cons a r=>simp
  exact⟨.inl (by simp;omega),by simp⟩
 ·have:=QO hk j e;exact⟨.inl (by omega),by omega⟩
section
variable {L : Nat} (hI : au Tryz.prog 205 (bW (mb L)))
include hI
theorem vJ:au Tryz.prog 146 (bW (rz L)):=by
 refine fE (n:=20) (fn:=Tryz.f146) Tryz.func146 (by kernel_rfl) (by kernel_rfl) ?_;intro args p a h hp;unfold rz at h;split at h
 ·rename_i s;injection h with h;injection h with h1 h2;subst h1;subst h2;refine⟨ad4 L,anL hI,rfl,fun b=>by cases b<;>exact rfl,aq.j7 (ac6 L s) (by delta Fk Bk cn aF bx k6 cY gi cS jx ax vT dY gk jg bn cQ fV dS cH gA fU aD EX gj c9 ja zY uz dA uA Gb lQ eV NH qz0 qz2 pP ahx og ahz wK yp;exact rfl) ?_⟩
  have hp:s.length<=L/\s.length<1099511627776:=hp;have hN:ah (SV.bL [jB,.int .i64 true 2]) (.bL [jB,.int .i64 true 2]):=fun _=>rfl;refine⟨hp.2,fun a=> ?_,fun a=>⟨fun b=> ?_,fun b=>⟨fun c=> ?_,fun c=>⟨fun d=> ?_,fun d=> ?_⟩⟩⟩⟩
  ·have a:aY s=0:=of_decide_eq_true a;have hX:getD s=gV:=by unfold getD;rw[if_neg (by omega),if_neg (by omega),if_neg (by omega)]
   have hr:=QU hp (by omega:0<=aY s);rw[hX] at hr;rw[ap6,aoh];exact Hs (L:=L) (X:=gV) hX (by omega) hr (V:=.bL [jB,.int .i64 true 0]) (fun _=>rfl) hN
  ·have b:aY s=1:=of_decide_eq_true b;have hX:getD s=tA s:=by unfold getD;rw[if_pos b]
   have hr:=QU hp (by omega:0<=aY s);rw[hX] at hr;rw[ap7 s,aoi s];exact Hs (L:=L) (X:=tA s) hX (by omega) hr (V:=.bL [(tA s).Fh true 1,.int .i64 true 0]) (fun _=>rfl) hN
  ·have c:aY s=2:=of_decide_eq_true c;have hX:getD s=AN s:=by unfold getD;rw[if_neg (by omega),if_pos c]
   have hr:=QU hp (by omega:0<=aY s);rw[hX] at hr;rw[ap8 s,aoj s];exact Hs (L:=L) (X:=AN s) hX (by omega) hr (V:=.bL [(AN s).Fh true 2,.int .i64 true 0]) (fun _=>rfl) hN
  ·have d:aY s=3:=of_decide_eq_true d;have hX:getD s=lW s:=by unfold getD;rw[if_neg (by omega),if_neg (by omega),if_pos d]
   have hr:=QU hp (by omega:0<=aY s);rw[hX] at hr;rw[lit_3 s,aok s];exact Hs (L:=L) (X:=lW s) hX (by omega) hr (V:=.bL [(lW s).Fh true 3,.int .i64 true 0]) (fun _=>rfl) hN
  ·have a:=of_decide_eq_false a;have b:=of_decide_eq_false b;have c:=of_decide_eq_false c;have d:=of_decide_eq_false d;have hk: ¬ 0<=aY s:=fun h0=>by have:=aio s;omega
   exact fun x=>⟨(fun h=>by rw[ae3 hk] at h;cases h),fun _=>hN⟩
 ·cases h
theorem abq:au Tryz.prog 205 (bW (mb (L+1))):=by
 refine fE (n:=20) (fn:=Tryz.f205) Tryz.func205 (by kernel_rfl) (by kernel_rfl) ?_;intro args p a h hp;unfold mb at h;split at h
 ·rename_i t;injection h with h;injection h with h1 h2;subst h1;subst h2;refine⟨amk L,.of bO (aU.cons (vJ hI) (bX _) qV) bt,rfl,fun b=>by cases b<;>exact rfl,aq.j7 (aiW L t) (by delta Fk Bk NI cn aF bC bx bh bP cY gi cS fK ax aS dY mz i9 pL dS lu aD EX gj je ja zY lQ ahs N5;exact rfl) ?_⟩
  have hp:Rel (L+1) t:=hp;have hN:ah (SV.bL [jB,.bool true false]) (.bL [jB,.bool true false]):=fun _=>rfl;refine⟨fun a=>⟨fun b=> ?_,fun _=>hN⟩,fun a=>⟨?_,fun b=>⟨fun c=>⟨fun d=> ?_,fun _=>hN⟩,fun c=>⟨fun d=>fun _=>rfl,fun d=> ?_⟩⟩,fun b=>⟨fun d=> ?_,fun _=>hN⟩⟩⟩
  ·have a:=of_decide_eq_true a;have:=vz b;omega
  ·have a:=of_decide_eq_false a;rcases hp.1 with h | h<;>omega
  ·rw[Eh,c] at d;simp at d
  ·have a:=of_decide_eq_false a;rw[Eh,b,c,decide_eq_true (show t.length<32 by omega)] at d;simp at d
  ·rw[Eh,b] at d;simp at d
 ·cases h
end
theorem afi:au Tryz.prog 205 (bW (mb 0)):=by
 refine fE (n:=20) (fn:=Tryz.f205) Tryz.func205 (by kernel_rfl) (by kernel_rfl) ?_;intro args p a h hp;unfold mb at h;split at h
 ·rename_i t;injection h with h;injection h with h1 h2;subst h1;subst h2;have hp:Rel 0 t:=hp;have h32:32<=t.length:=by rcases hp.1 with h | h;exact absurd h (Nat.not_lt_zero _);exact h
  refine⟨ad9,anQ,rfl,fun b=>by cases b<;>exact rfl,aq.j7 (ac5 t) (by delta Fk Bk NI cn aF bx bh bP cY fK dY mz i9 pL lu aD gj ja zY lQ N5;exact rfl) ?_⟩
  have hN:ah (SV.bL [jB,.bool true false]) (.bL [jB,.bool true false]):=fun _=>rfl;refine⟨fun a=>⟨fun b=> ?_,fun _=>hN⟩,fun a=> ?_⟩
  ·have:=vz b;omega
  ·have a:=of_decide_eq_false a;omega
 ·cases h
theorem jo: ∀ L,au Tryz.prog 205 (bW (mb L))
 | 0=>afi
 | L+1=>abq (jo L)
end Go.Proofs.YtpaaiebohjjieaaGreatDoor
namespace Go.Proofs.YtpaaiebohjjieaaGreatDoor
open Go Sx
set_option maxRecDepth 20000
theorem aaF (z:Nat)(n:Int):eP (fun(j:Nat)=>if j=0+(1+(z:Int)+7).toNat then n / 1% 256 else if j=0+(1+(z:Int)+6).toNat then n / 256% 256 else if j=0+(1+(z:Int)+5).toNat then n / 65536% 256 else if j=0+(1+(z:Int)+4).toNat then n / 16777216% 256 else if j=0+(1+(z:Int)+3).toNat then n / 4294967296% 256 else if j=0+(1+(z:Int)+2).toNat then n / 1099511627776% 256 else if j=0+(1+(z:Int)+1).toNat then n / 281474976710656% 256 else if j=0+(1+(z:Int)+0).toNat then n / 72057594037927936% 256 else if j=0 then 128 else 0) 0 (1+(z:Int)+8).toNat
  = 128::(List.replicate z 0++UZ n):=by
 rw[show(1+(z:Int)+8).toNat=z+9 by omega,show 0+(1+(z:Int)+7).toNat=z+8 by omega,show 0+(1+(z:Int)+6).toNat=z+7 by omega,show 0+(1+(z:Int)+5).toNat=z+6 by omega,
  show 0+(1+(z:Int)+4).toNat=z+5 by omega,show 0+(1+(z:Int)+3).toNat=z+4 by omega,show 0+(1+(z:Int)+2).toNat=z+3 by omega,show 0+(1+(z:Int)+1).toNat=z+2 by omega,show 0+(1+(z:Int)+0).toNat=z+1 by omega]
 apply List.ext_getElem?;intro i;unfold eP;rw[List.getElem?_map];by_cases hi:i<z+9
 ·rw[List.getElem?_range hi];simp only[Option.map_some,Nat.zero_add];cases i with
  | zero =>rw[if_neg (by omega),if_neg (by omega),if_neg (by omega),if_neg (by omega),if_neg (by omega),if_neg (by omega),if_neg (by omega),if_neg (by omega),if_pos rfl];rfl
  | succ i =>
    rw[List.getElem?_cons_succ];by_cases hz:i<z
    ·rw[List.getElem?_append_left (by simpa using hz),List.getElem?_replicate,if_pos hz,if_neg (by omega),if_neg (by omega),if_neg (by omega),if_neg (by omega),if_neg (by omega),if_neg (by omega),if_neg (by omega),if_neg (by omega),if_neg (by omega)];rfl
    ·rw[List.getElem?_append_right (by simp;omega),List.length_replicate];obtain⟨k,rfl⟩: ∃ k,i=z+k:=⟨i - z,by omega⟩
     rw[Nat.add_sub_cancel_left];have hk:k=0∨k=1∨k=2∨k=3∨k=4∨k=5∨k=6∨k=7:=by omega
     rcases hk with rfl | rfl | rfl | rfl | rfl | rfl | rfl | rfl
     ·rw[if_neg (by omega),if_neg (by omega),if_neg (by omega),if_neg (by omega),if_neg (by omega),if_neg (by omega),if_neg (by omega),if_pos (by omega)];rfl
     ·rw[if_neg (by omega),if_neg (by omega),if_neg (by omega),if_neg (by omega),if_neg (by omega),if_neg (by omega),if_pos (by omega)];rfl
     ·rw[if_neg (by omega),if_neg (by omega),if_neg (by omega),if_neg (by omega),if_neg (by omega),if_pos (by omega)];rfl
     ·rw[if_neg (by omega),if_neg (by omega),if_neg (by omega),if_neg (by omega),if_pos (by omega)];rfl
     ·rw[if_neg (by omega),if_neg (by omega),if_neg (by omega),if_pos (by omega)];rfl
     ·rw[if_neg (by omega),if_neg (by omega),if_pos (by omega)];rfl
     ·rw[if_neg (by omega),if_pos (by omega)];rfl
     ·rw[if_pos (by omega)];rfl
 ·rw[List.getElem?_eq_none (by simpa using hi),List.getElem?_eq_none (by simp[UZ];omega)];rfl
theorem acS (T:List UInt8):(aaE T).length<100:=by simp only[aaE,UZ,List.length_cons,List.length_append,List.length_replicate,List.length_nil,Ft];omega
theorem acP {x:Sh}{T:List UInt8}(hx:Rn x T)(_hT:T.length<1152921504606846976) :
  aq (yC Yu 61 Tryz.f61 [.ptr 0 true 0] G9 (x,T) (fun _:Unit=>(True,.str false (cT T),(x,T)))):=by
 refine aq.j7 (aqy x T) (by delta I6 Ix Sr Er NI jc eS iF nK jV fI Df uO aF bC ak aI aL eI ax rT rV k8 ij cI bl sV fM aD fL wU ahe agL agM ag0 J4 QL jv pQ AM AH ag6 uD AE mV;exact rfl) ?_;dsimp only;have hh:=hx.1.h;have hz:(119 - x.held)% 64=(Ft T:Int):=by rw[hh];unfold Ft;omega
 have hl:Ft T<64:=Nat.mod_lt _ (by decide);have hb:x.held<64/\0<=x.held:=by omega
 have hs:=hx.2;have ht:aaE T=128::(List.replicate (Ft T) 0++UZ (x.size*8% 18446744073709551616)):=by rw[hs];rfl
 rw[hz];refine⟨by omega,by omega,by omega,by omega,by omega,by omega,by omega,by omega,by omega,by omega,by omega,by omega,by omega,by omega,by omega,by omega,by omega,by omega,by omega,by omega,by omega,by omega,by omega,by omega,by omega,by omega,by omega,by omega,by omega,by omega,by omega,by omega,by omega,by omega,by omega,by omega,by omega,by omega,by omega,by omega,(x,T),af.refl _,⟨hx,?_⟩,fun y hy=>⟨(),trivial,af.refl _,?_⟩⟩
 ·rw[aaF,← ht];have:=acS T;omega
 ·rw[aaF,← ht] at hy;have hy:Rn y (aoA T):=hy;have w:=hy.1.w;refine kP ?_;unfold cT aqg;rw[← w 0 (by decide),← w 1 (by decide),← w 2 (by decide),← w 3 (by decide),← w 4 (by decide),← w 5 (by decide),← w 6 (by decide),← w 7 (by decide)]
theorem ao1:au Tryz.prog 61 (wu G9 Ra):=by
 refine OX (n:=20) (fn:=Tryz.f61) Tryz.func61 (by kernel_rfl) (by kernel_rfl) aaz ?_;intro args g x h hp;unfold Ra at h;split at h
 ·injection h with h;subst h;obtain⟨x,T⟩:=x;exact⟨Yu,[.ptr 0 true 0],anZ,fun E=>rfl,rfl,fun _=>rfl,acP hp.1 hp.2⟩
 ·cases h
theorem abN:aU Tryz.prog (fun f=>aA f afO):=.cons ao1 (vh _ _) MZ
theorem anS (n:Nat)(f:Nat->List UInt8):Sx.Good Tryz.prog (aea n f):=.of bO abN bt
theorem akr:Rn ⟨afa,fun _=>0,0,0⟩ []:=by refine⟨⟨⟨by decide,fun j _=>by show(0:Int)<=0/\(0:Int)<=255;decide⟩,fun j _=>rfl,fun j hj=>absurd hj (Nat.not_lt_zero _),rfl⟩,rfl⟩
theorem Bb (f:Nat->List UInt8)(i:Nat):flat (j6 f 0 (i+1))=flat (j6 f 0 i)++f i:=by unfold flat j6;rw[List.range_succ];simp
theorem PB (f:Nat->List UInt8): ∀ {i n:Nat},i<=n->(flat (j6 f 0 i)).length<=(flat (j6 f 0 n)).length:=by
 intro i n h;induction n with
 | zero=>obtain rfl:i=0:=by omega
         exact Nat.le_refl _
 | succ n ih =>
   by_cases e:i=n+1
   ·subst e;exact Nat.le_refl _
   ·have:=ih (by omega);rw[Bb,List.length_append];omega
theorem agn (n:Nat)(f:Nat->List UInt8)(z:Bool)(o c:Nat)(key:Option Nat)(h:(flat (j6 f 0 n)).length<1152921504606846976)(hn:n<1152921504606846976) :
  aq (i7 (aea n f) 21 Tryz.f21 [.cC 0 1 z o 0 n c] [⟨key,z,o,n,c,[.str f]⟩] (.ret (.str false (cT (flat (j6 f 0 n)))))):=by
 refine aq.j7 (ard n f z o c key) (by delta Fk I6 Ix Sr Er NI bf aF bC bx ak aI bH dG ax fo rV k8 ij cU bD bT cg fA fM GD dz aD fL wU qz5 qz6 agV Ge qz3 qz4 uF LL agL agM ag0 Ay ZL eJ;exact rfl) ?_;dsimp only;refine⟨⟨(0,⟨afa,fun _=>0,0,0⟩),⟨Nat.zero_le _,akr⟩,rfl,Sx.af.cells (fun E=>rfl) rfl,af.refl _,trivial⟩,fun g hg=>⟨fun a=> ?_,fun a=> ?_⟩⟩
 ·have a:=of_decide_eq_true a;have h1:=PB f (i:=g.1+1) (n:=n) (by omega);rw[Bb,List.length_append] at h1;rw[Int.toNat_natCast,Nat.zero_add];refine⟨by omega,⟨rfl,by omega⟩,(g.2,flat (j6 f 0 g.1)),af.refl _,⟨hg.2,by omega⟩,fun y hy=>⟨by omega,(g.1+1,y),⟨⟨by show g.1+1<=n;omega,?_⟩,by show n - (g.1+1)<n - g.1;omega⟩,by show(g.1:Int)+1=((g.1+1:Nat):Int);omega,af.refl _,af.refl _,trivial⟩⟩;show Rn y (flat (j6 f 0 (g.1+1)));rw[Bb];exact hy
 ·have a:=of_decide_eq_false a;have hg1:=hg.1;have e:g.1=n:=by omega
  refine⟨(g.2,flat (j6 f 0 g.1)),af.refl _,⟨hg.2,by rw[e];exact h⟩,fun _ _=> ?_⟩;rw[e];exact fun _=>rfl
theorem ago:au Tryz.prog 21 (v7 Zb ofG):=by
 refine alv (gq (n:=20) (fn:=Tryz.f21) Tryz.func21 (by kernel_rfl) (by kernel_rfl) ?_);intro vs l q a h hq;unfold U' at h;split at h
 ·rename_i n f r hx;obtain⟨z,o,c,key⟩:=r;injection h with h;injection h with h1 h2;subst h1;subst h2;obtain⟨e1,e2⟩:=aid hx;rw[e1,e2];exact⟨_,anS n f,rfl,rfl,agn n f z o c key hq.1 (by have:=hq.2;rwa [nP] at this)⟩
 ·cases h
theorem UY (T:List UInt8):(cT T).length=32:=rfl
noncomputable def Jc:List (FuncId×PT):=(21,v7 Zb ofG)::(205,bW (mb 9223372036854775808))::(146,bW (rz 9223372036854775808))::WG 9223372036854775808
theorem zn:aU Tryz.prog (fun f=>aA f Jc):=.cons ago (GQ _ _) (.cons (jo _) (bX _) (.cons (vJ (jo _)) (bX _) (MU (jo _))))
noncomputable def sC:gF:={cF with cM:=fun f=>aA f Jc}
theorem Eg:Sx.Good Tryz.prog sC:=.of bO zn bt
def agA (x:Nd):b7:=.fork (bB x) fun b=>match b with
 | true=>.ret (.bL [.str false (dQ x),.int .i64 true 0])
 | false=>.ret (.bL [.str true [],.int .i64 true 1])
def nt (g:Nd->Option (Prop×b7)):List SV->Option (Prop×b7)
 | [.agg l]=>(match LF l with
   | some x=>g x
   | none=>none)
 | _=>none
theorem Js {g:Nd->Option (Prop×b7)}{args:List SV}{p:Prop}{v:b7}(h:nt g args=some (p,v)): ∃ x,args=[x.sv]/\g x=some (p,v):=by
 unfold nt at h;split at h
 ·split at h
  ·rename_i x hx;exact⟨x,by rw[vG hx],h⟩
  ·cases h
 ·cases h
def gu (s:List UInt8):List UInt8:=if s.length<32 then s else aB (cT s)
def cw (a b:List UInt8):Bool:=!decide (a=b)&&decide (cT a=cT b)
def fT (r:Nat->List UInt8):Nat->Nat
 | 0=>0
 | i+1=>bif eA (r i)then fT r i+1 else fT r i
def kg (r:Nat->List UInt8):Nat->Nat->List UInt8
 | 0=>fun _=>[]
 | i+1=>fun j=>bif eA (r i)then(if j=fT r i then aa (r i)else kg r i j)else kg r i j
def G0:Nat->Nd->Prop
 | 0,_=>False
 | L+1,x=>∀ j,j<16->x.r j=[]∨((x.r j).length<L/\(x.r j).length<32)
def xR (L:Nat):List SV->Option (Prop×SV):=gI fun x=>some (G0 L x,.aO)
noncomputable def ajP:bp :={α:=Nat,pre:=fun _ i=>i<=16,sM:=fun _ i=>16 - i,fresh:=0,slots:=fun _ i=>[(7,.int .i64 false i)],mem:=fun _ _=>[]}
noncomputable def Ys (L:Nat):gF:={cF with cM:=fun f=>aA f ((147,aT (xR L))::Jc),aR:=fun f=>if f=259 then [(1,always ajP)] else []}
noncomputable def apE (x:Nd):bp :=
 {α:=Nat×Nat,pre:=fun _ g=>g.1<=16/\fT x.r g.1<=g.2,sM:=fun _ g=>16 - g.1,fresh:=1,slots:=fun _ g=>[(7,.int .i64 false g.1)],
  mem:=fun st g=>[(1,.cells [.bI st.nx 1 true 0 (fT x.r g.1) g.2] 1 28),(st.nx,.rows true (fT x.r g.1) [.str (kg x.r g.1)] false g.2 9)]}
noncomputable def Yr (x:Nd):gF:={cF with cM:=fun f=>aA f ((147,aT (xR 64))::Jc),aR:=fun f=>if f=259 then [(1,always (apE x))] else []}
def Cq (x:Nd):b7:=.fork (bB x) fun b=>match b with
 | true=>.all Nat fun c=>.req (fT x.r 16<=c) (.new (fun k=>.bI k 1 true 0 (fT x.r 16) c) (.rows true (fT x.r 16) [.str (kg x.r 16)] false c 9))
 | false=>.ret .aO
section
variable (n m : Nat) (s : List UInt8) (p q r P Q f g h : Prop) (B : SB) (y : Nat × Nat) (x : Nd) (z : Loop)
abbrev alb:=c8 19 (gj (bC x.k) (aF (ax x.p) (ax x.v) (aD (je 0 x) (je 1 x) (je 2 x) (je 3 x) (je 4 x) (je 5 x) (je 6 x) (je 7 x) (aD (je 8 x) (je 9 x) (je 10 x) (je 11 x) (je 12 x) (je 13 x) (je 14 x) (je 15 x) List.nil)))) 366
abbrev nO:=fT x.r y.1
abbrev x6:=c6 (Sr (c8 19 (Nd.sv x) 246))
abbrev nC:=Int.toNat (fJ y)
abbrev kJ:=bl p q r P Q f g (Sr B) h
abbrev ag8:=aL (dW (cR 1 (fX Av 1 (nO y x) y.2) List.nil 28)) (fW (cI (nO y x) (nO y x)) (jd (2*(nO y x+0)*16)) (cr (nO y x+0))) (C4 y) (∀(a:Nat),aX (nO y x+0) a (dG (∃(b:Nat×Nat),kJ (cg 16 b.1 16 y.1 (eY b.1 16 (nO b x) b)) (fJ y+1=fJ b) kH (dn (nO y x+0) (nO b x) a b.2) True (af (cq (nO y x+0) a 1 9 (bD (kg x.r y.1))) (eC (nO b x) b.2 9 (bD (kg x.r b.1)))) (oG z) (x6 x) B) (fJ y+1)))
abbrev NT:=eC (nO y x) y.2 9 (bD (kg x.r y.1))
abbrev Ue:=eY y.1 16 (nO y x) y
abbrev N8:=wW 9223372036854775808 (oa x)
abbrev pO:=(getD (nM (nC y) x)).r n
abbrev Gz:=Rel 9223372036854775808 s
abbrev C2:List SV:=[SV.aO]
abbrev pN:=(getD (lO n x)).r m
abbrev qj:=cQ cn (bx 1) List.nil
end
theorem ac7 (x:Nd):VC.holds (jy sC 133 Tryz.f133 [x.sv] (agA x))=(cH (N8 x) (dY (ah qj (fV (ax (dQ x)))) qj qj (bB x)) (aS (gk (x.k<=3) x.k/\Nd.th (uG x)) (jg (ax (dQ (uG x))) (fV (ax (dQ x)))) (jg (ax (dQ (uG x))) qj) (bB x)) (bB (uG x))):=by kernel_rfl
theorem aqx (s:List UInt8)(R:SV->Prop):VC.holds (fS sC 187 Tryz.f187 [.str false s] R)=((decide ((↑(List.length s):Int)<32)=true->R (SV.str false s))/\(decide ((↑(List.length s):Int)<32)=false->(True/\Zb [s])/\32<1152921504606846976/\R (SV.str false (aB (cT (flat [s])))))):=by kernel_rfl
theorem ac1 (a b:List UInt8)(R:SV->Prop):VC.holds (fS sC 14 Tryz.f14 [.str false a,.str false b] R)=((not (decide (a=b))=true->(True/\Zb [a])/\(True/\Zb [b])/\R (SV.bool (false&&false) (decide (cT (flat [a])=cT (flat [b])))))/\(not (decide (a=b))=false->R (SV.bool true false))):=by kernel_rfl
theorem apd (L:Nat)(x:Nd)(R:SV->Prop):VC.holds (fS (Ys L) 147 Tryz.f147 [x.sv] R)=((fun(a:SB)=>cH (N8 x) (R SV.aO) (∀(b:Loop),(∃(c:Nat),bT c 16 (iY (fh c) (oG b) (x6 x) a JW))/\(∀(c:Nat),aX c 16 (Fk (wP c) (cH (F5 c) (ak (Er b) (dj (lO c x)) (iH (lO c x) (∀(d:Nat),aX 1 d (fN c (fun e=>gp (sS e c) (gU c e) (oG b) (Sr a) (bH 1 (SB.cells C2 1 28) [SV.slc (aP (Av+0)) 0 1 false d] 28) (x6 x)))) (aS (Gz (lO c x)) (aL (G0 L (pT (getD (lO c x)).v (getD (lO c x)).k (getD (lO c x)) (fun a=>c9 a (fU (pN c 0 x) (pN c 1 x) (pN c 2 x) (pN c 3 x) (pN c 4 x) (pN c 5 x) (pN c 6 x) (pN c 7 x) (fU (pN c 8 x) (pN c 9 x) (pN c 10 x) (pN c 11 x) (pN c 12 x) (pN c 13 x) (pN c 14 x) (pN c 15 x) List.nil))))) (dW JW) (jb c) (∃(d:Nat),sS d c/\iY (gU c d) (oG b) (x6 x) a (SB.cells C2 1 28))) (aL (G0 L wK) (dW JW) (jb c) (∃(d:Nat),sS d c/\iY (gU c d) (oG b) (x6 x) a (SB.cells C2 1 28))) (cG (lO c x))))) (fN c (fun d=>sS d c/\iY (gU c d) (oG b) (x6 x) a JW)) (dX (lO c x))) (R SV.aO)))) (bB (uG x))) (alb x)):=by kernel_rfl
theorem aiV (x:Nd):VC.holds (jy (Yr x) 147 Tryz.f147 [x.sv] (Cq x))=((fun(a:SB)=>cH (N8 x) (dY (∃(a:Nat),bT (fT x.r 16) a False) SV.aO SV.aO (bB x)) (∀(b:Loop),(∃(c:Nat×Nat),aL (Ue c x) (0=fJ c) kH (aI (nO c x=0) (oh (NT c x)) (oG b) (Sr a) (x6 x)))/\(∀(c:Nat×Nat),Ue c x->bf (cH (ak (0<=fJ c) (fJ c<16) (fJ c<16)) (ak (Er b) (dj (nM (nC c) x)) (iH (nM (nC c) x) (ak (fW (cI (nO c x) (nO c x)) (jd (2*aP (nO c x)*16)) (cr (aP (nO c x)))) (C4 c) (∀(d:Nat),aX (aP (nO c x)) d (dG (∃(e:Nat×Nat),kJ (cg 16 e.1 16 c.1 (Ue e x)) (mP c e) kH (dn (aP (nO c x)) (nO e x) d e.2) True (af (cq (aP (nO c x)) d 1 9 (bD (fun a=>iT a (nO c x) (kg x.r c.1 a) (iW (a - nO c x) (aa (nM (nC c) x)))))) (NT e x)) (oG b) (x6 x) a) (mQ c)))) (aS (Gz (nM (nC c) x)) (G0 64 (pT (getD (nM (nC c) x)).v (getD (nM (nC c) x)).k (getD (nM (nC c) x)) (fun a=>c9 a (fU (pO 0 c x) (pO 1 c x) (pO 2 c x) (pO 3 c x) (pO 4 c x) (pO 5 c x) (pO 6 c x) (pO 7 c x) (fU (pO 8 c x) (pO 9 c x) (pO 10 c x) (pO 11 c x) (pO 12 c x) (pO 13 c x) (pO 14 c x) (pO 15 c x) List.nil))))/\ag8 a c x b) (G0 64 wK/\ag8 a c x b) (cG (nM (nC c) x))))) (dG (∃(d:Nat×Nat),kJ (cg 16 d.1 16 c.1 (Ue d x)) (mP c d) kH (dn (nO c x) (nO d x) c.2 d.2) True (af (NT c x) (NT d x)) (oG b) (x6 x) a) (mQ c)) (dX (nM (nC c) x))) (dY (∃(a:Nat),gK (fT x.r 16) a (af (NT c x) (eC (fT x.r 16) a 9 (bD (kg x.r 16)))) (ah (fX Av 1 (nO c x) c.2) (fX Av 1 (fT x.r 16) a))) (fX Av 1 (nO c x) c.2) SV.aO (bB x)) (fJ c) 16)) (bB (uG x))) (alb x)):=by kernel_rfl
structure Nd.OO (x y:Nd):Prop where
 k:x.k=y.k
 p:x.p=y.p
 v:x.v=y.v
 r: ∀ j,j<16->x.r j=y.r j
theorem S0 {inl:List UInt8->Bool}{r r':Nat->List UInt8}: ∀ {n:Nat},(∀ j,j<n->r j=r' j)->qJ inl r n=qJ inl r' n/\gy r n=gy r' n
 | 0,_=>⟨rfl,rfl⟩
 | n+1,h=>by obtain⟨h1,h2⟩:=S0 (inl:=inl) (n:=n) fun j hj=>h j (by omega);simp only[qJ,gy,h1,h2,h n (by omega),and_self]
theorem Fo {x y:Nd}(h:x.OO y):bB x=bB y:=by
 obtain⟨h1,h2⟩:=S0 (inl:=cG) h.r;have e0:wA x=wA y:=by
  unfold wA;rw[h.k,h.p,h.v];congr 3;rw[Bool.eq_iff_iff,List.all_eq_true,List.all_eq_true];constructor
  ·intro g j hj;rw[← h.r j (List.mem_range.1 hj)];exact g j hj
  ·intro g j hj;rw[h.r j (List.mem_range.1 hj)];exact g j hj
 have e1:pn x=pn y:=by unfold pn lJ;rw[h.p,h.v,iu h.r]
 have e2:tj cG x=tj cG y:=by unfold tj lJ;rw[h.p,h.v,iu h.r,h.r 0 (by decide)]
 have e3:fe cG x=fe cG y:=by unfold fe;rw[h.p,h.v,h1,h2]
 unfold bB mB;rw[h.k,e0,e1,e2,e3]
theorem Zg {x y:Nd}(h:x.OO y):dQ x=dQ y:=by
 have e1:n8 x=n8 y:=by unfold n8 dy;rw[h.p,h.v]
 have e2:wX x=wX y:=by unfold wX dy;rw[h.p,h.r 0 (by decide)]
 have e3:iI x=iI y:=by
  have hb: ∀ j,j<16->bY x.r 16 j=bY y.r 16 j:=fun j hj=>by unfold bY;rw[h.r j hj]
  unfold iI;rw[hb 0 (by decide),hb 1 (by decide),hb 2 (by decide),hb 3 (by decide),hb 4 (by decide),hb 5 (by decide),hb 6 (by decide),hb 7 (by decide),hb 8 (by decide),hb 9 (by decide),hb 10 (by decide),hb 11 (by decide),hb 12 (by decide),hb 13 (by decide),hb 14 (by decide),hb 15 (by decide),h.v]
 unfold dQ;rw[h.k,e1,e2,e3]
theorem zK (x:Nd):Nd.OO {k:=x.k,p:=x.p,v:=x.v,r:=fun(i:Nat)=>[x.r 0,x.r 1,x.r 2,x.r 3,x.r 4,x.r 5,x.r 6,x.r 7,x.r 8,x.r 9,x.r 10,x.r 11,x.r 12,x.r 13,x.r 14,x.r 15].getD i []} x:=⟨rfl,rfl,rfl,fun j hj=>gT x.r j hj⟩
theorem Nd.th.same {x y:Nd}(h:x.OO y)(hf:y.th):x.th:=⟨by rw[h.p];exact hf.p,by rw[h.v];exact hf.v,fun j hj=>by rw[h.r j hj];exact hf.r j hj⟩
def Fits (x:Nd):Prop:=∀ j,j<16->(x.r j).length<9223372036854775808
theorem Iv {x:Nd}(h:Fits x):wW 9223372036854775808 (fun(i:Nat)=>[x.r 0,x.r 1,x.r 2,x.r 3,x.r 4,x.r 5,x.r 6,x.r 7,x.r 8,x.r 9,x.r 10,x.r 11,x.r 12,x.r 13,x.r 14,x.r 15].getD i []):=fun j hj=>by show Rel _ ([x.r 0,x.r 1,x.r 2,x.r 3,x.r 4,x.r 5,x.r 6,x.r 7,x.r 8,x.r 9,x.r 10,x.r 11,x.r 12,x.r 13,x.r 14,x.r 15].getD j []);rw[gT x.r j hj];exact⟨.inl (h j hj),h j hj⟩
theorem Bv:au Tryz.prog 133 (bW (nt fun x=>some (Fits x,agA x))):=by
 refine fE (n:=20) (fn:=Tryz.f133) Tryz.func133 (by kernel_rfl) (by kernel_rfl) ?_;intro args p a h hp;obtain⟨x,hx,hg⟩:=Js h;subst hx;injection hg with hg;injection hg with h1 h2;subst h1;subst h2;refine⟨sC,Eg,rfl,fun b=>by cases b<;>exact rfl,aq.j7 (ac7 x) (by delta Bk cn aF bx k6 cY gi ax aS dY gk jg bn cQ fV cH fU CV c9 oa pT uG N8 qj;exact rfl) ?_⟩
 have e:=Fo (zK x);have e2:=Zg (zK x);refine⟨Iv hp,fun a=> ?_,fun a=> ?_⟩
 ·rw[e] at a;have a:bB x=false:=by simpa using a
  rw[a];exact⟨(fun h=>by cases h),fun _ _=>rfl⟩
 ·rw[e] at a;have a:bB x=true:=by simpa using a
  have hs:=p7 a;rw[e2,a];exact⟨⟨hs.k,Nd.th.same (zK x) hs.few⟩,fun _ _=>rfl,fun h=>by cases h⟩
theorem YN (s:List UInt8):flat [s]=s:=by simp[flat]
theorem aov {s:List UInt8}(h:s.length<1152921504606846976):True/\Zb [s]:=⟨trivial,by rw[YN];exact h,by simp⟩
def zF:List SV->Option (Prop×SV)
 | [.str false s]=>some (s.length<1152921504606846976,.str false (gu s))
 | _=>none
theorem Bw:au Tryz.prog 187 (aT zF):=by
 refine kU Eg (n:=20) (fn:=Tryz.f187) Tryz.func187 (by kernel_rfl) (by kernel_rfl) ?_;intro args p r h hp;unfold zF at h;split at h
 ·rename_i s;injection h with h;injection h with h1 h2;subst h1;subst h2;refine⟨rfl,rfl,aq.of_eq (aqx s _) ⟨fun a=> ?_,fun a=>⟨aov hp,by omega,?_⟩⟩⟩
  ·have a:=of_decide_eq_true a;exact kP (by rw[gu,if_pos (by omega)])
  ·have a:=of_decide_eq_false a;exact kP (by rw[gu,if_neg (by omega),YN])
 ·cases h
def sE:List SV->Option (Prop×SV)
 | [.str false a,.str false b]=>some (a.length<1152921504606846976/\b.length<1152921504606846976,.bool false (cw a b))
 | _=>none
theorem Ia:au Tryz.prog 14 (aT sE):=by
 refine kU Eg (n:=20) (fn:=Tryz.f14) Tryz.func14 (by kernel_rfl) (by kernel_rfl) ?_;intro args p r h hp;unfold sE at h;split at h
 ·rename_i a b;injection h with h;injection h with h1 h2;subst h1;subst h2;refine⟨rfl,rfl,aq.of_eq (ac1 a b _) ⟨fun c=>⟨aov hp.1,aov hp.2,cX ?_⟩,fun c=>cX ?_⟩⟩
  ·rw[YN,YN,cw,c,Bool.true_and]
  ·rw[cw,c,Bool.false_and]
 ·cases h
theorem af8 {L:Nat}{x:Nd}(h:G0 L x): ∃ K,L=K+1/\∀ j,j<16->x.r j=[]∨((x.r j).length<K/\(x.r j).length<32):=by
 cases L with
 | zero=>exact h.elim
 | succ K=>exact⟨K,rfl,h⟩
theorem ab4 {L:Nat}{x:Nd}(h:G0 L x):Fits x:=fun j hj=>by
 obtain⟨K,_,h⟩:=af8 h;rcases h j hj with h | h
 ·rw[h];simp
 ·omega
theorem Y9 {L:Nat}{t:List UInt8}(hk:0<=aY t)(h:t.length<L)(h32:t.length<32):G0 L (getD t):=by
 cases L with
 | zero=>exact absurd h (Nat.not_lt_zero _)
 | succ L =>
   intro j _;by_cases e:(getD t).r j=[]
   ·exact .inl e
   ·have:=QO hk j e;exact .inr ⟨by omega,by omega⟩
theorem Nj {L:Nat}{x y:Nd}(h:x.OO y)(hn:G0 L y):G0 L x:=by
 cases L with
 | zero=>exact hn.elim
 | succ L=>intro j hj;rw[h.r j hj];exact hn j hj
theorem Nk {L:Nat}(h:0<L):G0 L gV:=by
 cases L with
 | zero=>omega
 | succ L=>intro j hj;exact .inl (gT (fun _=>[]) j hj)
theorem Ei {t:List UInt8}(h:cG t=true):0<=aY t/\ey t=true/\(getD t).k≠0:=by
 rw[Eh] at h;simp only[Bool.and_eq_true,decide_eq_true_eq,Bool.not_eq_true',decide_eq_false_iff_not] at h;refine⟨?_,h.2.1,h.2.2⟩;by_cases g:0<=aY t
 ·exact g
 ·rw[ae3 g] at h;exact absurd h.2.1 (by decide)
theorem ab5 {L:Nat}(hH:au Tryz.prog 147 (aT (xR L))):au Tryz.prog 147 (aT (xR (L+1))):=by
 refine Ni Tryz.func147 (by kernel_rfl) (by kernel_rfl) fun x p v h hp=> ?_;injection h with h;injection h with h1 h2;subst h1;subst h2;have hp:G0 (L+1) x:=hp;refine⟨Ys L,[x.sv],.of bO (aU.cons hH (aN _) zn) bt,fun E=>rfl,rfl,rfl,aq.j7 (apd L x _) (by delta Fk Bk I6 Sr Er NI aX aF bC ak aI aL bH ax cr aS dj bn dX wO oG aP pS Av c8 JW bT gp gU fh jb fN cH iH fU CV lF aD sS wP F5 nM lO gj je c9 oa pT uG dW c6 iY NH qz0 wK alb x6 N8 Gz C2 pN;exact rfl) ?_⟩;refine⟨Iv (ab4 hp),fun _ _=>rfl,fun _ R=>⟨⟨0,by omega,rfl,af.refl _,af.refl _,af.refl _,af.refl _,trivial⟩,fun i hi=>⟨fun c=> ?_,fun _ _=>rfl⟩⟩⟩;have c:=of_decide_eq_true c;have ei:i<16:=by omega
 rw[Int.toNat_natCast,GK x.r ei];refine⟨by omega,fun d=> ?_,fun d=>⟨by omega,i+1,by omega,by omega,af.refl _,af.refl _,af.refl _,af.refl _,trivial⟩⟩;have d: ¬ x.r i=[]:=by simpa using d
 obtain⟨hl,h32⟩:(x.r i).length<L/\(x.r i).length<32:=by
  rcases hp i ei with h | h
  ·exact absurd h d
  ·exact h
 have hlp:0<L:=by omega
 refine⟨rfl,by omega,fun e=> ?_,fun e=>⟨⟨.inl (by omega),by omega⟩,fun f=>⟨?_,rfl,by omega,i+1,by omega,by omega,af.refl _,af.refl _,af.refl _,af.refl _,trivial⟩,fun f=>⟨Nk hlp,rfl,by omega,i+1,by omega,by omega,af.refl _,af.refl _,af.refl _,af.refl _,trivial⟩⟩⟩
 ·have:=xD e;omega
 ·exact Nj (zK (getD (x.r i))) (Y9 (Ei f).1 hl h32)
theorem Te: ∀ L,au Tryz.prog 147 (aT (xR L))
 | 0=>Ni Tryz.func147 (by kernel_rfl) (by kernel_rfl) fun x p v h hp=>by injection h with h;injection h with h1 h2;subst h1;exact hp.elim
 | L+1=>ab5 (Te L)
theorem Sf (r:Nat->List UInt8): ∀ i,fT r i<=i
 | 0=>Nat.le_refl _
 | i+1=>by have:=Sf r i;unfold fT;cases eA (r i)<;>simp only[cond_true,cond_false]<;>omega
theorem anH (x:Nd):Sx.Good Tryz.prog (Yr x):=.of bO (aU.cons (Te 64) (aN _) zn) bt
theorem Se {r:Nat->List UInt8}{i:Nat}(h:eA (r i)=true)(j:Nat)(hj:j<fT r i+1):(if j<fT r i then kg r i j else lZ [aa (r i)] (j - fT r i))=kg r (i+1) j:=by
 show _=(bif eA (r i)then(if j=fT r i then aa (r i)else kg r i j)else kg r i j)
 rw[h];simp only[cond_true];by_cases e:j<fT r i
 ·rw[if_pos e,if_neg (by omega)]
 ·have e:j=fT r i:=by omega
  subst e;rw[if_neg (by omega),if_pos rfl,Nat.sub_self];rfl
theorem Bf {r:Nat->List UInt8}{i:Nat}(h:eA (r i)=true):fT r (i+1)=fT r i+1:=by rw[fT,h];rfl
theorem fZ {r:Nat->List UInt8}{i:Nat}(h:eA (r i)=false):fT r (i+1)=fT r i/\∀ j,kg r (i+1) j=kg r i j:=by
 refine⟨by rw[fT,h];rfl,fun j=> ?_⟩;show(bif eA (r i)then(if j=fT r i then aa (r i)else kg r i j)else kg r i j)=_
 rw[h];rfl
theorem PS {x:Nd}(hp:Fits x):aq (jy (Yr x) 147 Tryz.f147 [x.sv] (Cq x)):=by
 refine aq.j7 (aiV x) (by delta Fk Bk I6 Sr Er NI bf aX aF bC ak cR aI aL dG ax cr aS dj dY bn dX wO oG aP pS Av c8 eC cU bD fX aW jd iT bT dn dZ cq oh fW cI iW gK kH fJ C4 mP mQ cg eY bl cH iH fU CV aD nM gj je c9 oa pT uG dW c6 NH qz0 wK alb nO x6 nC kJ ag8 NT Ue N8 pO Gz;exact rfl) ?_;have ev:=Fo (zK x);rw[ev];refine⟨Iv hp,fun a=>⟨fun b=> ?_,fun _ _=>rfl⟩,fun a R=>⟨⟨(0,0),⟨Nat.zero_le _,Nat.le_refl _⟩,rfl,rfl,rfl,rfl,af.refl _,af.refl _,af.refl _,trivial⟩,fun g hg=>⟨fun c=> ?_,fun c=> ?_⟩⟩⟩
 ·rw[b] at a;cases a
 ·have c:=of_decide_eq_true c;have ei:g.1<16:=by omega
  rw[Int.toNat_natCast,GK x.r ei];have hf:=hp g.1 ei;have hn:=Sf x.r g.1;have hg2:=hg.2;have hs:bB x=true:=by simpa using a
  refine⟨by omega,fun d=> ?_,fun d=> ?_⟩
  ·have d: ¬ x.r g.1=[]:=by simpa using d
   refine⟨rfl,hf,fun e=> ?_,fun e=>⟨⟨.inl hf,hf⟩,fun f=> ?_,fun f=> ?_⟩⟩
   ·refine⟨⟨by omega,trivial,by omega,by omega⟩,by omega,fun cap hcap=>⟨by omega,(g.1+1,cap),⟨⟨by show g.1+1<=16;omega,?_⟩,by show 16 - (g.1+1)<_;omega⟩,by show(g.1:Int)+1=((g.1+1:Nat):Int);omega,rfl,⟨rfl,(Bf e).symm,rfl⟩,trivial,?_,af.refl _,af.refl _,af.refl _,trivial⟩⟩
    ·show fT x.r (g.1+1)<=cap;rw[Bf e];exact hcap
    ·exact Sx.af.vZ (Bf e).symm (Nat.mul_one cap) fun j hj=>Se e j hj
   ·have hk:=Ei f;have hil:=vz f;refine⟨Nj (zK (getD (x.r g.1))) (Y9 hk.1 (by omega) hil),rfl,⟨by omega,trivial,by omega,by omega⟩,by omega,fun cap hcap=>⟨by omega,(g.1+1,cap),⟨⟨by show g.1+1<=16;omega,?_⟩,by show 16 - (g.1+1)<_;omega⟩,by show(g.1:Int)+1=((g.1+1:Nat):Int);omega,rfl,⟨rfl,(fZ e).1.symm,rfl⟩,trivial,?_,af.refl _,af.refl _,af.refl _,trivial⟩⟩
    ·show fT x.r (g.1+1)<=cap;rw[(fZ e).1];exact hcap
    ·exact Sx.af.vZ (fZ e).1.symm (Nat.mul_one cap) fun j _=>((fZ e).2 j).symm
   ·refine⟨Nk (by decide),rfl,⟨by omega,trivial,by omega,by omega⟩,by omega,fun cap hcap=>⟨by omega,(g.1+1,cap),⟨⟨by show g.1+1<=16;omega,?_⟩,by show 16 - (g.1+1)<_;omega⟩,by show(g.1:Int)+1=((g.1+1:Nat):Int);omega,rfl,⟨rfl,(fZ e).1.symm,rfl⟩,trivial,?_,af.refl _,af.refl _,af.refl _,trivial⟩⟩
    ·show fT x.r (g.1+1)<=cap;rw[(fZ e).1];exact hcap
    ·exact Sx.af.vZ (fZ e).1.symm (Nat.mul_one cap) fun j _=>((fZ e).2 j).symm
  ·have d:x.r g.1=[]:=by simpa using d
   have e:eA (x.r g.1)=false:=by rw[d];rfl
   refine⟨by omega,(g.1+1,g.2),⟨⟨by show g.1+1<=16;omega,?_⟩,by show 16 - (g.1+1)<_;omega⟩,by show(g.1:Int)+1=((g.1+1:Nat):Int);omega,rfl,⟨rfl,(fZ e).1.symm,rfl⟩,trivial,?_,af.refl _,af.refl _,af.refl _,trivial⟩
   ·show fT x.r (g.1+1)<=g.2;rw[(fZ e).1];exact hg2
   ·exact Sx.af.vZ (fZ e).1.symm rfl fun j _=>((fZ e).2 j).symm
 ·have c:=of_decide_eq_false c;have hg1:=hg.1;have e:g.1=16:=by omega
  have hg2:=hg.2;rw[e] at hg2 ⊢;exact⟨fun _=>⟨g.2,hg2,af.refl _,fun _=>rfl⟩,fun h=>by rw[h] at a;cases a⟩
theorem MB:au Tryz.prog 147 (bW (nt fun x=>some (Fits x,Cq x))):=by
 refine fE (n:=20) (fn:=Tryz.f147) Tryz.func147 (by kernel_rfl) (by kernel_rfl) ?_;intro args p a h hp;obtain⟨x,hx,hg⟩:=Js h;subst hx;injection hg with hg;injection hg with h1 h2;subst h1;subst h2;refine⟨Yr x,anH x,rfl,fun b=> ?_,PS hp⟩;cases b with
 | false=>exact rfl
 | true =>
   intro c;refine⟨rfl,rfl,fun k=>by simp[SV.wf,Nat.blt_eq],fun E E' k k' h=> ?_⟩;cases hn:fT x.r 16 with
   | zero=>rfl
   | succ n =>rw[hn] at h;have hk:E k=E' k':=h rfl;simp[SV.val,hk]
end Go.Proofs.YtpaaiebohjjieaaGreatDoor
