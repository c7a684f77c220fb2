/-
  Node: which nodes may be: plain laws: a ref is shorter than what it is in; no text is long.
-/
import Derived.Test.YtoibaecagklkaaaGreatDoorMm
import Derived.Test.YtoibaecagklkaaaGreatDoorMj
import Derived.Test.YtoibaecagklkaaaGreatDoorMl
namespace Go.Proofs.YtoibaecagklkaaaGreatDoor
open Go Sx
set_option maxRecDepth 20000
theorem zn (b:Int)(n:Nat):1<=(bJ b n).length:=by
 unfold bJ
 split<;>simp
theorem SR {s:List UInt8}(h:bE s=true)(hl:cQ s=true):(aa s).length<s.length:=by
 have:=congrArg List.length (FM h)
 rw[hl] at this
 unfold lC at this
 have hp:=zn 192 (aa s).length
 simp only[cond_true,List.length_append] at this
 omega
theorem od {t:List UInt8}(h:bI t=true):t.length=33:=by
 obtain⟨⟨h1,h2,h3⟩,h4⟩:=oF.1 h
 have:=congrArg List.length (FM h1)
 rw[h2,h3] at this
 unfold lC ax bJ at this
 simp only[cond_false,List.append_nil,h4] at this
 simp only[show ¬ ((32:Nat)=1/\ai (aa t) 0<128)from by omega,if_false,List.length_append,h4] at this
 simpa using this.symm
theorem Nx {n:Nat}{t:List UInt8}(h:zF n t=true):t.length<32:=by
 cases n with
 | zero=>simp[zF] at h
 | succ n =>
   simp only[zF,Bool.and_eq_true,decide_eq_true_eq] at h
   exact h.1
theorem p4 {t:List UInt8}(h:bO t=true):t.length<32:=Nx h
theorem iB {r:Nat->List UInt8}: ∀ {n j:Nat},bX r n<=(j:Int)->j<n->r j=[]
 | 0,_,_,h=>absurd h (Nat.not_lt_zero _)
 | n+1,j,h,hj=>by
   unfold bX at h
   by_cases e:r n=[]
   ·rw[if_pos e] at h
    by_cases ej:j=n
    ·subst ej;exact e
    ·exact iB h (by omega)
   ·rw[if_neg e] at h;omega
theorem oV {inl:List UInt8->Bool}{r:Nat->List UInt8}: ∀ {n j:Nat},iH inl r n=true->j<n->r j=[]∨gE inl (r j)=true
 | 0,_,_,h=>absurd h (Nat.not_lt_zero _)
 | n+1,j,h,hj=>by
   simp only[iH,Bool.and_eq_true,Bool.or_eq_true,decide_eq_true_eq] at h
   by_cases ej:j=n
   ·subst ej;exact h.2
   ·exact oV h.1 (by omega)
theorem FX {inl:List UInt8->Bool}{r:Nat->List UInt8}: ∀ {n j:Nat},j<n->r j≠[]->gE inl (r j)=false->iH inl r n=false
 | 0,_,h,_,_=>absurd h (Nat.not_lt_zero _)
 | n+1,j,hj,h0,h1=>by
   simp only[iH]
   by_cases ej:j=n
   ·subst ej
    rw[h1,show decide (r j=[])=false from decide_eq_false h0];simp
   ·rw[FX (n:=n) (by omega) h0 h1];rfl
theorem tP {t:List UInt8}(h:gE bO t=true):t.length<=33:=by
 simp only[gE,Bool.or_eq_true] at h
 rcases h with h | h
 ·have:=od h;omega
 ·have:=p4 h;omega
theorem EN {x:Nd}{l:Int}(h:fZ x l=true):x.p.length<=12:=by
 simp only[fZ,Bool.and_eq_true,decide_eq_true_eq] at h
 omega
theorem ri {x:Nd}(h:js x=true):x.p.length<=12/\x.v≠[]/\x.v.length<=80/\∀ j,j<16->x.r j=[]:=by
 simp only[js,Bool.and_eq_true,Bool.not_eq_true',decide_eq_true_eq,decide_eq_false_iff_not] at h
 obtain⟨h1,h2,h3,h4⟩:=h
 exact⟨EN h1,h2,by omega,fun j hj=>iB (n:=16) (by omega) hj⟩
theorem vq {x:Nd}{inl:List UInt8->Bool}(h:mJ inl x=true):x.p.length<=12/\x.v=[]/\(∀ j,1<=j->j<16->x.r j=[])/\bX x.r 16=1/\(bI (x.r 0)=true∨(inl (x.r 0)=true/\(getD (x.r 0)).k=3)):=by
 simp only[mJ,Bool.and_eq_true,Bool.or_eq_true,decide_eq_true_eq] at h
 obtain⟨h1,h2,h3,h4⟩:=h
 exact⟨EN h1,h2,fun j h1 hj=>iB (n:=16) (by omega) hj,h3,h4⟩
theorem nk {x:Nd}{inl:List UInt8->Bool}(h:c7 inl x=true):x.p=[]/\x.v.length<=80/\iH inl x.r 16=true/\2<=min (x.v.length:Int) 1+cK x.r 16:=by
 simp only[c7,Bool.and_eq_true,decide_eq_true_eq] at h
 obtain⟨h1,h2,h3,h4⟩:=h
 exact⟨h1,by omega,h3,h4⟩
theorem xJ {x:Nd}(h:nR x=true):x.k=0/\x.p=[]/\x.v=[]/\∀ j,j<16->x.r j=[]:=by
 simp only[nR,Bool.and_eq_true,decide_eq_true_eq,List.all_eq_true] at h
 exact⟨h.1,h.2.1,h.2.2.1,fun j hj=>h.2.2.2 j (List.mem_range.2 hj)⟩
theorem ot {x:Nd}{inl:List UInt8->Bool}(h:gC inl x=true):(x.k=0/\nR x=true)∨(x.k=1/\js x=true)∨(x.k=2/\mJ inl x=true)∨(x.k=3/\c7 inl x=true):=by
 unfold gC at h
 split at h
 ·exact .inl ⟨by assumption,h⟩
 ·split at h
  ·exact .inr (.inl ⟨by assumption,h⟩)
  ·split at h
   ·exact .inr (.inr (.inl ⟨by assumption,h⟩))
   ·split at h
    ·exact .inr (.inr (.inr ⟨by assumption,h⟩))
    ·cases h
structure Nd.oC (x:Nd):Prop where
 k:0<=x.k/\x.k<=3
 p:x.p.length<=12
 v:x.v.length<=80
 r: ∀ j,j<16->x.r j=[]∨gE bO (x.r j)=true
theorem kW {x:Nd}(h:aS x=true):x.oC:=by
 rcases ot h with ⟨hk,h⟩ | ⟨hk,h⟩ | ⟨hk,h⟩ | ⟨hk,h⟩
 ·obtain⟨_,h1,h2,h3⟩:=xJ h
  exact⟨by omega,by rw[h1];simp,by rw[h2];simp,fun j hj=>.inl (h3 j hj)⟩
 ·obtain⟨h1,_,h2,h3⟩:=ri h
  exact⟨by omega,h1,h2,fun j hj=>.inl (h3 j hj)⟩
 ·obtain⟨h1,h2,h3,_,h4⟩:=vq h
  refine⟨by omega,h1,by rw[h2];simp,fun j hj=> ?_⟩
  by_cases e:j=0
  ·subst e
   refine .inr ?_
   simp only[gE,Bool.or_eq_true]
   exact h4.imp id fun h=>h.1
  ·exact .inl (h3 j (by omega) hj)
 ·obtain⟨h1,h2,h3,_⟩:=nk h
  exact⟨by omega,by rw[h1];simp,h2,fun j hj=>oV h3 hj⟩
theorem Nd.oC.ref {x:Nd}(h:x.oC)(j:Nat)(hj:j<16):(x.r j).length<=33:=by
 rcases h.r j hj with h | h
 ·rw[h];simp
 ·exact tP h
theorem Nd.oC.U9 {x:Nd}(h:x.oC):x.mQ:=⟨by have:=h.p;omega,by have:=h.v;omega,fun j hj=>by have:=h.ref j hj;omega⟩
theorem xx {f g:List UInt8->Bool}{r:Nat->List UInt8}: ∀ {n:Nat},(∀ j,j<n->r j≠[]->f (r j)=g (r j))->iH f r n=iH g r n
 | 0,_=>rfl
 | n+1,h=>by
   simp only[iH]
   rw[xx fun j hj=>h j (by omega)]
   by_cases e:r n=[]
   ·simp[e]
   ·simp only[gE,h n (by omega) e]
theorem FD {f g:List UInt8->Bool}{x:Nd}(h: ∀ j,j<16->x.r j≠[]->f (x.r j)=g (x.r j)):gC f x=gC g x:=by
 have e3:c7 f x=c7 g x:=by simp only[c7,xx h]
 have e2:mJ f x=mJ g x:=by
  by_cases e:x.r 0=[]
  ·have hb:decide (bX x.r 16=1)=false∨∃ j,1<=j/\j<16/\x.r j≠[]:=by
    by_cases hb:bX x.r 16=1
    ·exfalso
     have hz: ∀ n,n<=16->(∀ j,j<n->x.r j=[])->bX x.r n=0:=by
      intro n
      induction n with
      | zero=>intro _ _;rfl
      | succ n ih=>intro hn hj;rw[bX,if_pos (hj n (by omega)),ih (by omega) fun j hj'=>hj j (by omega)]
     have:=hz 16 (by omega) fun j hj=>by
      by_cases e0:j=0
      ·subst e0;exact e
      ·exact iB (n:=16) (by omega) hj
     omega
    ·exact .inl (decide_eq_false hb)
   by_cases hb:bX x.r 16=1
   ·rcases ‹_∨_› with h1 | ⟨j,h1,h2,h3⟩
    ·exact absurd hb (of_decide_eq_false h1)
    ·exact absurd (iB (n:=16) (by omega) h2) h3
   ·simp only[mJ,hb,decide_false,Bool.false_and,Bool.and_false]
  ·simp only[mJ,h 0 (by decide) e]
 simp only[gC,e2,e3]
theorem zl {s:List UInt8}(h:1<=aq s):bE s=true/\cQ s=true/\aE s=[]/\aq s=nS (aa s):=by
 unfold aq at h ⊢
 split at h
 ·omega
 ·rename_i hs
  cases h1:bE s<;>cases h2:cQ s<;>cases h3:decide (aE s=[])<;>simp only[h1,h2,h3,Bool.and_true,Bool.and_false,cond_false] at h<;>first
   | omega
   | exact⟨rfl,rfl,of_decide_eq_true h3,by rw[if_neg hs];rfl⟩
theorem De {s:List UInt8}(h:0<=aq s)(j:Nat)(hj:(getD s).r j≠[]):((getD s).r j).length<s.length:=by
 by_cases h1:1<=aq s
 ·obtain⟨g1,g2,_,_⟩:=zl h1
  have hl:=SR g1 g2
  have hit:=Cl (aa s)
  have key: ∀(r:Nat->List UInt8),(∀ i,i<16->(r i).length<=(aa s).length)->(aP r j).length<=(aa s).length:=by
   intro r hr
   by_cases h16:j<16
   ·have:aP r j=r j:=eo r j h16
    rw[this];exact hr j h16
   ·have:aP r j=[]:=by
     unfold aP y8
     rw[List.getD_eq_getElem?_getD,List.getElem?_eq_none (by simp;omega)];rfl
    rw[this];simp
  have e:((getD s).r j).length<=(aa s).length:=by
   unfold getD
   split
   ·exact key ay fun i hi=>by rw[show ay i=(fun _=>[]) i from eo (fun _=>[]) i hi];simp
   ·split
    ·refine key (ak (aj (aa s) 1)) fun i hi=> ?_
     have:ak (aj (aa s) 1) i=(fun i=>if i=0 then aj (aa s) 1 else []) i:=eo (fun i=>if i=0 then aj (aa s) 1 else []) i hi
     rw[this]
     show(if i=0 then aj (aa s) 1 else []).length<=_
     split
     ·exact hit 1
     ·simp
    ·split
     ·refine key (aD (aa s)) fun i _=> ?_
      unfold aD
      split
      ·simp
      ·exact hit i
     ·exact key ay fun i hi=>by rw[show ay i=(fun _=>[]) i from eo (fun _=>[]) i hi];simp
  omega
 ·exfalso
  apply hj
  have h0:aq s=0:=by omega
  unfold getD
  rw[if_neg (by omega),if_neg (by omega),if_neg (by omega)]
  show ay j=[]
  by_cases h16:j<16
  ·exact eo (fun _=>[]) j h16
  ·unfold ay y8
   rw[List.getD_eq_getElem?_getD,List.getElem?_eq_none (by simp;omega)];rfl
theorem yO {f g:List UInt8->Bool}{t:List UInt8}(h: ∀ r:List UInt8,r.length<t.length->f r=g r):AM f t=AM g t:=by
 unfold AM
 by_cases h0:0<=aq t
 ·rw[FD (f:=f) (g:=g) fun j _ hr=>h _ (De h0 j hr)]
 ·rw[decide_eq_false h0];rfl
theorem AU: ∀(n m:Nat) (t:List UInt8),t.length<n->t.length<m->zF n t=zF m t
 | 0,_,_,h,_=>absurd h (Nat.not_lt_zero _)
 | _,0,_,_,h=>absurd h (Nat.not_lt_zero _)
 | n+1,m+1,t,hn,hm=>by
   simp only[zF]
   rw[yO (t:=t) fun r hr=>AU n m r (by omega) (by omega)]
theorem uK (t:List UInt8):bO t=(decide (t.length<32)&&(bG t&& !decide ((getD t).k=0))):=by
 by_cases h:t.length<32
 ·unfold bO bG
  rw[show zF 32 t=(decide (t.length<32)&&(AM (zF 31) t&& !decide ((getD t).k=0)))from rfl]
  rw[yO (t:=t) (f:=zF 31) (g:=bO) fun r hr=>AU 31 32 r (by omega) (by omega)]
 ·rw[decide_eq_false h,Bool.false_and]
  exact Bool.eq_false_iff.2 fun h'=>h (p4 h')
theorem B4 {f:FuncId}{fn:Func}(hf:Tryz.prog.funcs[f]?=some fn) (hn:(fn.name== "runtime.NumGoroutine")=false) (hb:fn.body.isSome=true) {g:Nd->Option (Prop×SV)}
  (H: ∀ x p v,g x=some (p,v)->p->∃ cfg args',Sx.Good Tryz.prog cfg/\(∀ E,SV.vals E args'=SV.vals E [x.sv])/\SV.ep 0 args'=true/\v.wf 0=true/\aA (dm cfg f fn args' (fun u=>af u v))):aB Tryz.prog f (aU (dM g)):=by
 refine dD (JS (n:=20) hf hn hb ?_)
 intro args p a h hp
 obtain⟨⟨p0,v0⟩,hq,hpa⟩:=Option.map_eq_some_iff.1 h
 obtain⟨x,hx,hg⟩:=jO hq
 subst hx
 injection hpa with h1 h2;subst h1;subst h2
 obtain⟨cfg,args',c1,c2,c3,c4,c5⟩:=H x _ _ hg hp
 exact⟨cfg,args',c1,c2,c3,c4,c5⟩
theorem Nd.mQ.kind {x:Nd}(h:x.mQ)(k:Int):Nd.mQ {k:=k,p:=x.p,v:=x.v,r:=fun(i:Nat)=>[x.r 0,x.r 1,x.r 2,x.r 3,x.r 4,x.r 5,x.r 6,x.r 7,x.r 8,x.r 9,x.r 10,x.r 11,x.r 12,x.r 13,x.r 14,x.r 15].getD i []} :=
 ⟨h.p,h.v,fun j hj=>by show([x.r 0,x.r 1,x.r 2,x.r 3,x.r 4,x.r 5,x.r 6,x.r 7,x.r 8,x.r 9,x.r 10,x.r 11,x.r 12,x.r 13,x.r 14,x.r 15].getD j []).length<=1000;rw[eo x.r j hj];exact h.r j hj⟩
theorem jc (x:Nd){k:Int}(h:x.k=k)(E:Nat->Nat):SV.vals E [x.vB true k]=SV.vals E [x.sv]:=by
 subst h;rfl
theorem Qu {k:Int}(h:0<=k/\k<=3):k=0∨k=1∨k=2∨k=3:=by omega
theorem MM:aB Tryz.prog 153 (aU (dM fun x=>some ((0<=x.k/\x.k<=3)/\x.mQ,.str false (cu x)))):=by
 refine B4 Tryz.func153 (by kernel_rfl) (by kernel_rfl) fun x p v h hp=> ?_
 injection h with h;injection h with h1 h2;subst h1;subst h2
 obtain⟨hk,hf⟩:=hp
 rcases Qu hk with e | e | e | e
 ·exact⟨sQ,[x.vB true 0],DW,jc x e,rfl,rfl,aA.of_eq (Tf x _) ⟨trivial,fun E=>by rw[cu,if_pos e]⟩⟩
 ·exact⟨sQ,[x.vB true 1],DW,jc x e,rfl,rfl,aA.of_eq (TL x _) ⟨hf.kind 1,fun E=>by rw[cu,if_neg (by omega),if_pos e];rfl⟩⟩
 ·exact⟨sQ,[x.vB true 2],DW,jc x e,rfl,rfl,aA.of_eq (Sj x _) ⟨hf.kind 2,fun E=>by rw[cu,if_neg (by omega),if_neg (by omega),if_pos e];rfl⟩⟩
 ·exact⟨sQ,[x.vB true 3],DW,jc x e,rfl,rfl,aA.of_eq (S0 x _) ⟨hf.kind 3,fun E=>by rw[cu,if_neg (by omega),if_neg (by omega),if_neg (by omega)];rfl⟩⟩
section
variable {L : Nat} (hI : aB Tryz.prog 155 (cE (i6 L)))
include hI
theorem By:bl Tryz.prog (fun f=>aG f (Ib L)):=.cons hI (cj _) jP
theorem Uk:Sx.Good Tryz.prog (Ng L):=.of bS (By hI) bt
theorem UB (x:Nd):Sx.Good Tryz.prog (Nc L x):=.of bS (By hI) bt
theorem UH:aB Tryz.prog 187 (aU (dM fun x=>some (Rel L (x.r 0),.bool false (mJ bO x)))):=by
 refine B4 Tryz.func187 (by kernel_rfl) (by kernel_rfl) fun x p v h hp=> ?_
 injection h with h;injection h with h1 h2;subst h1;subst h2
 refine⟨Ng L,[x.sv],Uk hI,fun E=>rfl,rfl,rfl,aA.of_eq (W4 L x _) ?_⟩
 have e:fZ {k:=x.k,p:=x.p,v:=x.v,r:=fun(i:Nat)=>[x.r 0,x.r 1,x.r 2,x.r 3,x.r 4,x.r 5,x.r 6,x.r 7,x.r 8,x.r 9,x.r 10,x.r 11,x.r 12,x.r 13,x.r 14,x.r 15].getD i []:Nd} 1=fZ x 1:=rfl
 rw[e,ew (eo x.r)]
 unfold mJ
 have nn: ∀ {b:Bool},(!b)=true->b=false:=fun h=>by simpa using h
 have nf: ∀ {b:Bool},(!b)=false->b=true:=fun h=>by simpa using h
 refine⟨trivial,fun a=>cq ?_,fun a=>⟨fun b=>cq ?_,fun b=>⟨trivial,fun c=>cq ?_,fun c=>⟨hp.2,fun d=>cq ?_,fun d=>⟨hp,fun f=>cq ?_,fun f=>cq ?_⟩⟩⟩⟩⟩
 ·rw[nn a];rfl
 ·rw[nf a,nn b];rfl
 ·rw[nf a,nf b,nn c];rfl
 ·rw[nf a,nf b,nf c,d];rfl
 ·rw[nf a,nf b,nf c,d,f];rfl
 ·rw[nf a,nf b,nf c,d,f];rfl
theorem K9:aB Tryz.prog 188 (aU (dM fun x=>some (l7 L x.r,.bool false (c7 bO x)))):=by
 refine B4 Tryz.func188 (by kernel_rfl) (by kernel_rfl) fun x p v h hp=> ?_
 injection h with h;injection h with h1 h2;subst h1;subst h2
 have hp:l7 L x.r:=hp
 refine⟨Nc L x,[x.sv],UB hI x,fun E=>rfl,rfl,rfl,aA.of_eq (N5 L x _) ?_⟩
 have nn: ∀ {b:Bool},(!b)=true->b=false:=fun h=>by simpa using h
 have nf: ∀ {b:Bool},(!b)=false->b=true:=fun h=>by simpa using h
 refine⟨fun a=>cq ?_,fun a=>⟨fun b=>cq ?_,fun b R=>⟨⟨0,⟨by omega,rfl⟩,rfl,x5 (by simp[cK]),ah.refl _,ah.refl _,ah.refl _,ah.refl _,trivial⟩,fun i hi=>⟨fun c=> ?_,fun c=> ?_⟩⟩⟩⟩
 ·unfold c7;rw[nn a];rfl
 ·have b:=of_decide_eq_true b
  unfold c7;rw[nf a,decide_eq_false (show ¬ (x.v.length:Int)<=80 by omega)];rfl
 ·have c:=of_decide_eq_true c
  have ei:i<16:=by omega
  rw[Int.toNat_natCast,Ad x.r ei]
  have hr:=hp i ei
  have hfn:0<=cK x.r i/\cK x.r i<=i:=by
   have: ∀ n,0<=cK x.r n/\cK x.r n<=n:=by
    intro n
    induction n with
    | zero=>exact⟨Int.le_refl _,Int.le_refl _⟩
    | succ n ih=>unfold cK;split<;>omega
   exact this i
  refine⟨by omega,fun d=> ?_,fun d=> ?_⟩
  ·have d: ¬ x.r i=[]:=of_decide_eq_false (nn d)
   have step:cK x.r (i+1)=cK x.r i+1:=by rw[cK,if_neg d]
   refine⟨rfl,hr.2,fun f=>⟨by omega,by omega,i+1,⟨⟨by omega,?_⟩,by omega⟩,by omega,x5 (by omega),ah.refl _,ah.refl _,ah.refl _,ah.refl _,trivial⟩,fun f=>⟨hr,fun g=>⟨by omega,by omega,i+1,⟨⟨by omega,?_⟩,by omega⟩,by omega,x5 (by omega),ah.refl _,ah.refl _,ah.refl _,ah.refl _,trivial⟩,fun g=>cq ?_⟩⟩
   ·simp only[iH,hi.2,gE,f,Bool.true_or,Bool.or_true,Bool.and_true]
   ·simp only[iH,hi.2,gE,g,Bool.or_true,Bool.and_true]
   ·have hm:iH bO x.r 16=false:=FX ei d (by rw[gE,f,g];rfl)
    unfold c7
    rw[hm];simp
  ·have d:x.r i=[]:=of_decide_eq_true (nf d)
   have step:cK x.r (i+1)=cK x.r i:=by rw[cK,if_pos d]
   refine⟨by omega,i+1,⟨⟨by omega,?_⟩,by omega⟩,by omega,x5 (by omega),ah.refl _,ah.refl _,ah.refl _,ah.refl _,trivial⟩
   simp only[iH,hi.2,d,decide_true,Bool.true_or,Bool.and_true]
 ·have c:=of_decide_eq_false c
  have hi1:=hi.1
  have e:i=16:=by omega
  subst e
  have b:=of_decide_eq_false b
  refine cq ?_
  unfold c7
  rw[nf a,hi.2,decide_eq_true (show(x.v.length:Int)<=80 by omega)];rfl
theorem MC:bl Tryz.prog (fun f=>aG f (Pu L)):=.cons (UH hI) (aN _) (.cons (K9 hI) (aN _) jP)
theorem yx:Sx.Good Tryz.prog (n6 L):=.of bS (MC hI) bt
theorem z7:aB Tryz.prog 152 (aU (dM fun x=>some (l7 L x.r,.bool false (aS x)))):=by
 refine B4 Tryz.func152 (by kernel_rfl) (by kernel_rfl) fun x p v h hp=> ?_
 injection h with h;injection h with h1 h2;subst h1;subst h2
 have hp:l7 L x.r:=hp
 by_cases hk:0<=x.k/\x.k<=3
 ·have hm:l7 L (fun(i:Nat)=>[x.r 0,x.r 1,x.r 2,x.r 3,x.r 4,x.r 5,x.r 6,x.r 7,x.r 8,x.r 9,x.r 10,x.r 11,x.r 12,x.r 13,x.r 14,x.r 15].getD i []):=fun j hj=>by
   show Rel L ([x.r 0,x.r 1,x.r 2,x.r 3,x.r 4,x.r 5,x.r 6,x.r 7,x.r 8,x.r 9,x.r 10,x.r 11,x.r 12,x.r 13,x.r 14,x.r 15].getD j [])
   rw[eo x.r j hj];exact hp j hj
  rcases Qu hk with e | e | e | e
  ·refine⟨n6 L,[x.vB true 0],yx hI,jc x e,rfl,rfl,aA.of_eq (NX L x _) ⟨trivial,cq ?_⟩⟩
   rw[aS,gC,if_pos e]
   unfold nR
   rw[e]
   congr 3
  ·refine⟨n6 L,[x.vB true 1],yx hI,jc x e,rfl,rfl,aA.of_eq (OZ L x _) ⟨trivial,cq ?_⟩⟩
   rw[aS,gC,if_neg (by omega),if_pos e]
   unfold js
   rw[ew (eo x.r)];rfl
  ·refine⟨n6 L,[x.vB true 2],yx hI,jc x e,rfl,rfl,aA.of_eq (N2 L x _) ⟨hp 0 (by decide),cq ?_⟩⟩
   rw[aS,gC,if_neg (by omega),if_neg (by omega),if_pos e]
   unfold mJ
   rw[ew (eo x.r)];rfl
  ·refine⟨n6 L,[x.vB true 3],yx hI,jc x e,rfl,rfl,aA.of_eq (Oo L x _) ⟨hm,cq ?_⟩⟩
   rw[aS,gC,if_neg (by omega),if_neg (by omega),if_neg (by omega),if_pos e]
   unfold c7
   have e1: ∀ n,n<=16->iH bO (fun(i:Nat)=>[x.r 0,x.r 1,x.r 2,x.r 3,x.r 4,x.r 5,x.r 6,x.r 7,x.r 8,x.r 9,x.r 10,x.r 11,x.r 12,x.r 13,x.r 14,x.r 15].getD i []) n=iH bO x.r n/\cK (fun(i:Nat)=>[x.r 0,x.r 1,x.r 2,x.r 3,x.r 4,x.r 5,x.r 6,x.r 7,x.r 8,x.r 9,x.r 10,x.r 11,x.r 12,x.r 13,x.r 14,x.r 15].getD i []) n=cK x.r n:=by
    intro n
    induction n with
    | zero=>intro _;exact⟨rfl,rfl⟩
    | succ n ih =>
      intro hn
      obtain⟨i1,i2⟩:=ih (by omega)
      have g:=eo x.r n (by omega)
      simp only[iH,cK,i1,i2,g,and_self]
   obtain⟨i1,i2⟩:=e1 16 (by omega)
   rw[i1,i2]
 ·refine⟨n6 L,[x.sv],yx hI,fun E=>rfl,rfl,rfl,aA.of_eq (Qo L x _) ?_⟩
  have hv:aS x=false:=by rw[aS,gC,if_neg (by omega),if_neg (by omega),if_neg (by omega),if_neg (by omega)]
  rw[hv]
  exact⟨fun _ _=>rfl,fun a=>⟨fun _ _=>rfl,fun b=>absurd ⟨by have:=of_decide_eq_false a;omega,by have:=of_decide_eq_false b;omega⟩ hk⟩⟩
theorem Ch:bl Tryz.prog (fun f=>aG f (Iy L)):=.cons (z7 hI) (aN _) (.cons MM (aN _) jP)
theorem V0:Sx.Good Tryz.prog (NZ L):=.of bS (Ch hI) bt
end
end Go.Proofs.YtoibaecagklkaaaGreatDoor
namespace Go.Proofs.YtoibaecagklkaaaGreatDoor
open Go Sx
set_option maxRecDepth 20000
theorem Mb: ¬ 0<=aq []:=by decide
theorem wO {L:Nat}{s:List UInt8}{X:Nd}(hX:getD s=X)(hk:0<=aq s)(hr:l7 L X.r){V N:SV}(hV:af V (.aL [X.sv,.int .i64 true 0]))(hN:af N (.aL [dg,.int .i64 true 2])) :
  l7 L X.r/\((!aS X)=true->(bG s=true->af N (.aL [(getD s).sv,.int .i64 true 0]))/\(bG s=false->af N (.aL [dg,.int .i64 true 2]))) /\
   ((!aS X)=false->((0<=X.k/\X.k<=3)/\X.mQ)/\((!decide (cu X=s))=true->(bG s=true->af N (.aL [(getD s).sv,.int .i64 true 0]))/\(bG s=false->af N (.aL [dg,.int .i64 true 2]))) /\
    ((!decide (cu X=s))=false->(bG s=true->af V (.aL [(getD s).sv,.int .i64 true 0]))/\(bG s=false->af V (.aL [dg,.int .i64 true 2])))):=by
 have hB:bG s=(aS X&&decide (cu X=s)):=by
  unfold bG AM
  rw[hX,decide_eq_true hk];rfl
 refine⟨hr,fun a=> ?_,fun a=> ?_⟩
 ·have a:aS X=false:=by simpa using a
  rw[hB,a]
  exact⟨(fun h=>by cases h),fun _=>hN⟩
 ·have a:aS X=true:=by simpa using a
  have hs:=kW a
  refine⟨⟨hs.k,hs.U9⟩,fun b=> ?_,fun b=> ?_⟩
  ·have b:decide (cu X=s)=false:=by simpa using b
   rw[hB,a,b]
   exact⟨(fun h=>by cases h),fun _=>hN⟩
  ·have b:decide (cu X=s)=true:=by simpa using b
   rw[hB,a,b,hX]
   exact⟨fun _=>hV,fun h=>by cases h⟩
attribute [local irreducible] aj aa cV bE aE aD
theorem WH:({k:=0,p:=[],v:=[],r:=fun(i:Nat)=>[[],[],[],[],[],[],[],[],[],[],[],[],[],[],[],[]].getD i []}:Nd)=eN:=rfl
theorem Vu:(fun(i:Nat)=>[[],[],[],[],[],[],[],[],[],[],[],[],[],[],[],[]].getD i [])=(eN).r:=rfl
theorem Wx (s:List UInt8):({k:=1,p:=cV (aa (aj (aa s) 0)),v:=aa (aj (aa s) 1),r:=fun(i:Nat)=>[ay 0,ay 1,ay 2,ay 3,ay 4,ay 5,ay 6,ay 7,ay 8,ay 9,ay 10,ay 11,ay 12,ay 13,ay 14,ay 15].getD i []}:Nd)=lM s:=rfl
theorem Vd (s:List UInt8):(fun(i:Nat)=>[ay 0,ay 1,ay 2,ay 3,ay 4,ay 5,ay 6,ay 7,ay 8,ay 9,ay 10,ay 11,ay 12,ay 13,ay 14,ay 15].getD i [])=(lM s).r:=rfl
theorem WT (s:List UInt8):({k:=2,p:=cV (aa (aj (aa s) 0)),v:=[],r:=fun(i:Nat)=>[ak (aj (aa s) 1) 0,ak (aj (aa s) 1) 1,ak (aj (aa s) 1) 2,ak (aj (aa s) 1) 3,ak (aj (aa s) 1) 4,ak (aj (aa s) 1) 5,ak (aj (aa s) 1) 6,ak (aj (aa s) 1) 7,ak (aj (aa s) 1) 8,ak (aj (aa s) 1) 9,ak (aj (aa s) 1) 10,ak (aj (aa s) 1) 11,ak (aj (aa s) 1) 12,ak (aj (aa s) 1) 13,ak (aj (aa s) 1) 14,ak (aj (aa s) 1) 15].getD i []}:Nd)=qY s:=rfl
theorem Vl (s:List UInt8):(fun(i:Nat)=>[ak (aj (aa s) 1) 0,ak (aj (aa s) 1) 1,ak (aj (aa s) 1) 2,ak (aj (aa s) 1) 3,ak (aj (aa s) 1) 4,ak (aj (aa s) 1) 5,ak (aj (aa s) 1) 6,ak (aj (aa s) 1) 7,ak (aj (aa s) 1) 8,ak (aj (aa s) 1) 9,ak (aj (aa s) 1) 10,ak (aj (aa s) 1) 11,ak (aj (aa s) 1) 12,ak (aj (aa s) 1) 13,ak (aj (aa s) 1) 14,ak (aj (aa s) 1) 15].getD i [])=(qY s).r:=rfl
theorem lit_3 (s:List UInt8):({k:=3,p:=[],v:=aa (aj (aa s) 16),r:=fun(i:Nat)=>[aP (aD (aa s)) 0,aP (aD (aa s)) 1,aP (aD (aa s)) 2,aP (aD (aa s)) 3,aP (aD (aa s)) 4,aP (aD (aa s)) 5,aP (aD (aa s)) 6,aP (aD (aa s)) 7,aP (aD (aa s)) 8,aP (aD (aa s)) 9,aP (aD (aa s)) 10,aP (aD (aa s)) 11,aP (aD (aa s)) 12,aP (aD (aa s)) 13,aP (aD (aa s)) 14,aP (aD (aa s)) 15].getD i []}:Nd)=gx s:=rfl
theorem UL (s:List UInt8):(fun(i:Nat)=>[aP (aD (aa s)) 0,aP (aD (aa s)) 1,aP (aD (aa s)) 2,aP (aD (aa s)) 3,aP (aD (aa s)) 4,aP (aD (aa s)) 5,aP (aD (aa s)) 6,aP (aD (aa s)) 7,aP (aD (aa s)) 8,aP (aD (aa s)) 9,aP (aD (aa s)) 10,aP (aD (aa s)) 11,aP (aD (aa s)) 12,aP (aD (aa s)) 13,aP (aD (aa s)) 14,aP (aD (aa s)) 15].getD i [])=(gx s).r:=rfl
theorem PJ (s:List UInt8):aq s<=3:=by
 have hp:lW (aa s)<=3:=by
  unfold lW
  cases (cC (aj (aa s) 0)&&eC (aa (aj (aa s) 0)))<;>cases c8 (aa (aj (aa s) 0))<;>cases cC (aj (aa s) 1)<;>decide
 have hl:nS (aa s)<=3:=by
  unfold nS
  cases c9 (aa s)with
  | false=>show(-1:Int)<=3;decide
  | true =>
    simp only[cond_true]
    split
    ·exact hp
    ·split
     ·cases cC (aj (aa s) 16)<;>decide
     ·decide
 unfold aq
 split
 ·decide
 ·cases (bE s&&(cQ s&&decide (aE s=[])))with
  | false=>show(-1:Int)<=3;decide
  | true=>exact hl
theorem OM {s:List UInt8}(hk: ¬ 0<=aq s):bG s=false:=by
 unfold bG AM
 rw[decide_eq_false hk];rfl
theorem Du {L:Nat}{s:List UInt8}(hs:s.length<=L/\s.length<1099511627776)(hk:0<=aq s):l7 L (getD s).r:=by
 intro j _
 by_cases e:(getD s).r j=[]
 ·rw[e]
  have hp:0<s.length:=by
   cases s with
   | nil=>exact absurd hk Mb
   | cons a r=>simp
  exact⟨.inl (by simp;omega),by simp⟩
 ·have:=De hk j e
  exact⟨.inl (by omega),by omega⟩
section
variable {L : Nat} (hI : aB Tryz.prog 155 (cE (i6 L)))
include hI
theorem rz:aB Tryz.prog 127 (cE (oE L)):=by
 refine dA (n:=20) (fn:=Tryz.f127) Tryz.func127 (by kernel_rfl) (by kernel_rfl) ?_
 intro args p a h hp
 unfold oE at h
 split at h
 ·rename_i s
  injection h with h;injection h with h1 h2;subst h1;subst h2
  refine⟨NZ L,V0 hI,rfl,fun b=>by cases b<;>exact rfl,aA.of_eq (LB L s) ?_⟩
  have hp:s.length<=L/\s.length<1099511627776:=hp
  have hN:af (SV.aL [dg,.int .i64 true 2]) (.aL [dg,.int .i64 true 2]):=fun _=>rfl
  refine⟨hp.2,fun a=> ?_,fun a=>⟨fun b=> ?_,fun b=>⟨fun c=> ?_,fun c=>⟨fun d=> ?_,fun d=> ?_⟩⟩⟩⟩
  ·have a:aq s=0:=of_decide_eq_true a
   have hX:getD s=eN:=by unfold getD;rw[if_neg (by omega),if_neg (by omega),if_neg (by omega)]
   have hr:=Du hp (by omega:0<=aq s)
   rw[hX] at hr
   rw[WH,Vu]
   exact wO (L:=L) (X:=eN) hX (by omega) hr (V:=.aL [dg,.int .i64 true 0]) (fun _=>rfl) hN
  ·have b:aq s=1:=of_decide_eq_true b
   have hX:getD s=lM s:=by unfold getD;rw[if_pos b]
   have hr:=Du hp (by omega:0<=aq s)
   rw[hX] at hr
   rw[Wx s,Vd s]
   exact wO (L:=L) (X:=lM s) hX (by omega) hr (V:=.aL [(lM s).vB true 1,.int .i64 true 0]) (fun _=>rfl) hN
  ·have c:aq s=2:=of_decide_eq_true c
   have hX:getD s=qY s:=by unfold getD;rw[if_neg (by omega),if_pos c]
   have hr:=Du hp (by omega:0<=aq s)
   rw[hX] at hr
   rw[WT s,Vl s]
   exact wO (L:=L) (X:=qY s) hX (by omega) hr (V:=.aL [(qY s).vB true 2,.int .i64 true 0]) (fun _=>rfl) hN
  ·have d:aq s=3:=of_decide_eq_true d
   have hX:getD s=gx s:=by unfold getD;rw[if_neg (by omega),if_neg (by omega),if_pos d]
   have hr:=Du hp (by omega:0<=aq s)
   rw[hX] at hr
   rw[lit_3 s,UL s]
   exact wO (L:=L) (X:=gx s) hX (by omega) hr (V:=.aL [(gx s).vB true 3,.int .i64 true 0]) (fun _=>rfl) hN
  ·have a:=of_decide_eq_false a
   have b:=of_decide_eq_false b
   have c:=of_decide_eq_false c
   have d:=of_decide_eq_false d
   have hk: ¬ 0<=aq s:=fun h0=>by
    have:=PJ s
    omega
   exact fun x=>⟨(fun h=>by rw[OM hk] at h;cases h),fun _=>hN⟩
 ·cases h
theorem Md:aB Tryz.prog 155 (cE (i6 (L+1))):=by
 refine dA (n:=20) (fn:=Tryz.f155) Tryz.func155 (by kernel_rfl) (by kernel_rfl) ?_
 intro args p a h hp
 unfold i6 at h
 split at h
 ·rename_i t
  injection h with h;injection h with h1 h2;subst h1;subst h2
  refine⟨TZ L,.of bS (bl.cons (rz hI) (cj _) jP) bt,rfl,fun b=>by cases b<;>exact rfl,aA.of_eq (Qv L t) ?_⟩
  have hp:Rel (L+1) t:=hp
  have hN:af (SV.aL [dg,.bool true false]) (.aL [dg,.bool true false]):=fun _=>rfl
  refine⟨fun a=>⟨fun b=> ?_,fun _=>hN⟩,fun a=>⟨?_,fun b=>⟨fun c=>⟨fun d=> ?_,fun _=>hN⟩,fun c=>⟨fun d=>fun _=>rfl,fun d=> ?_⟩⟩,fun b=>⟨fun d=> ?_,fun _=>hN⟩⟩⟩
  ·have a:=of_decide_eq_true a
   have:=p4 b
   omega
  ·have a:=of_decide_eq_false a
   rcases hp.1 with h | h<;>omega
  ·rw[uK,c] at d
   simp at d
  ·have a:=of_decide_eq_false a
   rw[uK,b,c,decide_eq_true (show t.length<32 by omega)] at d
   simp at d
  ·rw[uK,b] at d
   simp at d
 ·cases h
end
theorem ND:aB Tryz.prog 155 (cE (i6 0)):=by
 refine dA (n:=20) (fn:=Tryz.f155) Tryz.func155 (by kernel_rfl) (by kernel_rfl) ?_
 intro args p a h hp
 unfold i6 at h
 split at h
 ·rename_i t
  injection h with h;injection h with h1 h2;subst h1;subst h2
  have hp:Rel 0 t:=hp
  have h32:32<=t.length:=by rcases hp.1 with h | h;exact absurd h (Nat.not_lt_zero _);exact h
  refine⟨NN,Up,rfl,fun b=>by cases b<;>exact rfl,aA.of_eq (LY t) ?_⟩
  have hN:af (SV.aL [dg,.bool true false]) (.aL [dg,.bool true false]):=fun _=>rfl
  refine⟨fun a=>⟨fun b=> ?_,fun _=>hN⟩,fun a=> ?_⟩
  ·have:=p4 b
   omega
  ·have a:=of_decide_eq_false a
   omega
 ·cases h
theorem gG: ∀ L,aB Tryz.prog 155 (cE (i6 L))
 | 0=>ND
 | L+1=>Md (gG L)
end Go.Proofs.YtoibaecagklkaaaGreatDoor
namespace Go.Proofs.YtoibaecagklkaaaGreatDoor.Sx
open Go
def Pm (k:Nat):SV->Option SV
 | .ptr j l o=>(match Nat.beq j k with
   | true=>some (.ptr 0 l o)
   | false=>none)
 | .slc j o n l c=>(match Nat.beq j k with
   | true=>some (.slc 0 o n l c)
   | false=>none)
 | .int a _ n=>some (.int a false n)
 | .bool _ b=>some (.bool false b)
 | .str _ s=>some (.str false s)
 | _=>none
def CF (k:Nat):List SV->Option (List SV)
 | []=>some []
 | v::r=>(match Pm k v,CF k r with
   | some x,some l=>some (x::l)
   | _,_=>none)
theorem MF {k:Nat}{E:Nat->Nat}{v u:SV}(h:Pm k v=some u):u.val (fun _=>E k)=v.val E/\u.wf 1=true:=by
 unfold Pm at h
 split at h<;>first
  | cases h;done
  | (injection h with h;subst h;exact⟨rfl,rfl⟩)
  | skip
 ·split at h
  ·rename_i e
   injection h with h;subst h
   have e:=Nat.eq_of_beq_eq_true e
   subst e
   exact⟨rfl,rfl⟩
  ·cases h
 ·split at h
  ·rename_i e
   injection h with h;subst h
   have e:=Nat.eq_of_beq_eq_true e
   subst e
   exact⟨rfl,rfl⟩
  ·cases h
theorem yu {k:Nat}{E:Nat->Nat}: ∀ {l r:List SV},CF k l=some r->SV.vals (fun _=>E k) r=SV.vals E l/\SV.ep 1 r=true
 | [],r,h=>by injection h with h;subst h;exact⟨rfl,rfl⟩
 | v::l,r,h=>by
   unfold CF at h
   split at h
   ·rename_i x l' hx hl
    injection h with h;subst h
    obtain⟨g1,g2⟩:=MF (E:=E) hx
    obtain⟨g3,g4⟩:=yu (E:=E) hl
    exact⟨by simp only[SV.vals,g1,g3],by simp only[SV.ep,g2,g4,Bool.and_self]⟩
   ·cases h
def QV:List SV->Option Nat
 | []=>none
 | .ptr j _ _::_=>some j
 | .slc j _ _ _ _::_=>some j
 | _::r=>QV r
def FZ (k:Nat):SV->SV
 | .ptr _ l o=>.ptr k l o
 | v=>v
def NQ:SV->Bool
 | .ptr j _ _=>Nat.beq j 0
 | v=>v.wf 0
theorem K7 {v:SV}(h:NQ v=true){k:Nat}{E E':Nat->Nat}(he:E' 0=E k):(FZ k v).val E=v.val E':=by
 cases v
 case ptr j l o =>
  have e:=Nat.eq_of_beq_eq_true h
  subst e
  simp only[FZ,SV.val,he]
 all_goals exact SV.sN (by exact h) _ _
noncomputable def nP {G H:Type}(sb:G->SB)(sp:List SV->Option (G->Prop×(H->Prop×SV×G))):PT:=fun args m nx K=>match QV args with
 | some k=>(match CF k args with
   | some l=>(match sp l with
     | some g=>(match m.get k with
       | some B=>.ex G fun x=>.and (.atom (ah B (sb x))) (.and (.atom (g x).1) (.all H fun y=>.imp ((g x).2 y).1 (K (FZ k ((g x).2 y).2.1) (m.put k (sb ((g x).2 y).2.2)) nx)))
       | none=>.fail "a call's block")
     | none=>.fail "a call's arguments")
   | none=>.fail "a call's arguments")
 | none=>.fail "a call's arguments"
theorem nv {G H:Type}(sb:G->SB)(sp:List SV->Option (G->Prop×(H->Prop×SV×G))):aR (nP sb sp):=by
 intro args m nx K K' hK h
 unfold nP at h ⊢
 split at h
 ·split at h
  ·split at h
   ·split at h
    ·obtain⟨x,h1,h2,h3⟩:=h
     exact⟨x,h1,h2,fun y hy=>hK _ _ _ (h3 y hy)⟩
    ·exact h.elim
   ·exact h.elim
  ·exact h.elim
 ·exact h.elim
def IG {G H:Type}(sb:G->SB)(g:H->Prop×SV×G)(v:SV)(m:Mem):VC:=match m.get 0 with
 | some X=>.ex H fun y=>.and (.atom (g y).1) (.and (WY X (sb (g y).2.2)) (XD v (g y).2.1))
 | none=>.fail "no block"
theorem Dg {P:Program}{f:FuncId}{fn:Func}(hf:P.funcs[f]?=some fn) (hn:(fn.name== "runtime.NumGoroutine")=false) (hb:fn.body.isSome=true) {n:Nat} {G H:Type} {sb:G->SB} {sp:List SV->Option (G->Prop×(H->Prop×SV×G))}
  (hsb: ∀ x,(sb x).wf 0=true/\(sb x).ro=false/\(sb x).no=false)
  (h: ∀ args g x,sp args=some g->(g x).1->∃ cfg args',Good P cfg/\(∀ E,SV.vals E args'=SV.vals E args)/\SV.ep 1 args'=true/\(∀ y,NQ ((g x).2 y).2.1=true) /\
    aA (dR P (calling P cfg n) [] vL (cfg.br f) cfg.rounds fn args' [(0,sb x)] 1 (fun v m _=>IG sb (g x).2 v m))):aB P f (nP sb sp):=by
 intro args m nx K hk hwf hargs Γ E w hs
 unfold nP at hk
 split at hk
 ·rename_i k hkey
  split at hk
  ·rename_i l hl
   split at hk
   ·rename_i g hg
    split at hk
    ·rename_i B hB
     obtain⟨x,h1,h2,h3⟩:=hk
     have h1:ah B (sb x):=h1
     obtain⟨cfg,args',c1,c2,c3,c4,c5⟩:=h _ _ x hg h2
     obtain⟨s1,s2,s3⟩:=hsb x
     have hone:=hs.one hB h1 s3 s2 s1
     have hc:=de c1 hf hn hb c5 (by simp only[Mem.wf,Bool.and_true];exact SB.eV (Nat.zero_le _) s1) c3 hone
     rw[c2,(yu (E:=E) hl).1] at hc
     refine dZ hf hn hb (hc.mono ?_)
     rintro e w' ⟨v,rfl,E1,u,m1,nx1,g1,g2,g3,g4,g5⟩
     refine⟨v,rfl,?_⟩
     cases u with
     | none=>exact g5.elim
     | some u =>
       simp only[lift,IG] at g5
       split at g5
       ·rename_i X hX
        obtain⟨y,y1,y2,y3⟩:=g5
        have y2:ah X (sb ((g x).2 y).2.2):=y2
        have y3:af u ((g x).2 y).2.1:=y3
        obtain⟨t1,t2,t3⟩:=hsb ((g x).2 y).2.2
        have hsw:=g4.swap hX y2
        have hE0:E1 0=E k:=g1 0 (by omega)
        have hfr:=hs.frame hB (h1.old s3).1 ((h1.old s3).2.2 s2) hsw hE0 (Mem.qc hX) t3 t2 t1
        refine⟨E,some (FZ k ((g x).2 y).2.1),_,nx,fun _ _=>rfl,Nat.le_refl _,fun z hz=> ?_,hfr,h3 y y1⟩
        injection hz with hz;subst hz
        rw[g3 u rfl,y3 E1]
        exact(K7 (c4 y) hE0).symm
       ·exact g5.elim
    ·exact hk.elim
   ·exact hk.elim
  ·exact hk.elim
 ·exact hk.elim
end Go.Proofs.YtoibaecagklkaaaGreatDoor.Sx
namespace Go.Proofs.YtoibaecagklkaaaGreatDoor
open Go Sx
set_option maxRecDepth 20000
def Oi (a b c:Int):Int:=bitsOf .xor (bitsOf .xor a b) c
def cY (x n:Int):Int:=bitsOf .or (x*(2^ (32 - n).toNat:Nat)% 4294967296) (x / (2^ n.toNat:Nat))
def Xk (a:Int):Int:=Oi (cY a 2) (cY a 13) (cY a 22)
def W8 (e:Int):Int:=Oi (cY e 6) (cY e 11) (cY e 25)
def Xq (x:Int):Int:=Oi (cY x 7) (cY x 18) (x / 8)
def Xt (y:Int):Int:=Oi (cY y 17) (cY y 19) (y / 1024)
def XR (e f g:Int):Int:=bitsOf .xor (bitsOf .and e f) (bitsOf .and (bitsOf .xor 4294967295 e) g)
def Xx (a b c:Int):Int:=Oi (bitsOf .and a b) (bitsOf .and a c) (bitsOf .and b c)
def Jv:List Int:=[1116352408,1899447441,3049323471,3921009573,961987163,1508970993,2453635748,2870763221,3624381080,310598401,607225278,1426881987,1925078388,2162078206,2614888103,3248222580,3835390401,4022224774,264347078,604807628,770255983,1249150122,1555081692,1996064986,2554220882,2821834349,2952996808,3210313671,3336571891,3584528711,113926993,338241895,666307205,773529912,1294757372,1396182291,1695183700,1986661051,2177026350,2456956037,2730485921,2820302411,3259730800,3345764771,3516065817,3600352804,4094571909,275423344,430227734,506948616,659060556,883997877,958139571,1322822218,1537002063,1747873779,1955562222,2024104815,2227730452,2361852424,2428436474,2756734187,3204031479,3329325298]
def Qy (i:Nat):Int:=An Jv i
def OW (b:Nat->Int)(j:Nat):Int:=bitsOf .or (bitsOf .or (bitsOf .or (b (4*j)*16777216% 4294967296) (b (4*j+1)*65536% 4294967296)) (b (4*j+2)*256% 4294967296)) (b (4*j+3))
def TY (a b c d:Int):Int:=(((a+Xq b)% 4294967296+c)% 4294967296+Xt d)% 4294967296
def wL (b:Nat->Int):Nat->Nat->Int
 | 0=>fun j=>if j<16 then OW b j else 0
 | n+1=>fun j=>if j=16+n then TY (wL b n (16+n - 16)) (wL b n (16+n - 15)) (wL b n (16+n - 7)) (wL b n (16+n - 2))else wL b n j
def TO (v:Nat->Int)(k w:Int):Int:=((((v 7+W8 (v 4))% 4294967296+XR (v 4) (v 5) (v 6))% 4294967296+k)% 4294967296+w)% 4294967296
def WZ (v:Nat->Int):Int:=(Xk (v 0)+Xx (v 0) (v 1) (v 2))% 4294967296
def uG (v:Nat->Int)(k w:Int)(j:Nat):Int:=match j with
 | 0=>(TO v k w+WZ v)% 4294967296
 | 1=>v 0
 | 2=>v 1
 | 3=>v 2
 | 4=>(v 3+TO v k w)% 4294967296
 | 5=>v 4
 | 6=>v 5
 | 7=>v 6
 | _=>0
def cH (W B:Nat->Int):Nat->Nat->Int
 | 0=>W
 | i+1=>uG (cH W B i) (Qy i) (wL B 48 i)
def jF (W B:Nat->Int)(j:Nat):Int:=(W j+cH W B 64 j)% 4294967296
structure Sh where
 W:Nat->Int
 B:Nat->Int
 held:Int
 size:Int
def Sh.cs (x:Sh):List SV:=[.int .u32 false (x.W 0),.int .u32 false (x.W 1),.int .u32 false (x.W 2),.int .u32 false (x.W 3),.int .u32 false (x.W 4),.int .u32 false (x.W 5),.int .u32 false (x.W 6),.int .u32 false (x.W 7),.int .u8 false (x.B 0),.int .u8 false (x.B 1),.int .u8 false (x.B 2),.int .u8 false (x.B 3),.int .u8 false (x.B 4),.int .u8 false (x.B 5),.int .u8 false (x.B 6),.int .u8 false (x.B 7),.int .u8 false (x.B 8),.int .u8 false (x.B 9),.int .u8 false (x.B 10),.int .u8 false (x.B 11),.int .u8 false (x.B 12),.int .u8 false (x.B 13),.int .u8 false (x.B 14),.int .u8 false (x.B 15),.int .u8 false (x.B 16),.int .u8 false (x.B 17),.int .u8 false (x.B 18),.int .u8 false (x.B 19),.int .u8 false (x.B 20),.int .u8 false (x.B 21),.int .u8 false (x.B 22),.int .u8 false (x.B 23),.int .u8 false (x.B 24),.int .u8 false (x.B 25),.int .u8 false (x.B 26),.int .u8 false (x.B 27),.int .u8 false (x.B 28),.int .u8 false (x.B 29),.int .u8 false (x.B 30),.int .u8 false (x.B 31),.int .u8 false (x.B 32),.int .u8 false (x.B 33),.int .u8 false (x.B 34),.int .u8 false (x.B 35),.int .u8 false (x.B 36),.int .u8 false (x.B 37),.int .u8 false (x.B 38),.int .u8 false (x.B 39),.int .u8 false (x.B 40),.int .u8 false (x.B 41),.int .u8 false (x.B 42),.int .u8 false (x.B 43),.int .u8 false (x.B 44),.int .u8 false (x.B 45),.int .u8 false (x.B 46),.int .u8 false (x.B 47),.int .u8 false (x.B 48),.int .u8 false (x.B 49),.int .u8 false (x.B 50),.int .u8 false (x.B 51),.int .u8 false (x.B 52),.int .u8 false (x.B 53),.int .u8 false (x.B 54),.int .u8 false (x.B 55),.int .u8 false (x.B 56),.int .u8 false (x.B 57),.int .u8 false (x.B 58),.int .u8 false (x.B 59),.int .u8 false (x.B 60),.int .u8 false (x.B 61),.int .u8 false (x.B 62),.int .u8 false (x.B 63),.int .i64 false x.held,.int .u64 false x.size]
def Sh.sb (x:Sh):SB:=.cells x.cs 74 171
structure Sh.Ok (x:Sh):Prop where
 w: ∀ j,j<8->0<=x.W j/\x.W j<=4294967295
 b: ∀ j,j<64->0<=x.B j/\x.B j<=255
def Vn (n:Int):Bool:=decide (n=2)||(decide (n=6)||(decide (n=7)||(decide (n=11)||(decide (n=13)||(decide (n=17)||(decide (n=18)||(decide (n=19)||(decide (n=22)||decide (n=25)))))))))
def vg:List SV->Option (Prop×SV)
 | [.int .u32 false x,.int .i64 false n]=>(match Vn n with
   | true=>some (0<=x/\x<=4294967295,.int .u32 false (cY x n))
   | false=>none)
 | _=>none
noncomputable def Mh (b:Nat->Int):bC :=
 {α:=Nat,pre:=fun _ n=>n<=48,nY:=fun _ n=>48 - n,fresh:=0,slots:=fun _ n=>[(6,.int .i64 false (16+(n:Int)))],
  mem:=fun _ n=>[(2,.rows false 64 [.int .u32 (wL b n)] false 64 234)]}
noncomputable def K4 (W B:Nat->Int):bC :=
 {α:=Nat,pre:=fun _ i=>i<=64,nY:=fun _ i=>64 - i,fresh:=0,slots:=fun _ i=>[(18,.int .i64 false i)],
  mem:=fun _ i=>[(1,.rows false 64 [.int .u32 (wL B 48)] false 64 234),(2,.cells [.int .u32 false (cH W B i 0),.int .u32 false (cH W B i 1),.int .u32 false (cH W B i 2),.int .u32 false (cH W B i 3),.int .u32 false (cH W B i 4),.int .u32 false (cH W B i 5),.int .u32 false (cH W B i 6),.int .u32 false (cH W B i 7)] 8 168)]}
noncomputable def Ux (W B:Nat->Int):bC :=
 {α:=Nat,pre:=fun st i=>slot st.tmps 18=some (.int .i64 false (i:Int)),nY:=fun _ _=>0,fresh:=0,slots:=fun _ i=>[(9,.int .u32 false (TO (cH W B i) (Qy i) (wL B 48 i)))],mem:=fun _ _=>[]}
noncomputable def Uw (W B:Nat->Int):bC :=
 {α:=Nat,pre:=fun st i=>slot st.tmps 18=some (.int .i64 false (i:Int)),nY:=fun _ _=>0,fresh:=0,slots:=fun _ i=>[(10,.int .u32 false (WZ (cH W B i)))],mem:=fun _ _=>[]}
noncomputable def Hu:List (FuncId×PT):=(149,aU vg)::e8
noncomputable def Ju (b:Nat->Int):ff:={cg with cI:=fun f=>aG f Hu,br:=fun f=>if f=148 then [(9,always (Mh b))] else []}
def tw (b:Nat->Int):SV:=.agg [.int .u32 false (wL b 48 0),.int .u32 false (wL b 48 1),.int .u32 false (wL b 48 2),.int .u32 false (wL b 48 3),.int .u32 false (wL b 48 4),.int .u32 false (wL b 48 5),.int .u32 false (wL b 48 6),.int .u32 false (wL b 48 7),.int .u32 false (wL b 48 8),.int .u32 false (wL b 48 9),.int .u32 false (wL b 48 10),.int .u32 false (wL b 48 11),.int .u32 false (wL b 48 12),.int .u32 false (wL b 48 13),.int .u32 false (wL b 48 14),.int .u32 false (wL b 48 15),.int .u32 false (wL b 48 16),.int .u32 false (wL b 48 17),.int .u32 false (wL b 48 18),.int .u32 false (wL b 48 19),.int .u32 false (wL b 48 20),.int .u32 false (wL b 48 21),.int .u32 false (wL b 48 22),.int .u32 false (wL b 48 23),.int .u32 false (wL b 48 24),.int .u32 false (wL b 48 25),.int .u32 false (wL b 48 26),.int .u32 false (wL b 48 27),.int .u32 false (wL b 48 28),.int .u32 false (wL b 48 29),.int .u32 false (wL b 48 30),.int .u32 false (wL b 48 31),.int .u32 false (wL b 48 32),.int .u32 false (wL b 48 33),.int .u32 false (wL b 48 34),.int .u32 false (wL b 48 35),.int .u32 false (wL b 48 36),.int .u32 false (wL b 48 37),.int .u32 false (wL b 48 38),.int .u32 false (wL b 48 39),.int .u32 false (wL b 48 40),.int .u32 false (wL b 48 41),.int .u32 false (wL b 48 42),.int .u32 false (wL b 48 43),.int .u32 false (wL b 48 44),.int .u32 false (wL b 48 45),.int .u32 false (wL b 48 46),.int .u32 false (wL b 48 47),.int .u32 false (wL b 48 48),.int .u32 false (wL b 48 49),.int .u32 false (wL b 48 50),.int .u32 false (wL b 48 51),.int .u32 false (wL b 48 52),.int .u32 false (wL b 48 53),.int .u32 false (wL b 48 54),.int .u32 false (wL b 48 55),.int .u32 false (wL b 48 56),.int .u32 false (wL b 48 57),.int .u32 false (wL b 48 58),.int .u32 false (wL b 48 59),.int .u32 false (wL b 48 60),.int .u32 false (wL b 48 61),.int .u32 false (wL b 48 62),.int .u32 false (wL b 48 63)]
def q7:List SV->Option (Sh->Prop×(Unit->Prop×SV×Sh))
 | [.slc 0 8 64 _ 64]=>some fun x=>(x.Ok,fun _=>(True,tw x.B,x))
 | _=>none
noncomputable def Qk:List (FuncId×PT):=(148,nP Sh.sb q7)::Hu
noncomputable def Dc (W B:Nat->Int):ff:={cg with cI:=fun f=>aG f Qk,br:=fun f=>if f=97 then [(3,always (K4 W B)),(1006,always (Ux W B)),(1007,always (Uw W B))] else []}
def Dn:List SV->Option (Sh->Prop×(Unit->Prop×SV×Sh))
 | [.ptr 0 true 0,.slc 0 8 64 _ 64]=>some fun x=>(x.Ok,fun _=>(True,.aL [],{x with W:=jF x.W x.B}))
 | _=>none
noncomputable def n8 {G H:Type}(cfg:ff)(f:Nat)(fn:Func)(args:List SV)(sb:G->SB)(x:G)(g:H->Prop×SV×G):VC:=dR Tryz.prog (calling Tryz.prog cfg 20) [] vL (cfg.br f) cfg.rounds fn args [(0,sb x)] 1 (fun v m _=>IG sb g v m)
end Go.Proofs.YtoibaecagklkaaaGreatDoor
