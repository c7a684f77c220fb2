/-
  Node: plain laws: a node's bytes tell the node.
-/
import Derived.Test.YtpaaiebohjjieaaGreatDoorMp
import Derived.Test.YtpaaiebohjjieaaGreatDoorMi
import Derived.Test.YtpaaiebohjjieaaGreatDoorMj
import Derived.Test.YtpaaiebohjjieaaGreatDoorMn
import Derived.Test.YtpaaiebohjjieaaGreatDoorMk
import Derived.Test.YtpaaiebohjjieaaGreatDoorMm
import Derived.Test.YtpaaiebohjjieaaGreatDoorMl
import Derived.Test.YtpaaiebohjjieaaGreatDoorMo
namespace Go.Proofs.YtpaaiebohjjieaaGreatDoor
open Go Sx
set_option maxRecDepth 20000
theorem oL {b:List UInt8}(hb:b.length<=1048576):cA (aB b)=true/\dD (aB b)=false/\aa (aB b)=b/\aC (aB b)=[]:=by
 have:=yM hb []
 rwa [List.append_nil] at this
theorem vQ {b:List UInt8}(hb:b.length<=1048576):fy (aB b)=true:=by obtain⟨h1,h2,_,h4⟩:=oL hb;exact zD.2 ⟨h1,h2,h4⟩
theorem Je {l:List (List UInt8)}(hl:(flat l).length<=1048576):cA (ee l)=true/\dD (ee l)=true/\aa (ee l)=flat l/\aC (ee l)=[]:=by
 have:=SO hl []
 rwa [List.append_nil] at this
theorem akC {l:List (List UInt8)}(hl:(flat l).length<=1048576):ee l≠[128]:=fun h=>by have h1:=(Je hl).2.1;rw[h] at h1;exact absurd h1 (by decide)
theorem Bq {l:List (List UInt8)}(hl:(flat l).length<=1048576)(hw: ∀ x∈ l,cA x=true/\aC x=[]) :
  aY (ee l)=wz (flat l)/\aa (ee l)=flat l/\dU (flat l)=true/\aH (flat l)=l.length/\∀(j:Nat) (x:List UInt8),l[j]?=some x->aj (flat l) j=x:=by
 obtain⟨h1,h2,h3,h4⟩:=Je hl;obtain⟨i1,i2,i3⟩:=Ba l hw;refine⟨?_,h3,i1,i2,i3⟩;rw[aY,if_neg (akC hl),h1,h2,h4,h3];rfl
theorem Dk {t:List UInt8}(h:mu cG t=true):cA t=true/\aC t=[]/\t≠[128]/\t≠[]:=by
 have hn: ∀ {t:List UInt8},cA t=true->t≠[]:=fun h e=>by rw[e] at h;exact absurd h (by decide)
 simp only[mu,Bool.or_eq_true] at h;rcases h with h | h
 ·obtain⟨⟨h1,_,h3⟩,h4⟩:=xC.1 h;exact⟨h1,h3,fun e=>by have:=xD h;rw[e] at this;simp at this,hn h1⟩
 ·obtain⟨h1,h2,h3⟩:=Ei h;have hs:1<=aY t:=by
   by_cases e:aY t=0
   ·exact absurd (by unfold getD;rw[if_neg (by omega),if_neg (by omega),if_neg (by omega)];rfl) h3
   ·omega
  obtain⟨g1,_,g3,_⟩:=K2 hs;exact⟨g1,g3,fun e=>by rw[e] at hs;exact absurd hs (by decide),hn g1⟩
def Rp (s:List UInt8)(x:Nd):Prop:=0<=aY s/\(getD s).OO x
theorem rG (j:Nat)(hj:j<16):bg j=[]:=gT (fun _=>[]) j hj
theorem Tx {x:Nd}{l:Int}(h:lJ x l=true):oB x.p=true:=by simp only[lJ,Bool.and_eq_true] at h;exact h.2
theorem Tv {x:Nd}(h:oB x.p=true)(leaf:Bool):dy x leaf=iE x.p leaf:=by rw[dy,h];rfl
theorem ajm:cA [128]=true/\aC [128]=[]:=by have:=oL (b:=[]) (by decide);exact⟨this.1,this.2.2.2⟩
attribute [local irreducible] aj aa cA aC dD aH dU fy nu fH gP iE aB cP
theorem XU {x:Nd}(hk:x.k=1)(h:pn x=true):Rp (n8 x) x:=by
 have hnib:oB x.p=true:=by simp only[pn,Bool.and_eq_true] at h;exact Tx h.1
 obtain⟨h1,_,h3,h4⟩:=Bn h;have l1:=uv (x:=x) (leaf:=true);have l2:=nX (dy x true);have l3:=nX x.v;have l4:=tT (a:=aB (dy x true)) (b:=aB x.v);obtain⟨a1,a2,a3,a4⟩:=oL (b:=dy x true) (by omega);obtain⟨b1,b2,b3,b4⟩:=oL (b:=x.v) (by omega);obtain⟨s1,s2,s3,s4,s5⟩:=Bq (l:=[aB (dy x true),aB x.v]) (by omega) (fun y hy=>by
  simp only[List.mem_cons,List.not_mem_nil,or_false] at hy;rcases hy with rfl | rfl
  ·exact⟨a1,a4⟩
  ·exact⟨b1,b4⟩)
 have i0:=s5 0 _ rfl;have i1:=s5 1 _ rfl;obtain⟨n1,n2,n3⟩:=Nl hnib true;have p0:fy (aj (flat [aB (dy x true),aB x.v]) 0)=true:=by rw[i0];exact vQ (by omega)
 have p1:fy (aj (flat [aB (dy x true),aB x.v]) 1)=true:=by rw[i1];exact vQ (by omega)
 have c0:aa (aj (flat [aB (dy x true),aB x.v]) 0)=iE x.p true:=by rw[i0,a3,Tv hnib]
 have hs:aY (n8 x)=1:=by rw[n8,s1,wz,s3,s4];show uu _=1;rw[uu,p0,c0,n1,n2,p1];rfl
 refine⟨by rw[hs];decide,?_⟩;have e:getD (n8 x)=tA (n8 x):=by unfold getD;rw[if_pos hs]
 rw[e];unfold tA n8;rw[s2];refine⟨hk.symm,?_,?_,fun j hj=> ?_⟩
 ·show gP (aa (aj (flat [aB (dy x true),aB x.v]) 0))=x.p;rw[c0,n3]
 ·show aa (aj (flat [aB (dy x true),aB x.v]) 1)=x.v;rw[i1,b3]
 ·rw[h4 j hj];exact rG j hj
theorem acT {x:Nd}(hk:x.k=2)(h:tj cG x=true):Rp (wX x) x:=by
 have hnib:oB x.p=true:=by simp only[tj,Bool.and_eq_true] at h;exact Tx h.1
 obtain⟨h1,h2,h3,_,h4⟩:=Eb h;have hm:mu cG (x.r 0)=true:=by simp only[mu,Bool.or_eq_true];exact h4.imp id fun h=>h.1
 obtain⟨r1,r2,_,_⟩:=Dk hm;have rl:=zw hm;have l1:=uv (x:=x) (leaf:=false);have l2:=nX (dy x false);have l4:=tT (a:=aB (dy x false)) (b:=x.r 0);obtain⟨a1,a2,a3,a4⟩:=oL (b:=dy x false) (by omega);obtain⟨s1,s2,s3,s4,s5⟩:=Bq (l:=[aB (dy x false),x.r 0]) (by omega) (fun y hy=>by
  simp only[List.mem_cons,List.not_mem_nil,or_false] at hy;rcases hy with rfl | rfl
  ·exact⟨a1,a4⟩
  ·exact⟨r1,r2⟩)
 have i0:=s5 0 _ rfl;have i1:=s5 1 _ rfl;obtain⟨n1,n2,n3⟩:=Nl hnib false;have p0:fy (aj (flat [aB (dy x false),x.r 0]) 0)=true:=by rw[i0];exact vQ (by omega)
 have c0:aa (aj (flat [aB (dy x false),x.r 0]) 0)=iE x.p false:=by rw[i0,a3,Tv hnib]
 have hs:aY (wX x)=2:=by rw[wX,s1,wz,s3,s4];show uu _=2;rw[uu,p0,c0,n1,n2];rfl
 refine⟨by rw[hs];decide,?_⟩;have e:getD (wX x)=AN (wX x):=by unfold getD;rw[if_neg (by omega),if_pos hs]
 rw[e];unfold AN wX;rw[s2];refine⟨hk.symm,?_,h2.symm,fun j hj=> ?_⟩
 ·show gP (aa (aj (flat [aB (dy x false),x.r 0]) 0))=x.p;rw[c0,n3]
 ·show bM (aj (flat [aB (dy x false),x.r 0]) 1) j=x.r j;rw[i1];have:bM (x.r 0) j=(fun i=>if i=0 then x.r 0 else []) j:=gT (fun i=>if i=0 then x.r 0 else []) j hj
  rw[this];show(if j=0 then x.r 0 else [])=x.r j
  by_cases e:j=0
  ·subst e;rfl
  ·rw[if_neg e,h3 j (by omega) hj]
def Ro (x:Nd):List (List UInt8):=[bY x.r 16 0,bY x.r 16 1,bY x.r 16 2,bY x.r 16 3,bY x.r 16 4,bY x.r 16 5,bY x.r 16 6,bY x.r 16 7,bY x.r 16 8,bY x.r 16 9,bY x.r 16 10,bY x.r 16 11,bY x.r 16 12,bY x.r 16 13,bY x.r 16 14,bY x.r 16 15,aB x.v]
theorem ajZ (x:Nd)(j:Nat)(hj:j<16):(Ro x)[j]?=some (bY x.r 16 j):=by
 have:j=0∨j=1∨j=2∨j=3∨j=4∨j=5∨j=6∨j=7∨j=8∨j=9∨j=10∨j=11∨j=12∨j=13∨j=14∨j=15:=by omega
 rcases this with rfl | rfl | rfl | rfl | rfl | rfl | rfl | rfl | rfl | rfl | rfl | rfl | rfl | rfl | rfl | rfl<;>rfl
theorem aj0 {x:Nd}{y:List UInt8}(h:y∈ Ro x):(∃ j,j<16/\y=bY x.r 16 j)∨y=aB x.v:=by
 simp only[Ro,List.mem_cons,List.not_mem_nil,or_false] at h;rcases h with h | h | h | h | h | h | h | h | h | h | h | h | h | h | h | h | h
 ·exact .inl ⟨0,by decide,h⟩
 ·exact .inl ⟨1,by decide,h⟩
 ·exact .inl ⟨2,by decide,h⟩
 ·exact .inl ⟨3,by decide,h⟩
 ·exact .inl ⟨4,by decide,h⟩
 ·exact .inl ⟨5,by decide,h⟩
 ·exact .inl ⟨6,by decide,h⟩
 ·exact .inl ⟨7,by decide,h⟩
 ·exact .inl ⟨8,by decide,h⟩
 ·exact .inl ⟨9,by decide,h⟩
 ·exact .inl ⟨10,by decide,h⟩
 ·exact .inl ⟨11,by decide,h⟩
 ·exact .inl ⟨12,by decide,h⟩
 ·exact .inl ⟨13,by decide,h⟩
 ·exact .inl ⟨14,by decide,h⟩
 ·exact .inl ⟨15,by decide,h⟩
 ·exact .inr h
theorem DZ (r:Nat->List UInt8)(j:Nat)(hj:j<16):(r j=[]/\bY r 16 j=[128])∨(r j≠[]/\bY r 16 j=r j):=by
 unfold bY;rw[if_pos hj];by_cases e:r j=[]
 ·exact .inl ⟨e,by rw[if_pos e]⟩
 ·exact .inr ⟨e,by rw[if_neg e]⟩
theorem Yp {x:Nd}(h:fe cG x=true):(flat (Ro x)).length<=617:=by
 obtain⟨_,h2,h3,_⟩:=vi h;have hb: ∀ j,j<16->(bY x.r 16 j).length<=33:=fun j hj=>by
  rcases DZ x.r j hj with ⟨_,e⟩ | ⟨e0,e⟩
  ·rw[e];decide
  ·rw[e];rcases xP h3 hj with h | h
   ·exact absurd h e0
   ·exact zw h
 have e:flat (Ro x)=flat [bY x.r 16 0,bY x.r 16 1,bY x.r 16 2,bY x.r 16 3,bY x.r 16 4,bY x.r 16 5,bY x.r 16 6,bY x.r 16 7,bY x.r 16 8,bY x.r 16 9,bY x.r 16 10,bY x.r 16 11,bY x.r 16 12,bY x.r 16 13,bY x.r 16 14,bY x.r 16 15]++aB x.v:=by show flat ([bY x.r 16 0,bY x.r 16 1,bY x.r 16 2,bY x.r 16 3,bY x.r 16 4,bY x.r 16 5,bY x.r 16 6,bY x.r 16 7,bY x.r 16 8,bY x.r 16 9,bY x.r 16 10,bY x.r 16 11,bY x.r 16 12,bY x.r 16 13,bY x.r 16 14,bY x.r 16 15]++[aB x.v])=_;simp only[flat,List.flatten_append,List.flatten_cons,List.flatten_nil,List.append_nil]
 have h6:(flat [bY x.r 16 0,bY x.r 16 1,bY x.r 16 2,bY x.r 16 3,bY x.r 16 4,bY x.r 16 5,bY x.r 16 6,bY x.r 16 7,bY x.r 16 8,bY x.r 16 9,bY x.r 16 10,bY x.r 16 11,bY x.r 16 12,bY x.r 16 13,bY x.r 16 14,bY x.r 16 15]).length<=16*33:=by
  refine YO (m:=33) fun y hy=> ?_;simp only[List.mem_cons,List.not_mem_nil,or_false] at hy;rcases hy with rfl | rfl | rfl | rfl | rfl | rfl | rfl | rfl | rfl | rfl | rfl | rfl | rfl | rfl | rfl | rfl
  ·exact hb 0 (by decide)
  ·exact hb 1 (by decide)
  ·exact hb 2 (by decide)
  ·exact hb 3 (by decide)
  ·exact hb 4 (by decide)
  ·exact hb 5 (by decide)
  ·exact hb 6 (by decide)
  ·exact hb 7 (by decide)
  ·exact hb 8 (by decide)
  ·exact hb 9 (by decide)
  ·exact hb 10 (by decide)
  ·exact hb 11 (by decide)
  ·exact hb 12 (by decide)
  ·exact hb 13 (by decide)
  ·exact hb 14 (by decide)
  ·exact hb 15 (by decide)
 have h7:=nX x.v;rw[e,List.length_append];omega
theorem Rb {x:Nd}(hk:x.k=3)(h:fe cG x=true):Rp (iI x) x:=by
 obtain⟨h1,h2,h3,_⟩:=vi h;have hl:=Yp h;have hT:iI x=ee (Ro x):=rfl;obtain⟨b1,b2,b3,b4⟩:=oL (b:=x.v) (by omega);have hw: ∀ y∈ Ro x,cA y=true/\aC y=[]:=fun y hy=>by
  rcases aj0 hy with ⟨j,hj,rfl⟩ | rfl
  ·rcases DZ x.r j hj with ⟨_,e⟩ | ⟨e0,e⟩
   ·rw[e];exact ajm
   ·rw[e];rcases xP h3 hj with g | g
    ·exact absurd g e0
    ·exact⟨(Dk g).1,(Dk g).2.1⟩
  ·exact⟨b1,b4⟩
 obtain⟨s1,s2,s3,s4,s5⟩:=Bq (l:=Ro x) (by omega) hw;have i16:aj (flat (Ro x)) 16=aB x.v:=s5 16 _ rfl;have p16:fy (aj (flat (Ro x)) 16)=true:=by rw[i16];exact vQ (by omega)
 have hs:aY (iI x)=3:=by
  rw[hT,s1,wz,s3,s4];show(bif fy (aj (flat (Ro x)) 16)then(3:Int)else -1)=3
  rw[p16];rfl
 refine⟨by rw[hs];decide,?_⟩;have e:getD (iI x)=lW (iI x):=by unfold getD;rw[if_neg (by omega),if_neg (by omega),if_pos hs]
 rw[e];unfold lW;rw[hT,s2];refine⟨hk.symm,h1.symm,?_,fun j hj=> ?_⟩
 ·show aa (aj (flat (Ro x)) 16)=x.v;rw[i16,b3]
 ·show fu (dB (flat (Ro x))) j=x.r j;have e1:fu (dB (flat (Ro x))) j=dB (flat (Ro x)) j:=gT _ j hj;rw[e1,dB,s5 j _ (ajZ x j hj)];rcases DZ x.r j hj with ⟨e0,e⟩ | ⟨e0,e⟩
  ·rw[e,if_pos rfl,e0]
  ·rw[e];rcases xP h3 hj with g | g
   ·exact absurd g e0
   ·rw[if_neg (Dk g).2.2.1]
theorem XV {x:Nd}(h:wA x=true):Rp [128] x:=by
 obtain⟨h0,h1,h2,h3⟩:=Jx h;have hs:aY [128]=0:=by decide
 refine⟨by rw[hs];decide,?_⟩;have e:getD [128]=gV:=by unfold getD;rw[if_neg (by omega),if_neg (by omega),if_neg (by omega)]
 rw[e];exact⟨h0.symm,h1.symm,h2.symm,fun j hj=>by rw[h3 j hj];exact rG j hj⟩
theorem xX {x:Nd}:(x.k=0->dQ x=[128])/\(x.k=1->dQ x=n8 x)/\(x.k=2->dQ x=wX x)/\(x.k=3->dQ x=iI x):=by unfold dQ;refine⟨fun h=>by rw[if_pos h],fun h=>by rw[if_neg (by omega),if_pos h],fun h=>by rw[if_neg (by omega),if_neg (by omega),if_pos h],fun h=>by rw[if_neg (by omega),if_neg (by omega),if_neg (by omega)]⟩
theorem acU {x:Nd}(h:bB x=true):Rp (dQ x) x:=by
 rcases tc h with ⟨hk,h⟩ | ⟨hk,h⟩ | ⟨hk,h⟩ | ⟨hk,h⟩
 ·rw[xX.1 hk];exact XV h
 ·rw[xX.2.1 hk];exact XU hk h
 ·rw[xX.2.2.1 hk];exact acT hk h
 ·rw[xX.2.2.2 hk];exact Rb hk h
theorem kT {x:Nd}(h:bB x=true):ey (dQ x)=true/\(getD (dQ x)).OO x:=by
 obtain⟨h1,h2⟩:=acU h;refine⟨?_,h2⟩;unfold ey Lw;rw[decide_eq_true h1,show mB cG (getD (dQ x))=true from(Fo h2).trans h,Zg h2]
 simp
theorem Zh {x:Nd}(h:bB x=true):1<=(dQ x).length/\(dQ x).length<=700:=by
 have hp: ∀ l:List (List UInt8),1<=(ee l).length/\(ee l).length<=(flat l).length+9:=fun l=>by have h1:=IJ 192 (flat l).length;have h2:=xG 192 (flat l).length;unfold ee;rw[List.length_append];omega
 rcases tc h with ⟨hk,h⟩ | ⟨hk,h⟩ | ⟨hk,h⟩ | ⟨hk,h⟩
 ·rw[xX.1 hk];decide
 ·rw[xX.2.1 hk];obtain⟨h1,_,h3,_⟩:=Bn h;have l1:=uv (x:=x) (leaf:=true);have l2:=nX (dy x true);have l3:=nX x.v;have l4:=tT (a:=aB (dy x true)) (b:=aB x.v);have:=hp [aB (dy x true),aB x.v];unfold n8;omega
 ·rw[xX.2.2.1 hk];obtain⟨h1,h2,h3,_,h4⟩:=Eb h;have hm:mu cG (x.r 0)=true:=by simp only[mu,Bool.or_eq_true];exact h4.imp id fun h=>h.1
  have rl:=zw hm;have l1:=uv (x:=x) (leaf:=false);have l2:=nX (dy x false);have l4:=tT (a:=aB (dy x false)) (b:=x.r 0);have:=hp [aB (dy x false),x.r 0];unfold wX;omega
 ·rw[xX.2.2.2 hk];have hl:=Yp h;have:=hp (Ro x);show 1<=(ee (Ro x)).length/\(ee (Ro x)).length<=700;omega
end Go.Proofs.YtpaaiebohjjieaaGreatDoor
namespace Go.Proofs.YtpaaiebohjjieaaGreatDoor
open Go Sx
set_option maxRecDepth 20000
theorem vN (t:List UInt8)(j:Nat)(hj:j<16):bM t j=if j=0 then t else []:=gT (fun j=>if j=0 then t else []) j hj
theorem Hl (m:Nat)(l:List Rw){i:Nat}(hi:i<16):(dR (m+1) l).r i=if bF l i=[] then [] else gu (ctext m (bF l i)):=by
 match l with
 | []=>exact rG i hi
 | [_]=>exact rG i hi
 | r::s::t =>
   have e:dR (m+1) (r::s::t)=iZ (fun l'=>if l'=[] then [] else gu (dQ (dR m l'))) (r::s::t):=rfl
   rw[e];unfold iZ;dsimp only;by_cases hk:0<cz r.1 ((s::t).getLastD r).1
   ·rw[if_pos hk];dsimp only;rw[vN _ i hi];by_cases h0:i=0
    ·subst h0;rw[if_pos rfl];rfl
    ·rw[if_neg h0,dH,if_pos hk,if_neg h0,if_pos rfl]
   ·rw[if_neg hk];dsimp only;exact gT (fun i=>if bF (r::s::t) i=[] then [] else gu (dQ (dR m (bF (r::s::t) i)))) i hi
theorem Jq (f:Nat->List UInt8)(j:Nat)(hj:j<16):fu f j=f j:=gT f j hj
theorem af4 {f g:Nat->List UInt8}(h: ∀ j,j<16->f j=g j):fu f=fu g:=by unfold fu;rw[h 0 (by decide),h 1 (by decide),h 2 (by decide),h 3 (by decide),h 4 (by decide),h 5 (by decide),h 6 (by decide),h 7 (by decide),h 8 (by decide),h 9 (by decide),h 10 (by decide),h 11 (by decide),h 12 (by decide),h 13 (by decide),h 14 (by decide),h 15 (by decide)]
def Nd.Six (x:Nd):Prop:=∃ f,x.r=fu f
theorem ae1 (s:List UInt8):(getD s).Six:=by
 unfold getD;split
 ·exact⟨fun _=>[],rfl⟩
 ·split
  ·exact⟨fun j=>if j=0 then aj (aa s) 1 else [],rfl⟩
  ·split
   ·exact⟨_,rfl⟩
   ·exact⟨fun _=>[],rfl⟩
theorem aj3: ∀(m:Nat) (l:List Rw),(dR m l).Six
 | 0,_=>⟨fun _=>[],rfl⟩
 | _+1,[]=>⟨fun _=>[],rfl⟩
 | _+1,[_]=>⟨fun _=>[],rfl⟩
 | m+1,r::s::t=>by
   have e:dR (m+1) (r::s::t)=iZ (fun l'=>if l'=[] then [] else gu (dQ (dR m l'))) (r::s::t):=rfl
   rw[e];unfold iZ;dsimp only;split
   ·exact⟨fun j=>if j=0 then(if bF (r::s::t) 0=[] then [] else gu (dQ (dR m (bF (r::s::t) 0))))else [],rfl⟩
   ·exact⟨fun i=>if bF (r::s::t) i=[] then [] else gu (dQ (dR m (bF (r::s::t) i))),rfl⟩
theorem air {x y:Nd}(hx:x.Six)(hy:y.Six)(h:x.OO y):x=y:=by
 obtain⟨f,hf⟩:=hx;obtain⟨g,hg⟩:=hy;have hr:x.r=y.r:=by rw[hf,hg];refine af4 fun j hj=> ?_;have:=h.r j hj;rw[hf,hg,Jq f j hj,Jq g j hj] at this;exact this
 obtain⟨k,p,v,r⟩:=x;obtain⟨k',p',v',r'⟩:=y;have h1:=h.k;have h2:=h.p;have h3:=h.v;dsimp only at h1 h2 h3 hr;subst h1;subst h2;subst h3;subst hr;rfl
theorem kS {m:Nat}{l:List Rw}(h:bB (dR m l)=true):getD (ctext m l)=dR m l:=air (ae1 _) (aj3 m l) (kT h).2
theorem Ww {p v:List UInt8}(hp:p.length<=12)(hn:oB p=true)(hv:0<v.length/\v.length<=80):bB ⟨1,p,v,bg⟩=true:=by
 show pn ⟨1,p,v,bg⟩=true;have hb:dg bg 16=0:=by decide
 have h1:v≠[]:=fun e=>by rw[e] at hv;exact absurd hv.1 (Nat.lt_irrefl _)
 unfold pn lJ;dsimp only;rw[hn,hb,decide_eq_false h1,decide_eq_true (show(p.length:Int)<=12 by omega),decide_eq_true (show(v.length:Int)<=80 by omega),decide_eq_true (show(0:Int)<=(p.length:Int)by omega)];rfl
theorem oJ {s:List UInt8}(h:s.length<32):gu s=s:=if_pos h
theorem qZ {s:List UInt8}(h: ¬ s.length<32):eA (gu s)=true/\aa (gu s)=cT s/\(gu s).length=33:=by
 have e:gu s=aB (cT s)++[]:=by rw[gu,if_neg h,List.append_nil]
 obtain⟨h1,h2,h3,h4⟩:=yM (b:=cT s) (by rw[UY];decide) [];rw[← e] at h1 h2 h3 h4;have hb:eA (gu s)=true:=xC.2 ⟨⟨h1,h2,h4⟩,by rw[h3];exact UY s⟩;exact⟨hb,h3,xD hb⟩
theorem IN {x:Nd}(h:bB x=true)(hk:x.k≠0)(hl:(dQ x).length<32):cG (dQ x)=true/\(getD (dQ x)).OO x:=by obtain⟨g1,g2⟩:=kT h;refine⟨?_,g2⟩;rw[Eh,decide_eq_true hl,g1,decide_eq_false (by rw[g2.k];exact hk)];rfl
theorem Jj {x:Nd}(h:bB x=true)(hk:x.k≠0):mu cG (gu (dQ x))=true/\gu (dQ x)≠[]:=by
 by_cases hl:(dQ x).length<32
 ·have e:=oJ hl;refine⟨?_,?_⟩
  ·rw[e,mu,(IN h hk hl).1];simp
  ·rw[e];have:=(Zh h).1;intro e0;rw[e0] at this;simp at this
 ·obtain⟨h1,_,h3⟩:=qZ hl;refine⟨by rw[mu,h1];rfl,fun e0=> ?_⟩;rw[e0] at h3;simp at h3
theorem W1 {p:List UInt8}(h: ∀ b,b∈ p->b.toNat<16):oB p=true:=by
 unfold oB;rw[List.all_eq_true];intro i hi;have hi:=List.mem_range.1 hi;have:ai p (i:Int)=((p[i]).toNat:Int):=by unfold ai;simp[List.getElem?_eq_getElem hi]
 have hb:=h p[i] (List.getElem_mem hi);rw[Qr,this,decide_eq_false (by omega)];rfl
theorem Sa (r:Nat->List UInt8): ∀ n,0<=gy r n
 | 0=>Int.le_refl _
 | n+1=>by have:=Sa r n;unfold gy;split<;>omega
theorem Ee {r:Nat->List UInt8}{i:Nat}(hr:r i≠[]): ∀ {n},i<n->1<=gy r n
 | 0,h=>absurd h (Nat.not_lt_zero _)
 | n+1,h=>by
   unfold gy;by_cases e:i=n
   ·subst e;rw[if_neg hr];have:=Sa r i;omega
   ·have:=Ee hr (n:=n) (by omega);split<;>omega
theorem Ef {r:Nat->List UInt8}{i j:Nat}(hij:i<j)(hi:r i≠[])(hj:r j≠[]): ∀ {n},j<n->2<=gy r n
 | 0,h=>absurd h (Nat.not_lt_zero _)
 | n+1,h=>by
   unfold gy;by_cases e:j=n
   ·subst e;rw[if_neg hj];have:=Ee hi (n:=j) hij;omega
   ·have:=Ef hij hi hj (n:=n) (by omega);split<;>omega
theorem Y4 {r:Nat->List UInt8}: ∀ {n},(∀ i,i<n->r i=[]∨mu cG (r i)=true)->qJ cG r n=true
 | 0,_=>rfl
 | n+1,h=>by
   unfold qJ;rw[Y4 fun i hi=>h i (by omega)];rcases h n (Nat.lt_succ_self n)with e | e
   ·rw[decide_eq_true e];rfl
   ·rw[e];simp
theorem VB {t:List UInt8}(ht:t≠[]):dg (bM t) 16=1:=by
 have key: ∀ n,n<16->dg (bM t) (n+1)=1:=by
  intro n;induction n with
  | zero=>intro _;unfold dg;rw[vN t 0 (by decide),if_pos rfl,if_neg ht];rfl
  | succ n ih =>
    intro hn;have e:bM t (n+1)=[]:=by rw[vN t (n+1) hn,if_neg (by omega)]
    unfold dg;rw[if_pos e];exact ih (by omega)
 exact key 15 (by decide)
theorem aa4 {a b:UInt8}{p q:List UInt8}(h: ¬ 0<cz (a::p) (b::q)):a≠b:=fun e=>by subst e;unfold cz at h;rw[if_pos rfl] at h;exact h (Nat.succ_pos _)
theorem afr {l:List Rw}{r s:Rw}{t:List Rw}(hl:l=r::s::t)(hc: ¬ 0<cz r.1 ((s::t).getLastD r).1){b:UInt8}{q v:List UInt8}(hx:(b::q,v)∈ l):bF l b.toNat≠[]:=by subst hl;rw[dH,if_neg hc];intro e;have:(q,v)∈ c7 1 (gH b.toNat (r::s::t)):=List.mem_map.2 ⟨(b::q,v),List.mem_filter.2 ⟨hx,by simp[qa]⟩,rfl⟩;rw[e] at this;cases this
theorem Ik {r s:Rw}{t:List Rw}(k:Nat):(c7 k (r::s::t))=(r.1.drop k,r.2)::(s.1.drop k,s.2)::c7 k t:=rfl
theorem ML (k:Nat): ∀(r:Rw) (l:List Rw),(c7 k l).getLastD (r.1.drop k,r.2)=((l.getLastD r).1.drop k,(l.getLastD r).2)
 | r,[]=>rfl
 | r,s::l=>by
   rw[show c7 k (s::l)=(s.1.drop k,s.2)::c7 k l from rfl,List.getLastD_cons,List.getLastD_cons]
   exact ML k s l
theorem Me: ∀(a b:List UInt8),cz (a.drop (cz a b)) (b.drop (cz a b))=0
 | [],b=>by simp[cz]
 | a::p,[]=>by simp[cz]
 | a::p,b::q=>by
   by_cases e:a=b
   ·have:cz (a::p) (b::q)=cz p q+1:=by simp only[cz,if_pos e]
    rw[this];simp only[List.drop_succ_cons];exact Me p q
   ·have:cz (a::p) (b::q)=0:=by simp only[cz,if_neg e]
    rw[this,List.drop_zero,List.drop_zero,this]
theorem aet {m:Nat}{l:List Rw}(hl:l≠[]):(dR (m+1) l).k≠0/\((dR (m+1) l).k=3↔∃ r s t,l=r::s::t/\¬ 0<cz r.1 ((s::t).getLastD r).1):=by
 match l,hl with
 | [r],_=>exact⟨by show(1:Int)≠0;decide,⟨fun h=>absurd h (by show ¬ (1:Int)=3;decide),fun⟨_,_,_,h,_⟩=>by cases h⟩⟩
 | r::s::t,_ =>
   have e:dR (m+1) (r::s::t)=iZ (fun l'=>if l'=[] then [] else gu (dQ (dR m l'))) (r::s::t):=rfl
   rw[e];unfold iZ;dsimp only;by_cases hk:0<cz r.1 ((s::t).getLastD r).1
   ·rw[if_pos hk];exact⟨by show(2:Int)≠0;decide,⟨fun h=>absurd h (by show ¬ (2:Int)=3;decide),fun⟨r',s',t',h,h2⟩=>by injection h with h1 h;injection h with h3 h4;subst h1;subst h3;subst h4;exact absurd hk h2⟩⟩
   ·rw[if_neg hk];exact⟨by show(3:Int)≠0;decide,⟨fun _=>⟨r,s,t,rfl,hk⟩,fun _=>rfl⟩⟩
theorem ao5 {x:Nd}(hk:x.k=3):bB x=fe cG x:=by unfold bB mB;rw[hk];rfl
theorem jC: ∀ {m:Nat} {l:List Rw},m<=13->dI m l->l≠[]->bB (dR m l)=true
 | 0,[],_,_,h=>absurd rfl h
 | 0,r::_,_,h,_=>absurd (h.len r (List.mem_cons_self ..)) (Nat.not_lt_zero _)
 | m+1,[],_,_,h=>absurd rfl h
 | m+1,[r],hm,h,_=>by have h1:=h.len r (List.mem_cons_self ..);exact Ww (by omega) (W1 (h.nib r (List.mem_cons_self ..))) (h.val r (List.mem_cons_self ..))
 | m+1,r::s::t,hm,h,_=>by
   have kid: ∀ i,bF (r::s::t) i≠[]->mu cG (gu (ctext m (bF (r::s::t) i)))=true/\gu (ctext m (bF (r::s::t) i))≠[]:=fun i hi=>by
    have hv:=jC (m:=m) (by omega) (oU h i) hi;have hk:(dR m (bF (r::s::t) i)).k≠0:=by
     match m,oU h i with
     | 0,ho =>
       cases hkr:bF (r::s::t) i with
       | nil=>exact absurd hkr hi
       | cons x y=>rw[hkr] at ho;exact absurd (ho.len x (List.mem_cons_self ..)) (Nat.not_lt_zero _)
     | m+1,_=>exact(aet hi).1
    exact Jj hv hk
   have hr:=h.len r (List.mem_cons_self ..);by_cases hk:0<cz r.1 ((s::t).getLastD r).1
   ·have e:dR (m+1) (r::s::t)=⟨2,r.1.take (cz r.1 ((s::t).getLastD r).1),[],bM (gu (ctext m (bF (r::s::t) 0)))⟩:=by
     show iZ _ (r::s::t)=_;unfold iZ;dsimp only;rw[if_pos hk];have:bF (r::s::t) 0≠[]:=by rw[dH,if_pos hk,if_pos rfl,Ik];exact List.cons_ne_nil _ _
     rw[if_neg this];rfl
    have hk0:bF (r::s::t) 0=c7 (cz r.1 ((s::t).getLastD r).1) (r::s::t):=by rw[dH,if_pos hk,if_pos rfl]
    have hne:bF (r::s::t) 0≠[]:=by rw[hk0,Ik];exact List.cons_ne_nil _ _
    obtain⟨g1,g2⟩:=kid 0 hne;have hle:=(Ho r.1 ((s::t).getLastD r).1).1;rw[e];show tj cG _=true;unfold tj lJ;dsimp only;have e0:bM (gu (ctext m (bF (r::s::t) 0))) 0=gu (ctext m (bF (r::s::t) 0)):=by rw[vN _ 0 (by decide)];exact if_pos rfl
    simp only[e0];rw[W1 (fun b hb=>h.nib r (List.mem_cons_self ..) b (List.mem_of_mem_take hb)),VB g2];rw[List.length_take,Nat.min_eq_left hle,decide_eq_true (show(1:Int)<=(cz r.1 ((s::t).getLastD r).1:Int)by omega),decide_eq_true (show(cz r.1 ((s::t).getLastD r).1:Int)<=12 by omega)];simp only[decide_true,Bool.true_and,Bool.and_self];rcases Bool.eq_false_or_eq_true (eA (gu (ctext m (bF (r::s::t) 0))))with hh | hh
    ·rw[hh];rfl
    ·rw[mu,hh,Bool.false_or] at g1;rw[hh,g1,Bool.false_or,Bool.true_and];have hlt:(ctext m (bF (r::s::t) 0)).length<32:=by
      by_cases hlt:(ctext m (bF (r::s::t) 0)).length<32
      ·exact hlt
      ·rw[(qZ hlt).1] at hh;cases hh
     rw[oJ hlt];have ho:=oU h 0;have hv:=jC (m:=m) (by omega) ho hne;rw[show getD (ctext m (bF (r::s::t) 0))=dR m (bF (r::s::t) 0)from kS hv]
     match m,ho with
     | 0,ho =>
       cases hkr:bF (r::s::t) 0 with
       | nil=>exact absurd hkr hne
       | cons x y=>rw[hkr] at ho;exact absurd (ho.len x (List.mem_cons_self ..)) (Nat.not_lt_zero _)
     | m+1,_ =>refine decide_eq_true ((aet hne).2.2 ⟨_,_,_,hk0.trans (Ik _),?_⟩);have:((s.1.drop (cz r.1 ((s::t).getLastD r).1),s.2)::c7 (cz r.1 ((s::t).getLastD r).1) t).getLastD (r.1.drop (cz r.1 ((s::t).getLastD r).1),r.2)=_:=ML (cz r.1 ((s::t).getLastD r).1) r (s::t);rw[this,Me];exact Nat.lt_irrefl 0
   ·have e:dR (m+1) (r::s::t)=⟨3,[],if r.1=[] then r.2 else [],fu fun i=>if bF (r::s::t) i=[] then [] else gu (ctext m (bF (r::s::t) i))⟩:=by show iZ _ (r::s::t)=_;unfold iZ;dsimp only;rw[if_neg hk];rfl
    have hget: ∀ i,i<16->(fu fun i=>if bF (r::s::t) i=[] then [] else gu (ctext m (bF (r::s::t) i))) i=if bF (r::s::t) i=[] then [] else gu (ctext m (bF (r::s::t) i)):=fun i hi=>Jq _ i hi
    have full: ∀ i,i<16->bF (r::s::t) i≠[]->(fu fun i=>if bF (r::s::t) i=[] then [] else gu (ctext m (bF (r::s::t) i))) i≠[]:=fun i hi hne=>by rw[hget i hi,if_neg hne];exact(kid i hne).2
    have hrv:=h.val r (List.mem_cons_self ..);have hlast:(s::t).getLastD r∈ r::s::t:=zk r (s::t);have hls:Op.bytesLess r.1 ((s::t).getLastD r).1=true:=by have hp:=h.KN;unfold AY at hp;rw[List.pairwise_cons] at hp;refine hp.1 _ ?_;rw[List.getLastD_cons];exact zk s t
    rw[e,ao5 rfl];unfold fe;dsimp only;have hcount:(2:Int)<=min ((if r.1=[] then r.2 else []).length:Int) 1+gy (fu fun i=>if bF (r::s::t) i=[] then [] else gu (ctext m (bF (r::s::t) i))) 16:=by
     generalize hz:(s::t).getLastD r=z at hk hlast hls;obtain⟨rp,rv⟩:=r;obtain⟨zp,zv⟩:=z;cases zp with
     | nil=>cases rp<;>simp[Op.bytesLess] at hls
     | cons b q =>
       have hb:b.toNat<16:=h.nib _ hlast b (List.mem_cons_self ..);have hkb:bF ((rp,rv)::s::t) b.toNat≠[]:=afr rfl (by rw[hz];exact hk) hlast;cases rp with
       | nil =>have:=Ee (full _ hb hkb) (n:=16) hb;simp only[if_true];have h1:0<rv.length:=hrv.1;omega
       | cons a p =>
         have ha:a.toNat<16:=h.nib _ (List.mem_cons_self ..) a (List.mem_cons_self ..);have hka:bF ((a::p,rv)::s::t) a.toNat≠[]:=afr rfl (by rw[hz];exact hk) (List.mem_cons_self ..);have hab:a.toNat≠b.toNat:=fun e=>aa4 hk (UInt8.toNat_inj.1 e);rw[if_neg (List.cons_ne_nil _ _)];have:2<=gy (fu fun i=>if bF ((a::p,rv)::s::t) i=[] then [] else gu (ctext m (bF ((a::p,rv)::s::t) i))) 16:=by
          rcases Nat.lt_or_gt_of_ne hab with hlt | hgt
          ·exact Ef hlt (full _ ha hka) (full _ hb hkb) hb
          ·exact Ef hgt (full _ hb hkb) (full _ ha hka) ha
         show(2:Int)<=min ((0:Nat):Int) 1+_;omega
    have hvl:((if r.1=[] then r.2 else []).length:Int)<=80:=by
     split
     ·have:=hrv.2;omega
     ·show((0:Nat):Int)<=80;omega
    rw[decide_eq_true hcount,decide_eq_true hvl,Y4 fun i hi=> ?_]
    ·rfl
    ·rw[hget i hi];by_cases hn:bF (r::s::t) i=[]
     ·exact .inl (if_pos hn)
     ·rw[if_neg hn];exact .inr (kid i hn).1
theorem tY {k:IntKind}{l:Bool}{a b:Int}(h:a=b):ah (.int k l a) (.int k false b):=fun E=>by subst h;rfl
theorem xu {n:Nat}{f g:Nat->List UInt8}{x:Nat}(hx:x<n)(h:mE f g x=false):ah (.int .i64 true 1) (.int .i64 false (fR n f g)):=by have:RR n f g=false:=List.all_eq_false.2 ⟨x,List.mem_range.2 hx,by rw[h];decide⟩;exact tY (by rw[fR,this];rfl)
theorem RB (n:Nat)(hn:n<9223372036854775808)(f g:Nat->List UInt8)(z:Bool)(o c:Nat)(key:Option Nat):aq (i7 (adW n f g) 56 Tryz.f56 [.cC 0 2 z o 0 n c] [jP z o c n f g key] (.ret (.int .i64 false (fR n f g)))):=by
 refine aq.Qz (alJ n f g z o c key) (by delta Fk Bk I6 Ix Er NI bf bC bx bh ak aL fo bn dX cg gU fh jb fN fA fM lF bS eJ yd kE rM;exact rfl) ?_;simp only[Int.toNat_natCast,Nat.zero_add,true_and,Bool.not_eq_true',Bool.not_eq_false',decide_eq_true_eq,decide_eq_false_iff_not];refine⟨⟨0,gd.zero _ _,rfl⟩,fun x hx=>⟨fun h=> ?_,fun h=> ?_⟩⟩
 ·have hlt:x<n:=by omega
  refine⟨by omega,hlt,fun a1=>⟨fun a2=>xu hlt ?_,fun a2=>⟨fun a3=>⟨fun a4=>xu hlt ?_,fun a4=>⟨fun a5=>⟨by omega,by omega,by omega,fun a6=>xu hlt ?_,fun a6=>⟨by omega,x+1,⟨hx.next h ?_,by omega⟩,by omega⟩⟩,fun a5=>⟨by omega,x+1,⟨hx.next h ?_,by omega⟩,by omega⟩⟩⟩,fun a3=>xu hlt ?_⟩⟩,fun a1=>xu hlt ?_⟩
  ·simp[mE,En,a2]
  ·simp[mE,zQ,a4]
  ·rw[show((x:Int) - 1).toNat=x - 1 by omega] at a6;have:x≠0:=by omega
   simp[mE,a6,this]
  ·rw[show((x:Int) - 1).toNat=x - 1 by omega] at a6;simp[mE,En,zQ,a1,a2,a3,a4,a6]
  ·have:x=0:=by omega
   subst this;simp[mE,En,zQ,a1,a2,a3,a4]
  ·simp[mE,zQ,a3]
  ·simp[mE,En,a1]
 ·have he:RR n f g=true:=hx.done h;exact⟨fun h2=>tY (by rw[fR,he,cond_true,if_pos h2]),fun h2=>tY (by rw[fR,he,cond_true,if_neg h2])⟩
theorem RY (n:Nat)(f g:Nat->List UInt8)(z:Bool)(o c:Nat)(key:Option Nat):aq (i7 (ad0 n f g) 5 Tryz.f5 [.cC 0 2 z o 0 n c] [jP z o c n f g key] (.ret (.bool false (Cg n f g)))):=by
 refine aq.Qz (alK n f g z o c key) (by delta Fk I6 Ix Er NI jV fI bf bh ak fK dM fo cg gU fh jb fN lF bS eJ iU yd kE;exact rfl) ?_;simp only[Int.toNat_natCast,Nat.zero_add,true_and,decide_eq_true_eq,decide_eq_false_iff_not];have bad: ∀ {x},x<n->Af f g x=false->ah (.bool true false) (.bool false (Cg n f g)):=fun {x} hx h=>cX (by have:(List.range n).all (Af f g)=false:=List.all_eq_false.2 ⟨x,List.mem_range.2 hx,by rw[h];decide⟩;rw[Cg,this,Bool.and_false])
 refine⟨⟨0,⟨gd.zero _ _,Nat.zero_le _⟩,rfl⟩,fun x hx=>⟨fun h=>⟨fun h1=> ?_,fun h1=> ?_⟩,fun h=> ?_⟩⟩
 ·have hlt:x<n:=by omega
  refine⟨by omega,hlt,fun a1=>bad hlt ?_,fun a1=>⟨by omega,hlt,fun a2=>bad hlt ?_,fun a2=>⟨by omega,x+1,⟨⟨hx.up.next h ?_,by omega⟩,by omega⟩,by omega⟩⟩⟩
  ·simp[Af,a1]
  ·simp[Af,a2]
  ·have e1: ¬ (20:Int)<(f x).length:=a1;have e2: ¬ (100:Int)<(g x).length:=a2;rw[Af,decide_eq_false e1,decide_eq_false e2];rfl
 ·refine cX ?_;have: ¬ (n:Int)<=45:=by omega
  rw[Cg,decide_eq_false this];rfl
 ·refine cX ?_;rw[Cg,hx.up.done h,Bool.and_true]
theorem FG {cs:List aK}{tot tot':Nat}{ty:TypeId}(ht:tot=tot'):af (.cells [] tot ty) (.rows false 0 cs false tot' ty):=by subst ht;refine af.of rfl rfl fun _=>⟨rfl,fun E o ⟨c,fr,h1,h2,h3,h4⟩=>⟨c,fr,h1,fun _=>h2,by omega,h4,fun i k col hi _=>absurd hi (Nat.not_lt_zero _)⟩,id⟩
theorem iN (n:Nat)(f g:Nat->List UInt8):(cm n f g).length=n:=by simp[cm]
theorem Jg {n:Nat}{f g:Nat->List UInt8}{i:Nat}(h:i<n):(cm n f g).getD i ([],[])=(f i,g i):=by rw[List.getD_eq_getElem?_getD,cm,List.getElem?_map,List.getElem?_range h];rfl
theorem KU {z:Bool}{n:Nat}{f g:Nat->List UInt8}{c c':Nat}{ty:TypeId}{l:List Rw}(hl:l=cm n f g)(hc:c=c'):af (.rows z n [.str f,.str g] false (c*2) ty) (.rows z l.length [gN l,gO l] false (c'*2) ty):=by
 subst hl;subst hc;refine sZ (iN n f g).symm rfl rfl fun k d d' h1 h2 i hi E=> ?_
 match k,h1,h2 with
 | 0,h1,h2 =>injection h1 with h1;injection h2 with h2;subst h1;subst h2;simp only[gN,aK.at,Jg hi]
 | 1,h1,h2 =>injection h1 with h1;injection h2 with h2;subst h1;subst h2;simp only[gO,aK.at,Jg hi]
 | k+2,h1,_=>simp at h1
theorem UP {n:Nat}{f f' g g':Nat->List UInt8}{c c':Nat}{z:Bool}{n':Nat}{ty:TypeId}(hn:n=n')(hc:c=c')(hf: ∀ i,i<n->f i=f' i)(hg: ∀ i,i<n->g i=g' i):af (.rows z n [.str f,.str g] false (c*2) ty) (.rows z n' [.str f',.str g'] false (c'*2) ty):=by
 refine sZ hn (by rw[hc]) rfl fun k d d' h1 h2 i hi E=> ?_
 match k,h1,h2 with
 | 0,h1,h2 =>injection h1 with h1;injection h2 with h2;subst h1;subst h2;simp only[aK.at,hf i hi]
 | 1,h1,h2 =>injection h1 with h1;injection h2 with h2;subst h1;subst h2;simp only[aK.at,hg i hi]
 | k+2,h1,_=>simp at h1
theorem HI {α:Type}{n j:Nat}(x:Nat->α)(y:Nat->α)(h:j<n+1)(hy:y 0=x n):(if j<n then x j else y (j - n))=x j:=by
 by_cases e:j<n
 ·rw[if_pos e]
 ·have:j=n:=by omega
  subst this;rw[if_neg e,Nat.sub_self,hy]
theorem Fa {k k' w i n n' c c':Nat}{z:Bool}(hk:k=k')(hn:n=n')(hc:c=c'):ah (.bI k w z i n c) (.bI k' w z i n' c'):=fun E=>by subst hk;subst hn;subst hc;rfl
theorem XG (n:Nat)(f g:Nat->List UInt8)(hn:n<=1000)(hf: ∀ i,i<n->(f i).length<1099511627776)(z:Bool)(o c:Nat)(key:Option Nat):aq (i7 (aeg n f g) 58 Tryz.f58 [.cC 0 2 z o 0 n c] [jP z o c n f g key] (KR (cm n (fun i=>ay (f i)) g))):=by
 refine aq.Qz (api n f g z o c key) (by delta Fk I6 Ix Er NI cn bf aX aF ak jX aI aL eI bH dG oe gQ cr fo aP cU bD jd iT bT fW cI iW gK fJ mP mQ cB cg gB eY gp fA dS lF dW uN uJ eJ nC wS x8 Zv pM Zz F8 ZB Gc AK mY NX fk;exact rfl) ?_;simp only[Int.toNat_natCast,Nat.zero_add,true_and,decide_eq_true_eq,decide_eq_false_iff_not];refine⟨by omega,⟨(0,n),⟨Nat.zero_le _,Nat.zero_le _⟩,rfl,⟨rfl,rfl⟩,FG rfl⟩,fun x hx=>⟨fun h=> ?_,fun h=> ?_⟩⟩
 ·have hlt:x.1<n:=by omega
  refine⟨by omega,hlt,hf _ hlt,⟨Nat.le_refl _,by omega,by omega⟩,fun c hc=>⟨by omega,(x.1+1,c),⟨⟨by show x.1+1<=_;omega,hc⟩,by show _ - (x.1+1)<_;omega⟩,by show(x.1:Int)+1=((x.1+1:Nat):Int);omega,⟨rfl,rfl⟩,UP rfl rfl (fun j hj=> ?_) fun j hj=> ?_⟩⟩
  ·exact HI (fun j=>ay (f j)) (lZ [ay (f x.1)]) hj rfl
  ·exact HI g (lZ [g x.1]) hj rfl
 ·have e:x.1=n:=by have:=hx.1;omega
  exact⟨x.2,by rw[iN];have:=hx.2;omega,by rw[e];exact KU rfl rfl,Fa rfl (by rw[iN,e]) rfl⟩
theorem VY (k n:Nat)(f g:Nat->List UInt8):c7 k (cm n f g)=cm n (fun i=>(f i).drop k) g:=by unfold c7 cm;rw[List.map_map];rfl
theorem LX (n k:Nat)(f g:Nat->List UInt8)(hn:n<=1000)(hk: ∀ i,i<n->k<=(f i).length)(z:Bool)(o c:Nat)(key:Option Nat):aq (i7 (ael n k f g) 130 Tryz.f130 [.cC 0 2 z o 0 n c,.int .i64 false k] [jP z o c n f g key] (KR (c7 k (cm n f g)))):=by
 refine aq.Qz (adj n k f g z o c key) (by delta Fk I6 Ix Er NI bf aX bh ak aI aL eI bH dG oe pU iG gQ cr fo aP cU bD jd iT bT fW cI iW gK fJ mP mQ cB cg gB eY fA lF eJ nC pM Zz F8 ZB Gc mY fk Zu;exact rfl) ?_;simp only[Int.toNat_natCast,Nat.zero_add,true_and,decide_eq_true_eq,decide_eq_false_iff_not];refine⟨by omega,⟨(0,n),⟨Nat.zero_le _,Nat.zero_le _⟩,rfl,⟨rfl,rfl⟩,FG rfl⟩,fun x hx=>⟨fun h=> ?_,fun h=> ?_⟩⟩
 ·have hlt:x.1<n:=by omega
  have hkl:=hk _ hlt;refine⟨by omega,hlt,⟨by omega,by omega,by omega⟩,⟨Nat.le_refl _,by omega,by omega⟩,fun c hc=>⟨by omega,(x.1+1,c),⟨⟨by show x.1+1<=_;omega,hc⟩,by show _ - (x.1+1)<_;omega⟩,by show(x.1:Int)+1=((x.1+1:Nat):Int);omega,⟨rfl,rfl⟩,UP rfl rfl (fun j hj=> ?_) fun j hj=> ?_⟩⟩
  ·refine HI (fun j=>(f j).drop k) (lZ _) hj ?_;show eK (f x.1) (some (Operand.tmp 20)) none (k:Int) ((f x.1).length:Int)=_;unfold eK;simp
  ·exact HI g (lZ [g x.1]) hj rfl
 ·have e:x.1=n:=by have:=hx.1;omega
  rw[VY];exact⟨x.2,by rw[iN];have:=hx.2;omega,by rw[e];exact KU rfl rfl,Fa rfl (by rw[iN,e]) rfl⟩
theorem VQ: ∀(a b:List UInt8) (x:Nat),gd (min a.length b.length) (KY a b) x->(x<min a.length b.length->ai a (x:Int)≠ai b (x:Int)->cz a b=x)/\(¬ x<min a.length b.length->cz a b=x)
 | [],b,x,h=>⟨fun h1 _=>absurd h1 (by simp),fun _=>by
   have:=h.le;rw[List.length_nil,Nat.zero_min] at this;have:x=0:=by omega
   subst this;cases b<;>rfl⟩
 | a::p,[],x,h=>⟨fun h1 _=>absurd h1 (by simp),fun _=>by
   have:=h.le;rw[List.length_nil,Nat.min_zero] at this;have:x=0:=by omega
   subst this;rfl⟩
 | a::p,b::q,0,h=>⟨fun _ h2=>by have:a≠b:=fun e=>h2 (by subst e;rfl);rw[cz,if_neg this],fun h1=>by rw[List.length_cons,List.length_cons] at h1;omega⟩
 | a::p,b::q,x+1,h=>by
   have e0:a=b:=by have:=h.all 0 (Nat.succ_pos x);have:ai (a::p) 0=ai (b::q) 0:=of_decide_eq_true this;have:(a.toNat:Int)=(b.toNat:Int):=this;exact UInt8.toNat_inj.1 (by omega)
   have hm:min (a::p).length (b::q).length=min p.length q.length+1:=by rw[List.length_cons,List.length_cons];omega
   have h':gd (min p.length q.length) (KY p q) x:=⟨by have:=h.le;omega,fun j hj=>by have:=h.all (j+1) (by omega);unfold KY at this ⊢;rw[bZ,bZ] at this;exact this⟩
   obtain⟨g1,g2⟩:=VQ p q x h';have ec:cz (a::p) (b::q)=cz p q+1:=by rw[cz,if_pos e0]
   rw[bZ,bZ,ec];exact⟨fun h1 h2=>by rw[g1 (by omega) h2],fun h1=>by rw[g2 (by omega)]⟩
theorem Pc (a b:List UInt8)(ha:a.length<9223372036854775807):aq (jy (adX a b) 128 Tryz.f128 [.str false a,.str false b] (.ret (.int .i64 false (cz a b)))):=by
 refine aq.Qz (aiS a b) (by delta Fk Bk I6 Ix NI jV bf bC bh bP ak eX bn cg gU fh jb qq fN qu NM;exact rfl) ?_;simp only[Bool.not_eq_true',Bool.not_eq_false',decide_eq_true_eq,decide_eq_false_iff_not];refine⟨⟨0,gd.zero _ _,rfl⟩,fun x hx=>⟨fun h=> ?_,fun h=> ?_⟩⟩
 ·have hlt:x<min a.length b.length:=by omega
  refine⟨⟨by omega,by omega⟩,⟨by omega,by omega⟩,fun h1=>tY ?_,fun h1=>⟨by omega,x+1,⟨hx.next (by omega) ?_,by omega⟩,by omega⟩⟩
  ·rw[(VQ a b x hx).1 hlt h1]
  ·exact decide_eq_true h1
 ·have:=(VQ a b x hx).2 (by omega);have hle:=hx.le;exact tY (by omega)
def A7 (args:List SV):Option (Prop×SV):=match args with
 | [.str false a,.str false b]=>some (a.length<9223372036854775807,.int .i64 false (cz a b))
 | _=>none
theorem aa5:au Tryz.prog 128 (aT A7):=by
 refine gz (fE (n:=20) (fn:=Tryz.f128) Tryz.func128 (by kernel_rfl) (by kernel_rfl) ?_);intro args p a h hp;unfold A7 at h;split at h
 ·injection h with h;injection h with h1 h2;subst h1;subst h2;exact⟨_,anC _ _,rfl,rfl,Pc _ _ hp⟩
 ·cases h
def D5 (vs:List SV)(l:List Seen):Option (Prop×b7):=match vs,l with
 | [_],[⟨_,_,_,n,_,[.str f,.str g]⟩]=>some (n<9223372036854775808,.ret (.int .i64 false (fR n f g)))
 | _,_=>none
theorem aen:au Tryz.prog 56 (bE shE D5):=by
 refine gq (n:=20) (fn:=Tryz.f56) Tryz.func56 (by kernel_rfl) (by kernel_rfl) ?_;intro vs l q a h hq;unfold D5 at h;split at h
 ·rename_i v key z o n c f g;injection h with h;injection h with h1 h2;subst h1;subst h2;exact⟨_,anB n f g,rfl,rfl,RB n hq f g z o c key⟩
 ·cases h
def Ir (vs:List SV)(l:List Seen):Option (Prop×b7):=match vs,l with
 | [_],[⟨_,_,_,n,_,[.str f,.str g]⟩]=>some (True,.ret (.bool false (Cg n f g)))
 | _,_=>none
theorem aj9:au Tryz.prog 5 (bE shE Ir):=by
 refine gq (n:=20) (fn:=Tryz.f5) Tryz.func5 (by kernel_rfl) (by kernel_rfl) ?_;intro vs l q a h hq;unfold Ir at h;split at h
 ·rename_i v key z o n c f g;injection h with h;injection h with h1 h2;subst h1;subst h2;exact⟨_,anF n f g,rfl,rfl,RY n f g z o c key⟩
 ·cases h
theorem UM (l:List Rw):(KR l).Ok:=fun _=>⟨rfl,rfl,fun k=>by
 show Nat.blt k (k+1)=true;rw[Nat.blt_eq];omega,fun E E' k k' h=>by
 show(SV.bI k 2 false 0 l.length _).val E=(SV.bI k' 2 false 0 l.length _).val E';have:=h rfl;simp only[SV.val];rw[this]⟩
def KS (vs:List SV)(l:List Seen):Option (Prop×b7):=match vs,l with
 | [_],[⟨_,_,_,n,_,[.str f,.str g]⟩]=>some (n<=1000/\∀ i,i<n->(f i).length<1099511627776,KR (cm n (fun i=>ay (f i)) g))
 | _,_=>none
theorem aih:au Tryz.prog 58 (bE shE KS):=by
 refine gq (n:=20) (fn:=Tryz.f58) Tryz.func58 (by kernel_rfl) (by kernel_rfl) ?_;intro vs l q a h hq;unfold KS at h;split at h
 ·rename_i v key z o n c f g;injection h with h;injection h with h1 h2;subst h1;subst h2;exact⟨_,anY n f g,rfl,UM _,XG n f g hq.1 hq.2 z o c key⟩
 ·cases h
def aql:List AZ:=[.of (.slice dE),.of .one]
def yW (vs:List SV)(l:List Seen):Option (Prop×b7):=match vs,l with
 | [_,.int .i64 false k],[⟨_,_,_,n,_,[.str f,.str g]⟩]=>some (0<=k/\n<=1000/\∀ i,i<n->k.toNat<=(f i).length,KR (c7 k.toNat (cm n f g)))
 | _,_=>none
theorem Ye:au Tryz.prog 130 (bE aql yW):=by
 refine gq (n:=20) (fn:=Tryz.f130) Tryz.func130 (by kernel_rfl) (by kernel_rfl) ?_;intro vs l q a h hq;unfold yW at h;split at h
 ·rename_i v k key z o n c f g;injection h with h;injection h with h1 h2;subst h1;subst h2;have:=LX n k.toNat f g hq.2.1 hq.2.2 z o c key;rw[Int.toNat_of_nonneg hq.1] at this;exact⟨_,an4 n k.toNat f g,rfl,UM _,this⟩
 ·cases h
section
variable (n : Nat) (y : Nat × Nat) (z : Pl) (x : List Rw × Nat × Nat) (f : List Rw) (g : Nat × Nat -> SB)
abbrev BG:=gH x.2.2 (List.take y.1 x.1)
abbrev CU:=gH x.2.2 x.1
abbrev qi:=List.length x.1
abbrev ahd:=dG (∃(a:Nat×Nat),gQ (cg (qi x) a.1 (qi x) y.1 (eY a.1 (qi x) (List.length (BG a x)) a)) (fJ y+1=fJ a) (List.length (BG y x)=List.length (BG a x)) (y.2=a.2) (af (g y) (eC (List.length (BG a x)) (a.2*2) 248 (mY (BG a x) (BG a x))))) (fJ y+1)
abbrev mO:=List.length (BG y x)
abbrev AB:=List.length (CU x)
abbrev jW:=k7 n Pl.k z
abbrev Un:=jW 0 x4
abbrev mU:=List.getD f n (List.nil,List.nil)
abbrev Oa:=(mU (fk y) x.1).1
abbrev qx:=k7 n NB z
end
theorem ao6 (x:List Rw×Nat×Nat):gS (uI Un (k7 1 (AL 1 3 C9 (Pl.s 1 C9)) (Pl.s 1 C9)) (qx 0 (Pl.s 1 Pl.k))) (runM (adY x.2.2 x.1) 131 Tryz.f131 aez x) ((fun(a:Nat×Nat->SB)=>(∃(a:Nat×Nat),aL (eY a.1 (qi x) (mO a x) a) (0=fJ a) (mO a x=0) (oh (LP true (BG a x) a.2 false)))/\(∀(b:Nat×Nat),eY b.1 (qi x) (mO b x) b->fA (qi x) (ak (fo (qi x) (fJ b)) (fk b<qi x) (bn (ak (Ix 0 (bh (Oa b x))) (I6 (iV (Oa b x))) (cS (fW (cI (mO b x) (mO b x)) (jd (2*aP (mO b x)*32)) (cr (aP (mO b x)))/\(∀(a:Nat),aX (aP (mO b x)) a (dG (∃(c:Nat×Nat),gQ (cg (qi x) c.1 (qi x) b.1 (eY c.1 (qi x) (mO c x) c)) (mP b c) (aP (mO b x)=mO c x) (a=c.2) (af (cq (aP (mO b x)) a 2 248 (cU (fun a=>iT a (mO b x) (mU a (BG b x)).1 (iW (a - mO b x) (Oa b x))) (bD (fun a=>iT a (mO b x) (mU a (BG b x)).2 (iW (a - mO b x) (mU (fk b) x.1).2))))) (eC (mO c x) (c.2*2) 248 (mY (BG c x) (BG c x))))) (mQ b)))) (ahd b x a) (iV (Oa b x)) (NI x.2.2))) (ahd b x a) (dX (Oa b x)))) (∃(c:Nat),gK (AB x) c (mO b x=AB x/\b.2=c) (af (a b) (cq (AB x) c 2 248 (mY (CU x) (CU x))))) (fJ b))) (fun a=>eC (mO a x) (a.2*2) 248 (mY (BG a x) (BG a x)))):=⟨by kernel_rfl,by kernel_rfl⟩
theorem aay {l:List Rw}{r:Rw}{c:Nat}{ty:TypeId}:af (.rows true (l.length+1) [.str fun j=>if j<l.length then(l.getD j ([],[])).1 else lZ [r.1] (j - l.length),.str fun j=>if j<l.length then(l.getD j ([],[])).2 else lZ [r.2] (j - l.length)] false (c*2) ty) (.rows true (l++[r]).length [gN (l++[r]),gO (l++[r])] false (c*2) ty):=by
 refine sZ (by simp) rfl rfl fun k c c' h1 h2 i hi E=> ?_;have e: ∀(x:Rw->List UInt8),(if i<l.length then x (l.getD i ([],[]))else lZ [x r] (i - l.length))=x ((l++[r]).getD i ([],[])):=fun x=>by
  rw[Dv l r ([],[]) i hi];by_cases h:i<l.length
  ·rw[if_pos h,if_pos h]
  ·rw[if_neg h,if_neg h];have:i - l.length=0:=by omega
   rw[this];rfl
 match k,h1,h2 with
 | 0,h1,h2 =>injection h1 with h1;injection h2 with h2;subst h1;subst h2;simp only[gN,aK.at,SV.val,← e Prod.fst]
 | 1,h1,h2 =>injection h1 with h1;injection h2 with h2;subst h1;subst h2;simp only[gO,aK.at,SV.val,← e Prod.snd]
 | k+2,h1,_=>simp at h1
theorem Fi {l:List Rw}{k:Nat}(hk:k<l.length):l.take (k+1)=l.take k++[l.getD k ([],[])]:=by rw[List.take_add_one,List.getD_eq_getElem?_getD,List.getElem?_eq_getElem hk];rfl
theorem aj6 {i:Nat}{l:List Rw}{k:Nat}(hk:k<l.length)(h:qa i (l.getD k ([],[])).1=true):gH i (l.take (k+1))=gH i (l.take k)++[l.getD k ([],[])]:=by rw[Fi hk];unfold gH;rw[List.filter_append];congr 1;rw[List.filter_cons,h];rfl
theorem aeA {i:Nat}{l:List Rw}{k:Nat}(hk:k<l.length)(h:qa i (l.getD k ([],[])).1=false):gH i (l.take (k+1))=gH i (l.take k):=by rw[Fi hk];unfold gH;rw[List.filter_append,List.filter_cons,h];simp
theorem aj5 (i:Nat)(l:List Rw)(k:Nat):(gH i (l.take k)).length<=l.length:=by
 have:=List.length_filter_le (fun r:Rw=>qa i r.1) (l.take k);have h2:(l.take k).length<=l.length:=by rw[List.length_take];omega
 unfold gH;omega
theorem abm {i:Nat}{p:List UInt8}(hp: ¬ p=[]):qa i p=decide (ai p 0=(i:Int)):=by
 cases p with
 | nil=>exact absurd rfl hp
 | cons b q =>show decide (b.toNat=i)=decide ((b.toNat:Int)=(i:Int));exact decide_eq_decide.2 (by omega)
theorem aax {z:Bool}{l l':List Rw}{c c':Nat}{ty:TypeId}(h:l=l')(hc:c=c'):af (.rows z l.length [gN l,gO l] false (c*2) ty) (.rows z l'.length [gN l',gO l'] false (c'*2) ty):=by subst h;subst hc;exact af.refl _
theorem VT (x:List Rw×Nat×Nat)(hx:x.1.length<=1000):aq (runM (adY x.2.2 x.1) 131 Tryz.f131 aez x):=by
 refine aq.Qz (ao6 x) (by delta Fk Bk I6 Ix NI bf aX bh ak aL cS dG iV gQ cr fo bn dX aP eC cU bD jd iT bT dZ cq oh fW cI iW gK fJ mP mQ cB cg eY fA nC mY fk BG CU qi ahd mO AB mU Oa;exact rfl) ?_;obtain⟨l,c0,i⟩:=x;simp only[Int.toNat_natCast,Nat.zero_add,true_and,Bool.not_eq_true',Bool.not_eq_false',decide_eq_true_eq,decide_eq_false_iff_not];have hx:l.length<=1000:=hx;refine⟨⟨(0,0),⟨Nat.zero_le _,Nat.zero_le _⟩,rfl,rfl,rfl⟩,fun x ⟨h1,h2⟩=>⟨fun h=> ?_,fun h=> ?_⟩⟩
 ·have hlt:x.1<l.length:=by omega
  have hcl:=aj5 i l x.1;refine⟨⟨by omega,by omega⟩,hlt,fun a=> ?_,fun a=> ?_⟩
  ·have hpos:0<(l.getD x.1 ([],[])).1.length:=List.length_pos_iff.2 a;have hb:=abm (i:=i) a;refine⟨⟨by omega,by omega⟩,?_,fun b=>⟨⟨Nat.le_refl _,by omega,by omega⟩,fun c hc=> ?_⟩,fun b=> ?_⟩
   ·have h0:=eO (l.getD x.1 ([],[])).1 0;omega
   ·have e:=aj6 hlt (hb.trans (decide_eq_true b));refine⟨by omega,(x.1+1,c),⟨⟨by show x.1+1<=_;omega,?_⟩,by show _ - (x.1+1)<_;omega⟩,by show(x.1:Int)+1=((x.1+1:Nat):Int);omega,⟨?_,rfl⟩,?_⟩
    ·show(gH i (l.take (x.1+1))).length<=c;rw[e,List.length_append];exact hc
    ·show _=(gH i (l.take (x.1+1))).length;rw[e,List.length_append];rfl
    ·show af _ (.rows true (gH i (l.take (x.1+1))).length [gN (gH i (l.take (x.1+1))),gO (gH i (l.take (x.1+1)))] false (c*2) _);rw[e];exact aay
   ·have e:=aeA hlt (hb.trans (decide_eq_false b));refine⟨by omega,(x.1+1,x.2),⟨⟨by show x.1+1<=_;omega,?_⟩,by show _ - (x.1+1)<_;omega⟩,by show(x.1:Int)+1=((x.1+1:Nat):Int);omega,⟨?_,rfl⟩,aax e.symm rfl⟩
    ·show(gH i (l.take (x.1+1))).length<=x.2;rw[e];exact h2
    ·show _=(gH i (l.take (x.1+1))).length;rw[e]
  ·have e:=aeA (i:=i) hlt (by rw[a];rfl);refine⟨by omega,(x.1+1,x.2),⟨⟨by show x.1+1<=_;omega,?_⟩,by show _ - (x.1+1)<_;omega⟩,by show(x.1:Int)+1=((x.1+1:Nat):Int);omega,⟨?_,rfl⟩,aax e.symm rfl⟩
   ·show(gH i (l.take (x.1+1))).length<=x.2;rw[e];exact h2
   ·show _=(gH i (l.take (x.1+1))).length;rw[e]
 ·have e:l.take x.1=l:=List.take_of_length_le (by omega);rw[e] at h2 ⊢;exact⟨x.2,h2,⟨rfl,rfl⟩,af.refl _⟩
theorem ald:au Tryz.prog 131 (kj aez) :=vF (n:=20) (fn:=Tryz.f131) Tryz.func131 (by kernel_rfl) (by kernel_rfl) aez fun x hx=>⟨_,anD x.2.2 x.1,rfl,VT x hx⟩
noncomputable def WA:List (FuncId×PT):=(133,bW (nt fun x=>some (Fits x,agA x)))::(187,aT zF)::(128,aT A7)::(130,bE aql yW)::(131,kj aez)::qc
theorem MQ:aU Tryz.prog (fun f=>aA f WA):=.cons Bv (bX _) (.cons Bw (aN _) (.cons aa5 (aN _) (.cons Ye (bJ _ _) (.cons ald (jr _) iL))))
theorem Na (l:List Rw):cm l.length (fun i=>(l.getD i ([],[])).1) (fun i=>(l.getD i ([],[])).2)=l:=by refine List.ext_getElem (by rw[iN]) fun i h1 h2=> ?_;simp only[cm,List.getElem_map,List.getElem_range,List.getD_eq_getElem?_getD,List.getElem?_eq_getElem h2,Option.getD_some]
structure Pd where
 D:Nat->Bool
 vb:Nat->List UInt8
 fb:Nat->Nat
 nb:Nat->Nat
 cb:Nat->Nat
 D2:Nat->Bool
 n2:Nat->Nat
 g:Nat->Nat->Nat
def Pd.parts (P:Pd)(kB:Nat):SB:=.vq P.D [.str P.vb,.fq kB 1 true P.fb P.nb P.cb] 2 134 false
def Pd.lists (P:Pd)(kA:Nat):SB:=.lH P.D2 P.n2 [.ref kA P.g] false
def Told (P:Pd):Nat->Nat->List (List UInt8)->Prop
 | 0,_,_=>False
 | d+1,a,L=>P.D a=true/\∃ Ks:List (List (List UInt8)),P.nb a=Ks.length/\(0<Ks.length->P.D2 (P.fb a)=true/\Ks.length<=P.n2 (P.fb a))/\L=P.vb a::Ks.flatten/\∀(i:Nat) (L':List (List UInt8)),Ks[i]?=some L'->Told P d (P.g (P.fb a) i) L'
def tK (P:Pd)(d n:Nat)(f:Nat->Nat)(B:List (List UInt8)):Prop:=∃ Ks:List (List (List UInt8)),n=Ks.length/\Ks.flatten=B/\∀(i:Nat) (L':List (List UInt8)),Ks[i]?=some L'->Told P d (f i) L'
def wY (m:Nat)(l:List Rw):List (List UInt8):=if l=[] then [] else(if(ctext m l).length<32 then [] else [ctext m l])++gr m l
def Bm (m:Nat)(l:List Rw):List UInt8:=if l=[] then [] else gu (ctext m l)
def Cf (n a b:Nat):Mem->List Gh
 | []=>[]
 | e::r=>match Nat.blt e.1 n,e.2 with
   | false,.vq .. =>.merge a e.1::Cf n a b r
   | false,.lH .. =>.merge b e.1::Cf n a b r
   | _,_=>Cf n a b r
def PV (nb cb:Nat)(f:Nat->Nat)(P:Pd)(k:Nat):Mem:=[(0,.cells [.str true [],.bI k 1 true 0 nb cb] 2 134),(k,.rows true nb [.ref 3 f] false (cb*1) 135),(3,P.parts 4),(4,P.lists 3)]
structure w7 where
 l:List Rw
 c:Nat
 nb:Nat
 cb:Nat
 f:Nat->Nat
 P:Pd
 B:List (List UInt8)
structure n7 where
 nb:Nat
 cb:Nat
 f:Nat->Nat
 P:Pd
def xI (m:Nat):qB :=
 {G:=w7,n:=5,N:=6,pre:=fun x=>dI m x.l/\x.l.length<=1000/\m<=13/\x.nb<=x.cb/\(x.B++wY m x.l).length<=100000/\tK x.P (m+1) x.nb x.f x.B,args:=fun x=>[.ptr 0 true 0,.bI 1 2 false 0 x.l.length x.c],
  mem:=fun x=>(1,LP false x.l x.c true)::PV x.nb x.cb x.f x.P 2,
  ans:=fun x=>.all n7 fun y=>.req (y.nb<=y.cb/\tK y.P (m+1) y.nb y.f (x.B++wY m x.l)) (.ret (.str false (Bm m x.l)) (PV y.nb y.cb y.f y.P 5)),
  gh:=fun _ m=>Cf 5 3 4 m}
def aoB:SV->Mem->List Gh:=fun v m=>match v with
 | .ptr kp _ _=>(match m.get kp with
   | some (.cells [_,.bI kr _ _ _ _ _] _ _)=>(match m.get kr with
     | some (.rows _ _ [.ref kA _] _ _ _)=>(match m.get kA with
       | some (.vq _ [_,.fq kB _ _ _ _ _] _ _ _)=>[.name kr 0,.merge kB kr,.name kp kB,.merge kA kp]
       | _=>[.name kp 0])
     | _=>[.name kp 0])
   | _=>[.name kp 0])
 | _=>[]
def D1 (m:Nat):qB :=
 {G:=List Rw×Nat,n:=1,N:=3,pre:=fun x=>dI m x.1/\x.1.length<=1000/\m<=13,args:=fun x=>[.bI 0 2 false 0 x.1.length x.2],mem:=fun x=>[(0,LP false x.1 x.2 true)],
  ans:=fun x=>.all (Nat×Pd) fun y=>.req (Told y.2 (m+1) y.1 (j5 m x.1)) (.ret (.iq 1 y.1 0) [(1,y.2.parts 2),(2,y.2.lists 1)]),
  gh:=aoB}
def jS (m:Nat)(l:List Rw)(i:Nat):List (List UInt8):=(List.range i).flatMap fun j=>wY m (bF l j)
def KE (m:Nat)(l:List Rw)(i j:Nat):List UInt8:=if j<i then Bm m (bF l j)else []
noncomputable def ajN (m:Nat)(l:List Rw):bp :=
 {α:=Nat×n7,pre:=fun _ x=>x.1<=16/\x.2.nb<=x.2.cb/\tK x.2.P (m+1) x.2.nb x.2.f (jS m l x.1),sM:=fun _ x=>16 - x.1,fresh:=3,slots:=fun _ x=>[(11,.int .i64 false x.1)],
  mem:=fun st x=>[(Nw st 3,.cells [.str true [],.bI st.nx 1 true 0 x.2.nb x.2.cb] 2 134),(st.nx,.rows true x.2.nb [.ref (st.nx+1) x.2.f] false (x.2.cb*1) 135),(st.nx+1,x.2.P.parts (st.nx+2)),(st.nx+2,x.2.P.lists (st.nx+1)),
   (Nw st 4,.cells (mL ⟨3,[],[],KE m l x.1⟩) 19 246)]}
noncomputable def vk:Nat->PT
 | 0=>fun _ _ _ _=>.fail "no rows"
 | m+1=>kj (D1 (m+1))
noncomputable def ap5 (m:Nat):List (FuncId×PT):=(57,vk m)::WA
noncomputable def Mb (m:Nat):gF:={cF with cM:=fun f=>aA f (ap5 m)}
noncomputable def ap4 (m:Nat):List (FuncId×PT):=(129,kj (xI m))::WA
noncomputable def Yq (m:Nat)(l:List Rw):gF:={cF with cM:=fun f=>aA f (ap4 m),aR:=fun h=>if h=57 then [(5,always (ajN m l))] else []}
theorem B7: ∀ m,aJ (vk m)
 | 0=>fun _ _ _ _ _ _ h=>h
 | _m+1=>jr _
theorem VI:au Tryz.prog 57 (vk 0):=fun _ _ _ _ h=>h.elim
theorem anG {m:Nat}(h:au Tryz.prog 57 (vk m)):Sx.Good Tryz.prog (Mb m):=.of bO (aU.cons h (B7 m) MQ) bt
theorem anz {m:Nat}(h:au Tryz.prog 129 (kj (xI m)))(l:List Rw):Sx.Good Tryz.prog (Yq m l):=.of bO (aU.cons h (jr _) MQ) bt
section
variable (n m k i : Nat) (s : List UInt8) (B : SB) (o : Bool) (f : List Rw × Nat) (x : w7) (y : Nat × Pd) (g : n7) (h E F : Nat -> Nat) (z : Pd) (C : List aK) (A : Nat -> Bool) (D : List dm)
abbrev yw:=cB (aK.ref n h)
abbrev lU:=SB.vq A C n 134 o
abbrev qt:=aK.fq n m true h E F
abbrev qp:=af B (Pd.lists z n)
abbrev rX:=SB.lH A h D false
abbrev wR:=dm.ref n z.g
abbrev alc:=cZ (x.nb=g.nb/\x.cb=g.cb) (af (cq x.nb x.cb 1 135 (yw 3 x.f)) (cq g.nb g.cb 1 135 (yw 3 g.f))) (qp 3 (rX x.P.n2 x.P.D2 [wR 3 x.P]) g.P) (lU 2 false (cU x.P.vb (cB (qt 4 1 x.P.fb x.P.nb x.P.cb))) x.P.D) (Pd.parts g.P 4)
abbrev F6:=List.length x.l
abbrev ZV:=Dh (qx 1 Pl.k)
abbrev Dj:=Bm n x.l
abbrev uK:=af B (Pd.parts z n)
abbrev GB:List UInt8:=bif o then z.vb n else s
abbrev mT:Nat:=bif Nat.beq n m then k else i
abbrev Gy:Nat:=bif z.D n then m else k
abbrev Gx:Nat:=bif z.D2 n then m else k
abbrev aoN:=uK 4 (lU 2 false (cU (fun a=>GB a (y.2.vb a) (x.P.D a) x.P) (cB (qt (mT (mT 4 6 3 4) 7 4 (mT 4 6 3 4)) 1 (fun a=>Gy a (x.P.fb a) (y.2.fb a) x.P) (fun a=>Gy a (x.P.nb a) (y.2.nb a) x.P) (fun a=>Gy a (x.P.cb a) (y.2.cb a) x.P)))) (fun a=>x.P.D a||y.2.D a)) g.P/\qp 3 (rX (fun a=>Gx a (x.P.n2 a) (y.2.n2 a) x.P) (fun a=>x.P.D2 a||y.2.D2 a) [dm.jM (fun a=>mT a 7 4 a) (dm.ref (mT 3 6 3 3) (fun a=>fun b=>Gx a (x.P.g a b) (y.2.g a b) x.P))]) g.P
abbrev oI:=List.length f.1
abbrev aoP:=tB 1 (Cy 0 ((1,LP false x.l x.c true)::PV x.nb x.cb x.f x.P 2) (LP false f.1 f.2 true) (LP false x.l x.c true) [(0,1)]) 5
abbrev agS:=cq g.nb g.cb 1 135 (yw 3 g.f)
abbrev Zq:=bT g.nb g.cb (tK g.P (pS n) g.nb g.f (x.B++wY (aP n) x.l))
abbrev TL:=SB.rows false (List.length x.l) (mY x.l x.l) true (x.c*2) 248
abbrev TO:=mT 3 6 3 3
abbrev Ax:=Pd.parts y.2 2
abbrev C1:=y.2.vb y.1
abbrev NL:=x.nb+y.2.nb y.1
abbrev ahr:=∀(a:Nat),dZ (SB.dom (SB.told (Sg 6 3) (fun a=>mT a 6 3 a) (Pd.lists x.P 3)) a)->SB.dom (SB.told (Sg 6 3) (fun a=>mT a 6 3 a) (SB.aE (aoP f x) (Pd.lists y.2 1))) a=false
abbrev Gk:=SB.rows false (oI f) (mY f.1 f.1) true (f.2*2) 248
abbrev ahy:=∀(a:Nat),dZ (SB.dom (Pd.parts x.P 4) a)->SB.dom (SB.aE (aoP f x) (Ax y)) a=false
abbrev lq:=n<=1000
abbrev Od:=aP x.nb
end
theorem alL (x:w7):gS (GC 0 ZV Pl.t) (runM (Mb 0) 129 Tryz.f129 (xI 0) x) (cS (∃(a:n7),ak (bT a.nb a.cb (tK a.P 1 a.nb a.f (x.B++wY 0 x.l))) ([]=Dj 0 x) (alc x a)) False (NI (F6 x)) 0):=⟨by kernel_rfl,by kernel_rfl⟩
theorem ao9 (m:Nat)(x:w7):gS (GC 0 ZV (qx 0 (jW 0 (AL 2 2 ZV (Pl.s 3 ZV))))) (runM (Mb (m+1)) 129 Tryz.f129 (xI (m+1)) x) (cS (∃(a:n7),ak (Zq m x a) ([]=Dj (aP m) x) (alc x a)) (∃(a:List Rw×Nat),cZ (ak (dI (aP (Nat.add._f 0 () m)) a.1) (lq (oI a)) (aP (Nat.add._f 0 () m)<=13)) (F6 x=oI a/\x.c=a.2) (∀(b:Nat×Pd),Told b.2 (pS (Nat.add._f 0 () m)) b.1 (j5 (aP (Nat.add._f 0 () m)) a.1)->aL (dZ (b.2.D b.1)) (ij (C1 b)) (dj (gu (C1 b))) (iH (gu (C1 b)) (fW (cI x.nb x.nb) (jd (2*Od x*8)) (cr (Od x))/\(∀(c:Nat),aX (Od x) c (ahy a x b->ahr a x b->(∃(a:n7),aI (Zq m x a) (gu (C1 b)=Dj (aP m) x) (Od x=a.nb/\c=a.cb) (af (cq (Od x) c 1 135 (yw (mT TO 7 4 TO) (fun a=>if a<x.nb then x.f a else aim [b.1] (a - x.nb)))) (agS a)) (aoN x b a))))) (ak (dZ (b.2.D b.1)) (aL (cI x.nb x.nb) (0<b.2.nb b.1->dZ (b.2.D2 (b.2.fb b.1))/\cI (b.2.nb b.1) (b.2.n2 (b.2.fb b.1))) (jd (2*NL x b*8)) (cr (NL x b))) (∀(c:Nat),aX (NL x b) c (ahy a x b->ahr a x b->(∃(a:n7),aI (Zq m x a) (gu (C1 b)=Dj (aP m) x) (NL x b=a.nb/\c=a.cb) (af (cq (NL x b) c 1 135 (yw (mT TO 7 4 TO) (fun a=>if a<x.nb then x.f a else b.2.g (b.2.fb b.1) (a - x.nb)))) (agS a)) (aoN x b a))))))) (TL x) (Gk a)) (NI (F6 x)) 0):=⟨by kernel_rfl,by kernel_rfl⟩
section
variable (n m k : Nat) (y : List Rw × Nat) (g : w7) (x : Nat × n7) (f : Nat × Pd) (z : n7) (h : List Rw × Nat × Nat) (o : Nat -> Nat × n7 -> SV)
abbrev mX:=KE n y.1 m k
abbrev Xp:Nat->List UInt8:=fun a=>c9 a (fU (mX n x.1 0 y) (mX n x.1 1 y) (mX n x.1 2 y) (mX n x.1 3 y) (mX n x.1 4 y) (mX n x.1 5 y) (mX n x.1 6 y) (mX n x.1 7 y) (fU (mX n x.1 8 y) (mX n x.1 9 y) (mX n x.1 10 y) (mX n x.1 11 y) (mX n x.1 12 y) (mX n x.1 13 y) (mX n x.1 14 y) (mX n x.1 15 y) List.nil))
abbrev wN:=x.2.P
abbrev yh:=pS 1
abbrev ahQ:=id (mT (id (aP yh)) yh (yh+2) (id (aP yh)))
abbrev ak5:=qp 1 (rX (fun a=>Gx a ((wN x).n2 a) x.2.nb (wN x)) (fun a=>(wN x).D2 a||Nat.beq a n&&not (true&&Nat.beq x.2.nb 0)) [dm.ref (mT ahQ 1 (aP yh) ahQ) (fun a=>fun b=>Gx a ((wN x).g a b) (x.2.f b) (wN x))]) f.2
abbrev ahR:=id (mT (id (yh+2)) yh (yh+2) (id (yh+2)))
abbrev ak7:=cB (qt (mT ahR 1 (aP yh) ahR) 1 (fun a=>Gy a ((wN x).fb a) n (wN x)) (fun a=>Gy a ((wN x).nb a) x.2.nb (wN x)) (fun a=>Gy a ((wN x).cb a) x.2.cb (wN x)))
abbrev Ul:=NI (cz (List.getD y.1 0 (List.nil,List.nil)).1 (List.getD y.1 (fM (NI (List.length y.1) - 1)) (List.nil,List.nil)).1)
abbrev Kx:=pS 1
abbrev qe:=x.2.P
abbrev Ky:=List.getD y.1 0 (List.nil,List.nil)
abbrev ahC:=id (mT (id 7) 9 8 (id 7))
abbrev agN:=qp 1 (rX (fun a=>Gx a (z.P.n2 a) z.nb z.P) (fun a=>z.P.D2 a||Nat.beq a n&&not (true&&Nat.beq z.nb 0)) [dm.ref (mT ahC 1 7 ahC) (fun a=>fun b=>Gx a (z.P.g a b) (z.f b) z.P)]) f.2
abbrev ahD:=id (mT (id 8) 9 8 (id 8))
abbrev AD:=z.P.D n
abbrev agP:=cB (qt (mT ahD 1 7 ahD) 1 (fun a=>bif AD a z then z.P.fb a else n) (fun a=>bif AD a z then z.P.nb a else z.nb) (fun a=>bif AD a z then z.P.cb a else z.cb))
abbrev Ap:=Told f.2 (pS n) f.1 (j5 (aP n) y.1)
abbrev JS:=x.2.nb
abbrev agQ:=cR 19 (bC 3) (aF (ax List.nil) (ax List.nil) (aD (o 0 x) (o 1 x) (o 2 x) (o 3 x) (o 4 x) (o 5 x) (o 6 x) (o 7 x) (aD (o 8 x) (o 9 x) (o 10 x) (o 11 x) (o 12 x) (o 13 x) (o 14 x) (o 15 x) List.nil))) 246
abbrev agR:=cq g.nb g.cb 1 135 (yw 3 g.f)
abbrev agT:=gp (dI n g.l) (lq (List.length g.l)) (n<=13) (g.nb<=g.cb) (List.length (g.B++wY n g.l)<=100000) (tK g.P (aP n) g.nb g.f g.B)
abbrev Z1:=cB (qt 0 1 (fun _=>0) (fun _=>0) (fun _=>0))
abbrev Z0:=∀(a:Nat),¬SB.jD 0 (Pd.lists f.2 1) a
abbrev agW:=ak (n=f.1) (uK 2 (lU 2 false (cU (fun _=>List.nil) Z1) (fun a=>Nat.beq a n)) f.2) (Z0 f)
abbrev wI:=Nat.beq n m
abbrev ye:=NI x.1
abbrev NP:=c7 (Int.toNat (Ul y)) (cm (oI y) (fun a=>(mU a y.1).1) (fun a=>(mU a y.1).2))
abbrev NQ:=c7 1 (cm (List.length (CU h)) (fun a=>(mU a (CU h)).1) (fun a=>(mU a (CU h)).2))
abbrev aaa:=∀(a:Nat),dZ ((qe x).D2 a)->(Nat.beq a n&&not (true&&Nat.beq x.2.nb 0))=false
abbrev aac:=∀(a:Nat),dZ ((qe x).D a)->wI a n=false
abbrev ahc:=∀(a:Nat),aaa a x->(∀(b:Nat),aac b x->(∃(c:Nat×Pd),cZ (Ap n y c) (b=c.1) (ak5 a x c) (lU 2 false (cU (fun a=>GB a List.nil ((qe x).D a) (qe x)) (ak7 a x)) (fun a=>(qe x).D a||wI a b)) (Ax c)))
abbrev T8:=Pl.n (jW 0 NB) (jW 0 NB)
abbrev ZN:=Nd.mk 2 (eK (Ky y).1 none (iG 81) 0 (Ul y)) List.nil (fun a=>c9 a (Dj n g::NH))
abbrev od:=NI (oI y)
abbrev ZP:=gK x.1 16 (JS x<=x.2.cb) (tK (qe x) (aP n) (JS x) x.2.f (jS n y.1 x.1))
abbrev ZR:=cq (JS x) x.2.cb 1 135 (yw (aP Kx) x.2.f)
abbrev ahu:=bT z.nb z.cb (tK z.P (aP n) z.nb z.f (g.B++wY n g.l))
abbrev ahv:=∀(a:Nat),dZ (z.P.D2 a)->(wI a n&&not (true&&Nat.beq z.nb 0))=false
abbrev Z8:=Nd.mk 1 (Ky y).1 (Ky y).2 qz0
end
theorem alH (m:Nat)(x:List Rw×Nat):gS (uI (Pl.s 0 T8) (Pl.s 4 T8) (k7 5 (qx 11 (jW 0 (jW 1 (Pl.s 3 T8)))) (uI (jW 0 (jW 1 (Pl.s 2 x4))) (qx 0 (jW 1 (Dh (qx 4 (jW 0 (qx 1 (jW 0 (uI Pl.k Pl.k (jW 4 (qx 1 (jW 0 (uI Pl.k Pl.k x4)))))))))))) (AL 1 2 T8 (Pl.s 0 T8))))) (runM (Yq m x.1) 57 Tryz.f57 (D1 (m+1)) x) ((fun(a:Nat->Nat×n7->SV)=>(fun(b:Nat->Nat×n7->w7->SV)=>(fun(c:Nat->Nat×n7->SV)=>(fun(d:List Rw×Nat×Nat->SB)=>gA (aS (Fits wK) (∀(a:Nat),∃(b:Nat×Pd),cZ (Ap m x b) (a=b.1) (Z0 b) (lU 2 false (cU (fun _=>dQ wK) Z1) (fun b=>wI b a)) (Ax b)) (∀(a:Nat),∃(b:Nat×Pd),Ap m x b/\agW a b) (bB wK)) (gp (Ix 0 (od x)) (0<oI x) (Ix 0 (od x)) (0<oI x) (Fits (Z8 x)) (Bk (bB (Z8 x)) (∀(a:Nat),∃(b:Nat×Pd),cZ (Ap m x b) (a=b.1) (Z0 b) (lU 2 false (cU (fun _=>dQ (Z8 x)) Z1) (fun b=>wI b a)) (Ax b)) (∀(a:Nat),∃(b:Nat×Pd),Ap m x b/\agW a b))) (ak (Ix 0 (od x)) (0<oI x) (aI (I6 (od x - 1)) (Ix (od x - 1) (od x)) (fM (od x - 1)<oI x) (List.length (Ky x).1<9223372036854775807) (bf (ak (Ix 0 (od x)) (0<oI x) (bl (I6 (od x - 1)) (Ix (od x - 1) (od x)) (fM (od x - 1)<oI x) (List.length (Ky x).1<9223372036854775807) (Ix 0 (od x)) (0<oI x) (ak ((0:Int)<=0) (0<=Ul x) (Ul x<=bh (Ky x).1)) (aL (jh (Er false/\cI (oI x) (oI x)) True) (0<=Ul x) (lq (oI x)) (∀(a:Nat),a<oI x->Int.toNat (Ul x)<=List.length (mU a x.1).1)) (∀(a:Nat),aX (List.length (NP x)) a (∃(b:w7),cZ (agT m b) (List.length (NP x)=F6 b/\a=b.c) (aI (b.nb=0) (oh (agR b)) (∀(a:Nat),¬SB.jD 0 (Pd.parts b.P 4) a) (∀(a:Nat),¬SB.jD 0 (Pd.lists b.P 3) a) (∀(a:n7),ahu m b a->aS (Fits (ZN m x b)) (∀(c:Nat),ahv c a->(∀(d:Nat),(∀(b:Nat),dZ (AD b a)->wI b d=false)->(∃(e:Nat×Pd),cZ (Ap m x e) (d=e.1) (agN c e a) (lU 2 false (cU (fun c=>GB c (dQ (ZN m x b)) (AD c a) a.P) (agP c a)) (fun b=>AD b a||wI b d)) (Ax e)))) (∀(b:Nat),ahv b a->(∀(c:Nat),(∀(b:Nat),dZ (AD b a)->wI b c=false)->(∃(d:Nat×Pd),cZ (Ap m x d) (c=d.1) (agN b d a) (lU 2 false (cU (fun b=>GB b List.nil (AD b a) a.P) (agP b a)) (fun b=>AD b a||wI b c)) (Ax d)))) (bB (ZN m x b)))) (gB (List.length (NP x)) (a*2) 248 (mY (NP x) (NP x))) (TL b))))) ((∃(b:Nat×n7),ak (ZP m x b) (0=ye b) (aI (JS b=0) (oh (ZR b)) (∀(a:Nat),¬SB.jD 0 (Pd.parts (qe b) (Kx+2)) a) (∀(a:Nat),¬SB.jD 0 (Pd.lists (qe b) (aP Kx)) a) (bH 19 (agQ b a) (bx 3::aF cn cn zY) 246)))/\(∀(a:Nat×n7),ZP m x a->bf (∃(e:List Rw×Nat×Nat),aI (lq (qi e)) (oI x=qi e/\x.2=e.2.1) (af (Gk x) (SB.rows false (qi e) (mY e.1 e.1) true (e.2.1*2) 248)) (bH 1 (d e) [bC (ye a)] 3) (∀(f:Nat),aX (AB e) f (ak (some (d e)=some (cR 1 (bC (ye a)) List.nil 3)) (aL (jh (jw/\cI (AB e) (AB e)) True) ((0:Int)<=1) (lq (AB e)) (∀(a:Nat),a<AB e->1<=List.length (mU a (CU e)).1)) (∀(f:Nat),aX (List.length (NQ e)) f (dW (d e)/\(∃(g:w7),cZ (agT m g) (List.length (NQ e)=F6 g/\f=g.c) (aI (JS a=g.nb/\a.2.cb=g.cb) (af (ZR a) (agR g)) (uK 4 (lU 2 false (cU (qe a).vb (cB (qt (Kx+2) 1 (qe a).fb (qe a).nb (qe a).cb))) (qe a).D) g.P) (qp 3 (rX (qe a).n2 (qe a).D2 [wR (aP Kx) (qe a)]) g.P) (∀(f:n7),ahu m g f->aI (dW (d e)) (Ix (ye a) 16) (Int.toNat (ye a)<16) (I6 (ye a+1)) (∃(d:Nat×n7),ak (cg 16 d.1 16 a.1 (ZP m x d)) (ye a+1=ye d) (aI (f.nb=JS d/\f.cb=d.2.cb) (af (cq f.nb f.cb 1 135 (yw 4 f.f)) (ZR d)) (uK (Kx+2) (lU 2 false (cU f.P.vb (cB (qt 5 1 f.P.fb f.P.nb f.P.cb))) f.P.D) (qe d)) (qp (aP Kx) (rX f.P.n2 f.P.D2 [wR 4 f.P]) (qe d)) (bH 19 (agQ d c) (bC 3::aF uz uz (aD (b 0 a g) (b 1 a g) (b 2 a g) (b 3 a g) (b 4 a g) (b 5 a g) (b 6 a g) (b 7 a g) (aD (b 8 a g) (b 9 a g) (b 10 a g) (b 11 a g) (b 12 a g) (b 13 a g) (b 14 a g) (b 15 a g) List.nil))) 246))))) (gB (List.length (NQ e)) (f*2) 248 (mY (NQ e) (NQ e))) (TL g))))))) (ak (Ix 0 (od x)) (0<oI x) (Fk ((Ky x).1=[]) (aL (Ix 0 (od x)) (0<oI x) (Fits (Nd.mk 3 List.nil (Ky x).2 (Xp m x a))) (Bk (bB (Nd.mk 3 List.nil (Ky x).2 (Xp m x a))) (∀(b:Nat),aaa b a->(∀(c:Nat),aac c a->(∃(d:Nat×Pd),cZ (Ap m x d) (c=d.1) (ak5 b a d) (lU 2 false (cU (fun b=>GB b (dQ (Nd.mk 3 List.nil (Ky x).2 (Xp m x a))) ((qe a).D b) (qe a)) (ak7 b a)) (fun b=>(qe a).D b||wI b c)) (Ax d)))) (ahc m x a))) (aS (Fits (Nd.mk 3 List.nil List.nil (Xp m x a))) (∀(b:Nat),aaa b a->(∀(c:Nat),aac c a->(∃(d:Nat×Pd),cZ (Ap m x d) (c=d.1) (ak5 b a d) (lU 2 false (cU (fun b=>GB b (dQ (Nd.mk 3 List.nil List.nil (Xp m x a))) ((qe a).D b) (qe a)) (ak7 b a)) (fun b=>(qe a).D b||wI b c)) (Ax d)))) (ahc m x a) (bB (Nd.mk 3 List.nil List.nil (Xp m x a)))))) (ye a) 16)) 0 (Ul x)))) (od x) 0 (od x) 1) (fun a=>cR 1 (qu a.2.2) List.nil 3)) (fun a=>fun b=>ax (mX m b.1 a x))) (fun a=>fun b=>fun c=>ax (if Int.toNat (ye b)=a then Dj m c else mX m b.1 a x))) (fun a=>fun b=>ax (mX m b.1 a x))):=⟨by kernel_rfl,by kernel_rfl⟩
def Pd.or (P Q:Pd):Pd :=
 {D:=fun b=>P.D b||Q.D b,vb:=fun b=>bif P.D b then P.vb b else Q.vb b,fb:=fun b=>bif P.D b then P.fb b else Q.fb b,nb:=fun b=>bif P.D b then P.nb b else Q.nb b,cb:=fun b=>bif P.D b then P.cb b else Q.cb b,
  D2:=fun b=>P.D2 b||Q.D2 b,n2:=fun b=>bif P.D2 b then P.n2 b else Q.n2 b,g:=fun b i=>bif P.D2 b then P.g b i else Q.g b i}
theorem Fj {P Q:Pd}: ∀ {d a:Nat} {L:List (List UInt8)},Told P d a L->Told (P.or Q) d a L
 | 0,_,_,h=>h.elim
 | d+1,a,L,⟨h1,Ks,h2,h3,h4,h5⟩=>by
   have e2:(P.or Q).nb a=P.nb a:=by show(bif P.D a then _ else _)=_;rw[h1];rfl
   have e3:(P.or Q).fb a=P.fb a:=by show(bif P.D a then _ else _)=_;rw[h1];rfl
   have e4:(P.or Q).vb a=P.vb a:=by show(bif P.D a then _ else _)=_;rw[h1];rfl
   refine⟨by show(P.D a||Q.D a)=true;rw[h1];rfl,Ks,e2.trans h2,fun h=> ?_,by rw[e4];exact h4,fun i L' hi=> ?_⟩
   ·obtain⟨g1,g2⟩:=h3 h;rw[e3];refine⟨by show(P.D2 _||Q.D2 _)=true;rw[g1];rfl,?_⟩;show _<=(bif P.D2 _ then _ else _)
    rw[g1];exact g2
   ·have hk:0<Ks.length:=Nat.lt_of_le_of_lt (Nat.zero_le _) (List.getElem?_eq_some_iff.1 hi).1;have:(P.or Q).g ((P.or Q).fb a) i=P.g (P.fb a) i:=by rw[e3];show(bif P.D2 _ then _ else _)=_;rw[(h3 hk).1];rfl
    rw[this];exact Fj (h5 i L' hi)
theorem Ld {P Q:Pd}(hd: ∀ b,P.D b=true->Q.D b=false)(hd2: ∀ b,P.D2 b=true->Q.D2 b=false): ∀ {d a:Nat} {L:List (List UInt8)},Told Q d a L->Told (P.or Q) d a L
 | 0,_,_,h=>h.elim
 | d+1,a,L,⟨h1,Ks,h2,h3,h4,h5⟩=>by
   have hp:P.D a=false:=by
    cases h:P.D a with
    | false=>rfl
    | true=>rw[hd a h] at h1;cases h1
   have hp2: ∀ b,Q.D2 b=true->P.D2 b=false:=fun b hb=>by
    cases h:P.D2 b with
    | false=>rfl
    | true=>rw[hd2 b h] at hb;cases hb
   have e2:(P.or Q).nb a=Q.nb a:=by show(bif P.D a then _ else _)=_;rw[hp];rfl
   have e3:(P.or Q).fb a=Q.fb a:=by show(bif P.D a then _ else _)=_;rw[hp];rfl
   have e4:(P.or Q).vb a=Q.vb a:=by show(bif P.D a then _ else _)=_;rw[hp];rfl
   refine⟨by show(P.D a||Q.D a)=true;rw[h1,Bool.or_true],Ks,e2.trans h2,fun h=> ?_,by rw[e4];exact h4,fun i L' hi=> ?_⟩
   ·obtain⟨g1,g2⟩:=h3 h;rw[e3];refine⟨by show(P.D2 _||Q.D2 _)=true;rw[g1,Bool.or_true],?_⟩;show _<=(bif P.D2 _ then _ else _)
    rw[hp2 _ g1];exact g2
   ·have hk:0<Ks.length:=Nat.lt_of_le_of_lt (Nat.zero_le _) (List.getElem?_eq_some_iff.1 hi).1;have:(P.or Q).g ((P.or Q).fb a) i=Q.g (Q.fb a) i:=by rw[e3];show(bif P.D2 _ then _ else _)=_;rw[hp2 _ (h3 hk).1];rfl
    rw[this];exact Ld hd hd2 (h5 i L' hi)
theorem aaJ {P:Pd}: ∀ {d a:Nat} {L:List (List UInt8)},Told P d a L->Told P (d+1) a L
 | 0,_,_,h=>h.elim
 | _+1,_,_,⟨h1,Ks,h2,h3,h4,h5⟩=>⟨h1,Ks,h2,h3,h4,fun i L' hi=>aaJ (h5 i L' hi)⟩
theorem aiK {P:Pd}: ∀ {d a:Nat} {L:List (List UInt8)},Told P d a L->0<L.length
 | 0,_,_,h=>h.elim
 | _+1,_,_,⟨_,_,_,_,h4,_⟩=>by rw[h4];exact Nat.succ_pos _
theorem Mu {α:Type}: ∀(Ks:List (List α)),(∀ L,L∈ Ks->0<L.length)->Ks.length<=Ks.flatten.length
 | [],_=>Nat.zero_le _
 | L::Ks,h=>by have h1:=h L (List.mem_cons_self ..);have h2:=Mu Ks fun x hx=>h x (List.mem_cons_of_mem _ hx);rw[List.length_cons,List.flatten_cons,List.length_append];omega
theorem Ll {P:Pd}{d n:Nat}{f:Nat->Nat}{B:List (List UInt8)}(h:tK P d n f B):n<=B.length:=by obtain⟨Ks,h1,h2,h3⟩:=h;rw[h1,← h2];refine Mu Ks fun L hL=> ?_;obtain⟨i,hi⟩:=List.getElem?_of_mem hL;exact aiK (h3 i L hi)
theorem Vp {P Q:Pd}{d n n':Nat}{f f':Nat->Nat}{B B':List (List UInt8)}(hd: ∀ b,P.D b=true->Q.D b=false)(hd2: ∀ b,P.D2 b=true->Q.D2 b=false)(h:tK P d n f B)(h':tK Q d n' f' B') :
  tK (P.or Q) d (n+n') (fun j=>if j<n then f j else f' (j - n)) (B++B'):=by
 obtain⟨Ks,h1,h2,h3⟩:=h;obtain⟨Ks',k1,k2,k3⟩:=h';refine⟨Ks++Ks',by rw[List.length_append,h1,k1],by rw[List.flatten_append,h2,k2],fun i L' hi=> ?_⟩;by_cases hlt:i<n
 ·rw[List.getElem?_append_left (by omega)] at hi;show Told _ d (if i<n then f i else _) L'
  rw[if_pos hlt];exact Fj (h3 i L' hi)
 ·rw[List.getElem?_append_right (by omega)] at hi;show Told _ d (if i<n then f i else f' (i - n)) L'
  rw[if_neg hlt];rw[← h1] at hi;exact Ld hd hd2 (k3 _ L' hi)
theorem Lj {P:Pd}{d a:Nat}{L:List (List UInt8)}(h:Told P (d+1) a L):tK P (d+1) (P.nb a) (fun i=>P.g (P.fb a) i) L.tail/\(0<P.nb a->P.D2 (P.fb a)=true/\P.nb a<=P.n2 (P.fb a))/\L=P.vb a::L.tail/\P.D a=true:=by obtain⟨h1,Ks,h2,h3,h4,h5⟩:=h;exact⟨⟨Ks,h2,by rw[h4];rfl,fun i L' hi=>aaJ (h5 i L' hi)⟩,fun h=>by rw[h2] at h ⊢;exact h3 h,by rw[h4];rfl,h1⟩
theorem ajn {P:Pd}{d a:Nat}{L:List (List UInt8)}(h:Told P d a L):tK P d 1 (fun i=>aim [a] i) L:=⟨[L],rfl,by simp,fun i L' hi=>by
 match i,hi with
 | 0,hi=>injection hi with hi;subst hi;exact h
 | i+1,hi=>simp at hi⟩
theorem UF {s:List UInt8}(h:s.length<=700):(gu s).length<=700:=by
 by_cases hl:s.length<32
 ·rw[oJ hl];exact h
 ·rw[(qZ hl).2.2];omega
theorem qE {m:Nat}{l:List Rw}(hm:m<=13)(h:dI m l)(hl:l≠[]):(ctext m l).length<=700:=(Zh (jC hm h hl)).2
end Go.Proofs.YtpaaiebohjjieaaGreatDoor
