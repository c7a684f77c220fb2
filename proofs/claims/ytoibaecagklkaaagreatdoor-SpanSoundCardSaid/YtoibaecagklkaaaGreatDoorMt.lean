/-
  Node: plain laws: a node's bytes tell the node.
-/
import Derived.Test.YtoibaecagklkaaaGreatDoorMs
import Derived.Test.YtoibaecagklkaaaGreatDoorMq
namespace Go.Proofs.YtoibaecagklkaaaGreatDoor
open Go Sx
set_option maxRecDepth 20000
theorem iQ {b:List UInt8}(hb:b.length<=1048576):bE (ax b)=true/\cQ (ax b)=false/\aa (ax b)=b/\aE (ax b)=[]:=by
 have:=FJ hb []
 rwa [List.append_nil] at this
theorem m7 {b:List UInt8}(hb:b.length<=1048576):cC (ax b)=true:=by
 obtain⟨h1,h2,_,h4⟩:=iQ hb
 exact qd.2 ⟨h1,h2,h4⟩
theorem Ae {l:List (List UInt8)}(hl:(flat l).length<=1048576):bE (dL l)=true/\cQ (dL l)=true/\aa (dL l)=flat l/\aE (dL l)=[]:=by
 have:=Q1 hl []
 rwa [List.append_nil] at this
theorem SE {l:List (List UInt8)}(hl:(flat l).length<=1048576):dL l≠[128]:=fun h=>by
 have h1:=(Ae hl).2.1
 rw[h] at h1
 exact absurd h1 (by decide)
theorem rN {l:List (List UInt8)}(hl:(flat l).length<=1048576)(hw: ∀ x∈ l,bE x=true/\aE x=[]) :
  aq (dL l)=nS (flat l)/\aa (dL l)=flat l/\c9 (flat l)=true/\bB (flat l)=l.length/\∀(j:Nat) (x:List UInt8),l[j]?=some x->aj (flat l) j=x:=by
 obtain⟨h1,h2,h3,h4⟩:=Ae hl
 obtain⟨i1,i2,i3⟩:=z8 l hw
 refine⟨?_,h3,i1,i2,i3⟩
 rw[aq,if_neg (SE hl),h1,h2,h4,h3];rfl
theorem tT {t:List UInt8}(h:gE bO t=true):bE t=true/\aE t=[]/\t≠[128]/\t≠[]:=by
 have hn: ∀ {t:List UInt8},bE t=true->t≠[]:=fun h e=>by rw[e] at h;exact absurd h (by decide)
 simp only[gE,Bool.or_eq_true] at h
 rcases h with h | h
 ·obtain⟨⟨h1,_,h3⟩,h4⟩:=oF.1 h
  exact⟨h1,h3,fun e=>by have:=od h;rw[e] at this;simp at this,hn h1⟩
 ·obtain⟨h1,h2,h3⟩:=ve h
  have hs:1<=aq t:=by
   by_cases e:aq t=0
   ·exact absurd (by unfold getD;rw[if_neg (by omega),if_neg (by omega),if_neg (by omega)];rfl) h3
   ·omega
  obtain⟨g1,_,g3,_⟩:=zl hs
  exact⟨g1,g3,fun e=>by rw[e] at hs;exact absurd hs (by decide),hn g1⟩
def F5 (s:List UInt8)(x:Nd):Prop:=0<=aq s/\(getD s).C0 x
theorem j5 (j:Nat)(hj:j<16):ay j=[]:=eo (fun _=>[]) j hj
theorem Gc {x:Nd}{l:Int}(h:fZ x l=true):fB x.p=true:=by
 simp only[fZ,Bool.and_eq_true] at h
 exact h.2
theorem Fz {x:Nd}(h:fB x.p=true)(leaf:Bool):cD x leaf=cZ x.p leaf:=by rw[cD,h];rfl
theorem Pn:bE [128]=true/\aE [128]=[]:=by
 have:=iQ (b:=[]) (by decide)
 exact⟨this.1,this.2.2.2⟩
attribute [local irreducible] aj aa bE aE cQ bB c9 cC eC c8 cV cZ ax bJ
theorem G7 {x:Nd}(hk:x.k=1)(h:js x=true):F5 (iI x) x:=by
 have hnib:fB x.p=true:=by
  simp only[js,Bool.and_eq_true] at h
  exact Gc h.1
 obtain⟨h1,_,h3,h4⟩:=ri h
 have l1:=mq (x:=x) (leaf:=true)
 have l2:=iq (cD x true)
 have l3:=iq x.v
 have l4:=mH (a:=ax (cD x true)) (b:=ax x.v)
 obtain⟨a1,a2,a3,a4⟩:=iQ (b:=cD x true) (by omega)
 obtain⟨b1,b2,b3,b4⟩:=iQ (b:=x.v) (by omega)
 obtain⟨s1,s2,s3,s4,s5⟩:=rN (l:=[ax (cD x true),ax x.v]) (by omega) (fun y hy=>by
  simp only[List.mem_cons,List.not_mem_nil,or_false] at hy
  rcases hy with rfl | rfl
  ·exact⟨a1,a4⟩
  ·exact⟨b1,b4⟩)
 have i0:=s5 0 _ rfl
 have i1:=s5 1 _ rfl
 obtain⟨n1,n2,n3⟩:=BD hnib true
 have p0:cC (aj (flat [ax (cD x true),ax x.v]) 0)=true:=by rw[i0];exact m7 (by omega)
 have p1:cC (aj (flat [ax (cD x true),ax x.v]) 1)=true:=by rw[i1];exact m7 (by omega)
 have c0:aa (aj (flat [ax (cD x true),ax x.v]) 0)=cZ x.p true:=by rw[i0,a3,Fz hnib]
 have hs:aq (iI x)=1:=by
  rw[iI,s1,nS,s3,s4]
  show lW _=1
  rw[lW,p0,c0,n1,n2,p1];rfl
 refine⟨by rw[hs];decide,?_⟩
 have e:getD (iI x)=lM (iI x):=by unfold getD;rw[if_pos hs]
 rw[e]
 unfold lM iI
 rw[s2]
 refine⟨hk.symm,?_,?_,fun j hj=> ?_⟩
 ·show cV (aa (aj (flat [ax (cD x true),ax x.v]) 0))=x.p
  rw[c0,n3]
 ·show aa (aj (flat [ax (cD x true),ax x.v]) 1)=x.v
  rw[i1,b3]
 ·rw[h4 j hj];exact j5 j hj
theorem MJ {x:Nd}(hk:x.k=2)(h:mJ bO x=true):F5 (nX x) x:=by
 have hnib:fB x.p=true:=by
  simp only[mJ,Bool.and_eq_true] at h
  exact Gc h.1
 obtain⟨h1,h2,h3,_,h4⟩:=vq h
 have hm:gE bO (x.r 0)=true:=by
  simp only[gE,Bool.or_eq_true]
  exact h4.imp id fun h=>h.1
 obtain⟨r1,r2,_,_⟩:=tT hm
 have rl:=tP hm
 have l1:=mq (x:=x) (leaf:=false)
 have l2:=iq (cD x false)
 have l4:=mH (a:=ax (cD x false)) (b:=x.r 0)
 obtain⟨a1,a2,a3,a4⟩:=iQ (b:=cD x false) (by omega)
 obtain⟨s1,s2,s3,s4,s5⟩:=rN (l:=[ax (cD x false),x.r 0]) (by omega) (fun y hy=>by
  simp only[List.mem_cons,List.not_mem_nil,or_false] at hy
  rcases hy with rfl | rfl
  ·exact⟨a1,a4⟩
  ·exact⟨r1,r2⟩)
 have i0:=s5 0 _ rfl
 have i1:=s5 1 _ rfl
 obtain⟨n1,n2,n3⟩:=BD hnib false
 have p0:cC (aj (flat [ax (cD x false),x.r 0]) 0)=true:=by rw[i0];exact m7 (by omega)
 have c0:aa (aj (flat [ax (cD x false),x.r 0]) 0)=cZ x.p false:=by rw[i0,a3,Fz hnib]
 have hs:aq (nX x)=2:=by
  rw[nX,s1,nS,s3,s4]
  show lW _=2
  rw[lW,p0,c0,n1,n2];rfl
 refine⟨by rw[hs];decide,?_⟩
 have e:getD (nX x)=qY (nX x):=by unfold getD;rw[if_neg (by omega),if_pos hs]
 rw[e]
 unfold qY nX
 rw[s2]
 refine⟨hk.symm,?_,h2.symm,fun j hj=> ?_⟩
 ·show cV (aa (aj (flat [ax (cD x false),x.r 0]) 0))=x.p
  rw[c0,n3]
 ·show ak (aj (flat [ax (cD x false),x.r 0]) 1) j=x.r j
  rw[i1]
  have:ak (x.r 0) j=(fun i=>if i=0 then x.r 0 else []) j:=eo (fun i=>if i=0 then x.r 0 else []) j hj
  rw[this]
  show(if j=0 then x.r 0 else [])=x.r j
  by_cases e:j=0
  ·subst e;rfl
  ·rw[if_neg e,h3 j (by omega) hj]
def Eb (x:Nd):List (List UInt8):=[aQ x.r 16 0,aQ x.r 16 1,aQ x.r 16 2,aQ x.r 16 3,aQ x.r 16 4,aQ x.r 16 5,aQ x.r 16 6,aQ x.r 16 7,aQ x.r 16 8,aQ x.r 16 9,aQ x.r 16 10,aQ x.r 16 11,aQ x.r 16 12,aQ x.r 16 13,aQ x.r 16 14,aQ x.r 16 15,ax x.v]
theorem SI (x:Nd)(j:Nat)(hj:j<16):(Eb x)[j]?=some (aQ x.r 16 j):=by
 have:j=0∨j=1∨j=2∨j=3∨j=4∨j=5∨j=6∨j=7∨j=8∨j=9∨j=10∨j=11∨j=12∨j=13∨j=14∨j=15:=by omega
 rcases this with rfl | rfl | rfl | rfl | rfl | rfl | rfl | rfl | rfl | rfl | rfl | rfl | rfl | rfl | rfl | rfl<;>rfl
theorem Sd {x:Nd}{y:List UInt8}(h:y∈ Eb x):(∃ j,j<16/\y=aQ x.r 16 j)∨y=ax x.v:=by
 simp only[Eb,List.mem_cons,List.not_mem_nil,or_false] at h
 rcases h with h | h | h | h | h | h | h | h | h | h | h | h | h | h | h | h | h
 ·exact .inl ⟨0,by decide,h⟩
 ·exact .inl ⟨1,by decide,h⟩
 ·exact .inl ⟨2,by decide,h⟩
 ·exact .inl ⟨3,by decide,h⟩
 ·exact .inl ⟨4,by decide,h⟩
 ·exact .inl ⟨5,by decide,h⟩
 ·exact .inl ⟨6,by decide,h⟩
 ·exact .inl ⟨7,by decide,h⟩
 ·exact .inl ⟨8,by decide,h⟩
 ·exact .inl ⟨9,by decide,h⟩
 ·exact .inl ⟨10,by decide,h⟩
 ·exact .inl ⟨11,by decide,h⟩
 ·exact .inl ⟨12,by decide,h⟩
 ·exact .inl ⟨13,by decide,h⟩
 ·exact .inl ⟨14,by decide,h⟩
 ·exact .inl ⟨15,by decide,h⟩
 ·exact .inr h
theorem uy (r:Nat->List UInt8)(j:Nat)(hj:j<16):(r j=[]/\aQ r 16 j=[128])∨(r j≠[]/\aQ r 16 j=r j):=by
 unfold aQ
 rw[if_pos hj]
 by_cases e:r j=[]
 ·exact .inl ⟨e,by rw[if_pos e]⟩
 ·exact .inr ⟨e,by rw[if_neg e]⟩
theorem JV {x:Nd}(h:c7 bO x=true):(flat (Eb x)).length<=617:=by
 obtain⟨_,h2,h3,_⟩:=nk h
 have hb: ∀ j,j<16->(aQ x.r 16 j).length<=33:=fun j hj=>by
  rcases uy x.r j hj with ⟨_,e⟩ | ⟨e0,e⟩
  ·rw[e];decide
  ·rw[e]
   rcases oV h3 hj with h | h
   ·exact absurd h e0
   ·exact tP h
 have e:flat (Eb x)=flat [aQ x.r 16 0,aQ x.r 16 1,aQ x.r 16 2,aQ x.r 16 3,aQ x.r 16 4,aQ x.r 16 5,aQ x.r 16 6,aQ x.r 16 7,aQ x.r 16 8,aQ x.r 16 9,aQ x.r 16 10,aQ x.r 16 11,aQ x.r 16 12,aQ x.r 16 13,aQ x.r 16 14,aQ x.r 16 15]++ax x.v:=by
  show flat ([aQ x.r 16 0,aQ x.r 16 1,aQ x.r 16 2,aQ x.r 16 3,aQ x.r 16 4,aQ x.r 16 5,aQ x.r 16 6,aQ x.r 16 7,aQ x.r 16 8,aQ x.r 16 9,aQ x.r 16 10,aQ x.r 16 11,aQ x.r 16 12,aQ x.r 16 13,aQ x.r 16 14,aQ x.r 16 15]++[ax x.v])=_
  simp only[flat,List.flatten_append,List.flatten_cons,List.flatten_nil,List.append_nil]
 have h6:(flat [aQ x.r 16 0,aQ x.r 16 1,aQ x.r 16 2,aQ x.r 16 3,aQ x.r 16 4,aQ x.r 16 5,aQ x.r 16 6,aQ x.r 16 7,aQ x.r 16 8,aQ x.r 16 9,aQ x.r 16 10,aQ x.r 16 11,aQ x.r 16 12,aQ x.r 16 13,aQ x.r 16 14,aQ x.r 16 15]).length<=16*33:=by
  refine KE (m:=33) fun y hy=> ?_
  simp only[List.mem_cons,List.not_mem_nil,or_false] at hy
  rcases hy with rfl | rfl | rfl | rfl | rfl | rfl | rfl | rfl | rfl | rfl | rfl | rfl | rfl | rfl | rfl | rfl
  ·exact hb 0 (by decide)
  ·exact hb 1 (by decide)
  ·exact hb 2 (by decide)
  ·exact hb 3 (by decide)
  ·exact hb 4 (by decide)
  ·exact hb 5 (by decide)
  ·exact hb 6 (by decide)
  ·exact hb 7 (by decide)
  ·exact hb 8 (by decide)
  ·exact hb 9 (by decide)
  ·exact hb 10 (by decide)
  ·exact hb 11 (by decide)
  ·exact hb 12 (by decide)
  ·exact hb 13 (by decide)
  ·exact hb 14 (by decide)
  ·exact hb 15 (by decide)
 have h7:=iq x.v
 rw[e,List.length_append]
 omega
theorem Cr {x:Nd}(hk:x.k=3)(h:c7 bO x=true):F5 (eF x) x:=by
 obtain⟨h1,h2,h3,_⟩:=nk h
 have hl:=JV h
 have hT:eF x=dL (Eb x):=rfl
 obtain⟨b1,b2,b3,b4⟩:=iQ (b:=x.v) (by omega)
 have hw: ∀ y∈ Eb x,bE y=true/\aE y=[]:=fun y hy=>by
  rcases Sd hy with ⟨j,hj,rfl⟩ | rfl
  ·rcases uy x.r j hj with ⟨_,e⟩ | ⟨e0,e⟩
   ·rw[e];exact Pn
   ·rw[e]
    rcases oV h3 hj with g | g
    ·exact absurd g e0
    ·exact⟨(tT g).1,(tT g).2.1⟩
  ·exact⟨b1,b4⟩
 obtain⟨s1,s2,s3,s4,s5⟩:=rN (l:=Eb x) (by omega) hw
 have i16:aj (flat (Eb x)) 16=ax x.v:=s5 16 _ rfl
 have p16:cC (aj (flat (Eb x)) 16)=true:=by rw[i16];exact m7 (by omega)
 have hs:aq (eF x)=3:=by
  rw[hT,s1,nS,s3,s4]
  show(bif cC (aj (flat (Eb x)) 16)then(3:Int)else -1)=3
  rw[p16];rfl
 refine⟨by rw[hs];decide,?_⟩
 have e:getD (eF x)=gx (eF x):=by unfold getD;rw[if_neg (by omega),if_neg (by omega),if_pos hs]
 rw[e]
 unfold gx
 rw[hT,s2]
 refine⟨hk.symm,h1.symm,?_,fun j hj=> ?_⟩
 ·show aa (aj (flat (Eb x)) 16)=x.v
  rw[i16,b3]
 ·show aP (aD (flat (Eb x))) j=x.r j
  have e1:aP (aD (flat (Eb x))) j=aD (flat (Eb x)) j:=eo _ j hj
  rw[e1,aD,s5 j _ (SI x j hj)]
  rcases uy x.r j hj with ⟨e0,e⟩ | ⟨e0,e⟩
  ·rw[e,if_pos rfl,e0]
  ·rw[e]
   rcases oV h3 hj with g | g
   ·exact absurd g e0
   ·rw[if_neg (tT g).2.2.1]
theorem IL {x:Nd}(h:nR x=true):F5 [128] x:=by
 obtain⟨h0,h1,h2,h3⟩:=xJ h
 have hs:aq [128]=0:=by decide
 refine⟨by rw[hs];decide,?_⟩
 have e:getD [128]=eN:=by unfold getD;rw[if_neg (by omega),if_neg (by omega),if_neg (by omega)]
 rw[e]
 exact⟨h0.symm,h1.symm,h2.symm,fun j hj=>by rw[h3 j hj];exact j5 j hj⟩
theorem pq {x:Nd}:(x.k=0->cu x=[128])/\(x.k=1->cu x=iI x)/\(x.k=2->cu x=nX x)/\(x.k=3->cu x=eF x):=by
 unfold cu
 refine⟨fun h=>by rw[if_pos h],fun h=>by rw[if_neg (by omega),if_pos h],fun h=>by rw[if_neg (by omega),if_neg (by omega),if_pos h],fun h=>by rw[if_neg (by omega),if_neg (by omega),if_neg (by omega)]⟩
theorem Lw {x:Nd}(h:aS x=true):F5 (cu x) x:=by
 rcases ot h with ⟨hk,h⟩ | ⟨hk,h⟩ | ⟨hk,h⟩ | ⟨hk,h⟩
 ·rw[pq.1 hk];exact IL h
 ·rw[pq.2.1 hk];exact G7 hk h
 ·rw[pq.2.2.1 hk];exact MJ hk h
 ·rw[pq.2.2.2 hk];exact Cr hk h
theorem fE {x:Nd}(h:aS x=true):bG (cu x)=true/\(getD (cu x)).C0 x:=by
 obtain⟨h1,h2⟩:=Lw h
 refine⟨?_,h2⟩
 unfold bG AM
 rw[decide_eq_true h1,show gC bO (getD (cu x))=true from(vE h2).trans h,Kx h2]
 simp
theorem Km {x:Nd}(h:aS x=true):1<=(cu x).length/\(cu x).length<=700:=by
 have hp: ∀ l:List (List UInt8),1<=(dL l).length/\(dL l).length<=(flat l).length+9:=fun l=>by
  have h1:=zn 192 (flat l).length
  have h2:=oo 192 (flat l).length
  unfold dL
  rw[List.length_append];omega
 rcases ot h with ⟨hk,h⟩ | ⟨hk,h⟩ | ⟨hk,h⟩ | ⟨hk,h⟩
 ·rw[pq.1 hk];decide
 ·rw[pq.2.1 hk]
  obtain⟨h1,_,h3,_⟩:=ri h
  have l1:=mq (x:=x) (leaf:=true)
  have l2:=iq (cD x true)
  have l3:=iq x.v
  have l4:=mH (a:=ax (cD x true)) (b:=ax x.v)
  have:=hp [ax (cD x true),ax x.v]
  unfold iI
  omega
 ·rw[pq.2.2.1 hk]
  obtain⟨h1,h2,h3,_,h4⟩:=vq h
  have hm:gE bO (x.r 0)=true:=by
   simp only[gE,Bool.or_eq_true]
   exact h4.imp id fun h=>h.1
  have rl:=tP hm
  have l1:=mq (x:=x) (leaf:=false)
  have l2:=iq (cD x false)
  have l4:=mH (a:=ax (cD x false)) (b:=x.r 0)
  have:=hp [ax (cD x false),x.r 0]
  unfold nX
  omega
 ·rw[pq.2.2.2 hk]
  have hl:=JV h
  have:=hp (Eb x)
  show 1<=(dL (Eb x)).length/\(dL (Eb x)).length<=700
  omega
end Go.Proofs.YtoibaecagklkaaaGreatDoor
namespace Go.Proofs.YtoibaecagklkaaaGreatDoor
open Go Sx
set_option maxRecDepth 20000
theorem nN (t:List UInt8)(j:Nat)(hj:j<16):ak t j=if j=0 then t else []:=eo (fun j=>if j=0 then t else []) j hj
theorem Dk (m:Nat)(l:List Rw){i:Nat}(hi:i<16):(gV (m+1) l).r i=if bM l i=[] then [] else dx (ctext m (bM l i)):=by
 match l with
 | []=>exact j5 i hi
 | [_]=>exact j5 i hi
 | r::s::t =>
   have e:gV (m+1) (r::s::t)=fI (fun l'=>if l'=[] then [] else dx (cu (gV m l'))) (r::s::t):=rfl
   rw[e]
   unfold fI
   dsimp only
   by_cases hk:0<bH r.1 ((s::t).getLastD r).1
   ·rw[if_pos hk]
    dsimp only
    rw[nN _ i hi]
    by_cases h0:i=0
    ·subst h0;rw[if_pos rfl];rfl
    ·rw[if_neg h0,cP,if_pos hk,if_neg h0,if_pos rfl]
   ·rw[if_neg hk]
    dsimp only
    exact eo (fun i=>if bM (r::s::t) i=[] then [] else dx (cu (gV m (bM (r::s::t) i)))) i hi
theorem xS (f:Nat->List UInt8)(j:Nat)(hj:j<16):aP f j=f j:=eo f j hj
theorem Ph {f g:Nat->List UInt8}(h: ∀ j,j<16->f j=g j):aP f=aP g:=by
 unfold aP
 rw[h 0 (by decide),h 1 (by decide),h 2 (by decide),h 3 (by decide),h 4 (by decide),h 5 (by decide),h 6 (by decide),h 7 (by decide),h 8 (by decide),h 9 (by decide),h 10 (by decide),h 11 (by decide),h 12 (by decide),h 13 (by decide),h 14 (by decide),h 15 (by decide)]
def Nd.Xn (x:Nd):Prop:=∃ f,x.r=aP f
theorem Np (s:List UInt8):(getD s).Xn:=by
 unfold getD
 split
 ·exact⟨fun _=>[],rfl⟩
 ·split
  ·exact⟨fun j=>if j=0 then aj (aa s) 1 else [],rfl⟩
  ·split
   ·exact⟨_,rfl⟩
   ·exact⟨fun _=>[],rfl⟩
theorem Sv: ∀(m:Nat) (l:List Rw),(gV m l).Xn
 | 0,_=>⟨fun _=>[],rfl⟩
 | _+1,[]=>⟨fun _=>[],rfl⟩
 | _+1,[_]=>⟨fun _=>[],rfl⟩
 | m+1,r::s::t=>by
   have e:gV (m+1) (r::s::t)=fI (fun l'=>if l'=[] then [] else dx (cu (gV m l'))) (r::s::t):=rfl
   rw[e]
   unfold fI
   dsimp only
   split
   ·exact⟨fun j=>if j=0 then(if bM (r::s::t) 0=[] then [] else dx (cu (gV m (bM (r::s::t) 0))))else [],rfl⟩
   ·exact⟨fun i=>if bM (r::s::t) i=[] then [] else dx (cu (gV m (bM (r::s::t) i))),rfl⟩
theorem PE {x y:Nd}(hx:x.Xn)(hy:y.Xn)(h:x.C0 y):x=y:=by
 obtain⟨f,hf⟩:=hx
 obtain⟨g,hg⟩:=hy
 have hr:x.r=y.r:=by
  rw[hf,hg]
  refine Ph fun j hj=> ?_
  have:=h.r j hj
  rw[hf,hg,xS f j hj,xS g j hj] at this
  exact this
 obtain⟨k,p,v,r⟩:=x
 obtain⟨k',p',v',r'⟩:=y
 have h1:=h.k
 have h2:=h.p
 have h3:=h.v
 dsimp only at h1 h2 h3 hr
 subst h1;subst h2;subst h3;subst hr;rfl
theorem mF {m:Nat}{l:List Rw}(h:aS (gV m l)=true):getD (ctext m l)=gV m l:=PE (Np _) (Sv m l) (fE h).2
theorem IS {p v:List UInt8}(hp:p.length<=12)(hn:fB p=true)(hv:0<v.length/\v.length<=80):aS ⟨1,p,v,ay⟩=true:=by
 show js ⟨1,p,v,ay⟩=true
 have hb:bX ay 16=0:=by decide
 have h1:v≠[]:=fun e=>by rw[e] at hv;exact absurd hv.1 (Nat.lt_irrefl _)
 unfold js fZ
 dsimp only
 rw[hn,hb,decide_eq_false h1,decide_eq_true (show(p.length:Int)<=12 by omega),decide_eq_true (show(v.length:Int)<=80 by omega),decide_eq_true (show(0:Int)<=(p.length:Int)by omega)]
 rfl
theorem j0 {s:List UInt8}(h:s.length<32):dx s=s:=if_pos h
theorem mP {s:List UInt8}(h: ¬ s.length<32):bI (dx s)=true/\aa (dx s)=cL s/\(dx s).length=33:=by
 have e:dx s=ax (cL s)++[]:=by rw[dx,if_neg h,List.append_nil]
 obtain⟨h1,h2,h3,h4⟩:=FJ (b:=cL s) (by rw[Gp];decide) []
 rw[← e] at h1 h2 h3 h4
 have hb:bI (dx s)=true:=oF.2 ⟨⟨h1,h2,h4⟩,by rw[h3];exact Gp s⟩
 exact⟨hb,h3,od hb⟩
theorem Ek {x:Nd}(h:aS x=true)(hk:x.k≠0)(hl:(cu x).length<32):bO (cu x)=true/\(getD (cu x)).C0 x:=by
 obtain⟨g1,g2⟩:=fE h
 refine⟨?_,g2⟩
 rw[uK,decide_eq_true hl,g1,decide_eq_false (by rw[g2.k];exact hk)];rfl
theorem GZ {x:Nd}(h:aS x=true)(hk:x.k≠0):gE bO (dx (cu x))=true/\dx (cu x)≠[]:=by
 by_cases hl:(cu x).length<32
 ·have e:=j0 hl
  refine⟨?_,?_⟩
  ·rw[e,gE,(Ek h hk hl).1];simp
  ·rw[e]
   have:=(Km h).1
   intro e0;rw[e0] at this;simp at this
 ·obtain⟨h1,_,h3⟩:=mP hl
  refine⟨by rw[gE,h1];rfl,fun e0=> ?_⟩
  rw[e0] at h3;simp at h3
theorem HS {p:List UInt8}(h: ∀ b,b∈ p->b.toNat<16):fB p=true:=by
 unfold fB
 rw[List.all_eq_true]
 intro i hi
 have hi:=List.mem_range.1 hi
 have:ai p (i:Int)=((p[i]).toNat:Int):=by
  unfold ai
  simp[List.getElem?_eq_getElem hi]
 have hb:=h p[i] (List.getElem_mem hi)
 rw[CY,this,decide_eq_false (by omega)];rfl
theorem GW (r:Nat->List UInt8): ∀ n,0<=cK r n
 | 0=>Int.le_refl _
 | n+1=>by
   have:=GW r n
   unfold cK;split<;>omega
theorem vp {r:Nat->List UInt8}{i:Nat}(hr:r i≠[]): ∀ {n},i<n->1<=cK r n
 | 0,h=>absurd h (Nat.not_lt_zero _)
 | n+1,h=>by
   unfold cK
   by_cases e:i=n
   ·subst e;rw[if_neg hr];have:=GW r i;omega
   ·have:=vp hr (n:=n) (by omega)
    split<;>omega
theorem vr {r:Nat->List UInt8}{i j:Nat}(hij:i<j)(hi:r i≠[])(hj:r j≠[]): ∀ {n},j<n->2<=cK r n
 | 0,h=>absurd h (Nat.not_lt_zero _)
 | n+1,h=>by
   unfold cK
   by_cases e:j=n
   ·subst e;rw[if_neg hj];have:=vp hi (n:=j) hij;omega
   ·have:=vr hij hi hj (n:=n) (by omega)
    split<;>omega
theorem Jy {r:Nat->List UInt8}: ∀ {n},(∀ i,i<n->r i=[]∨gE bO (r i)=true)->iH bO r n=true
 | 0,_=>rfl
 | n+1,h=>by
   unfold iH
   rw[Jy fun i hi=>h i (by omega)]
   rcases h n (Nat.lt_succ_self n)with e | e
   ·rw[decide_eq_true e];rfl
   ·rw[e];simp
theorem HQ {t:List UInt8}(ht:t≠[]):bX (ak t) 16=1:=by
 have key: ∀ n,n<16->bX (ak t) (n+1)=1:=by
  intro n
  induction n with
  | zero=>intro _;unfold bX;rw[nN t 0 (by decide),if_pos rfl,if_neg ht];rfl
  | succ n ih =>
    intro hn
    have e:ak t (n+1)=[]:=by rw[nN t (n+1) hn,if_neg (by omega)]
    unfold bX
    rw[if_pos e]
    exact ih (by omega)
 exact key 15 (by decide)
theorem MR {a b:UInt8}{p q:List UInt8}(h: ¬ 0<bH (a::p) (b::q)):a≠b:=fun e=>by
 subst e
 unfold bH at h
 rw[if_pos rfl] at h
 exact h (Nat.succ_pos _)
theorem PI {l:List Rw}{r s:Rw}{t:List Rw}(hl:l=r::s::t)(hc: ¬ 0<bH r.1 ((s::t).getLastD r).1){b:UInt8}{q v:List UInt8}(hx:(b::q,v)∈ l):bM l b.toNat≠[]:=by
 subst hl
 rw[cP,if_neg hc]
 intro e
 have:(q,v)∈ bT 1 (bx b.toNat (r::s::t)):=List.mem_map.2 ⟨(b::q,v),List.mem_filter.2 ⟨hx,by simp[jD]⟩,rfl⟩
 rw[e] at this;cases this
theorem xI {r s:Rw}{t:List Rw}(k:Nat):(bT k (r::s::t))=(r.1.drop k,r.2)::(s.1.drop k,s.2)::bT k t:=rfl
theorem B3 (k:Nat): ∀(r:Rw) (l:List Rw),(bT k l).getLastD (r.1.drop k,r.2)=((l.getLastD r).1.drop k,(l.getLastD r).2)
 | r,[]=>rfl
 | r,s::l=>by
   rw[show bT k (s::l)=(s.1.drop k,s.2)::bT k l from rfl,List.getLastD_cons,List.getLastD_cons]
   exact B3 k s l
theorem Bs: ∀(a b:List UInt8),bH (a.drop (bH a b)) (b.drop (bH a b))=0
 | [],b=>by simp[bH]
 | a::p,[]=>by simp[bH]
 | a::p,b::q=>by
   by_cases e:a=b
   ·have:bH (a::p) (b::q)=bH p q+1:=by simp only[bH,if_pos e]
    rw[this]
    simp only[List.drop_succ_cons]
    exact Bs p q
   ·have:bH (a::p) (b::q)=0:=by simp only[bH,if_neg e]
    rw[this,List.drop_zero,List.drop_zero,this]
theorem Qj {m:Nat}{l:List Rw}(hl:l≠[]):(gV (m+1) l).k≠0/\((gV (m+1) l).k=3↔∃ r s t,l=r::s::t/\¬ 0<bH r.1 ((s::t).getLastD r).1):=by
 match l,hl with
 | [r],_=>exact⟨by show(1:Int)≠0;decide,⟨fun h=>absurd h (by show ¬ (1:Int)=3;decide),fun⟨_,_,_,h,_⟩=>by cases h⟩⟩
 | r::s::t,_ =>
   have e:gV (m+1) (r::s::t)=fI (fun l'=>if l'=[] then [] else dx (cu (gV m l'))) (r::s::t):=rfl
   rw[e]
   unfold fI
   dsimp only
   by_cases hk:0<bH r.1 ((s::t).getLastD r).1
   ·rw[if_pos hk]
    exact⟨by show(2:Int)≠0;decide,⟨fun h=>absurd h (by show ¬ (2:Int)=3;decide),fun⟨r',s',t',h,h2⟩=>by injection h with h1 h;injection h with h3 h4;subst h1;subst h3;subst h4;exact absurd hk h2⟩⟩
   ·rw[if_neg hk]
    exact⟨by show(3:Int)≠0;decide,⟨fun _=>⟨r,s,t,rfl,hk⟩,fun _=>rfl⟩⟩
theorem U5 {x:Nd}(hk:x.k=3):aS x=c7 bO x:=by unfold aS gC;rw[hk];rfl
theorem gU: ∀ {m:Nat} {l:List Rw},m<=13->cW m l->l≠[]->aS (gV m l)=true
 | 0,[],_,_,h=>absurd rfl h
 | 0,r::_,_,h,_=>absurd (h.len r (List.mem_cons_self ..)) (Nat.not_lt_zero _)
 | m+1,[],_,_,h=>absurd rfl h
 | m+1,[r],hm,h,_=>by
   have h1:=h.len r (List.mem_cons_self ..)
   exact IS (by omega) (HS (h.V2 r (List.mem_cons_self ..))) (h.val r (List.mem_cons_self ..))
 | m+1,r::s::t,hm,h,_=>by
   have kid: ∀ i,bM (r::s::t) i≠[]->gE bO (dx (ctext m (bM (r::s::t) i)))=true/\dx (ctext m (bM (r::s::t) i))≠[]:=fun i hi=>by
    have hv:=gU (m:=m) (by omega) (jJ h i) hi
    have hk:(gV m (bM (r::s::t) i)).k≠0:=by
     match m,jJ h i with
     | 0,ho =>
       cases hkr:bM (r::s::t) i with
       | nil=>exact absurd hkr hi
       | cons x y=>rw[hkr] at ho;exact absurd (ho.len x (List.mem_cons_self ..)) (Nat.not_lt_zero _)
     | m+1,_=>exact(Qj hi).1
    exact GZ hv hk
   have hr:=h.len r (List.mem_cons_self ..)
   by_cases hk:0<bH r.1 ((s::t).getLastD r).1
   ·have e:gV (m+1) (r::s::t)=⟨2,r.1.take (bH r.1 ((s::t).getLastD r).1),[],ak (dx (ctext m (bM (r::s::t) 0)))⟩:=by
     show fI _ (r::s::t)=_
     unfold fI
     dsimp only
     rw[if_pos hk]
     have:bM (r::s::t) 0≠[]:=by rw[cP,if_pos hk,if_pos rfl,xI];exact List.cons_ne_nil _ _
     rw[if_neg this];rfl
    have hk0:bM (r::s::t) 0=bT (bH r.1 ((s::t).getLastD r).1) (r::s::t):=by rw[cP,if_pos hk,if_pos rfl]
    have hne:bM (r::s::t) 0≠[]:=by rw[hk0,xI];exact List.cons_ne_nil _ _
    obtain⟨g1,g2⟩:=kid 0 hne
    have hle:=(xo r.1 ((s::t).getLastD r).1).1
    rw[e]
    show mJ bO _=true
    unfold mJ fZ
    dsimp only
    have e0:ak (dx (ctext m (bM (r::s::t) 0))) 0=dx (ctext m (bM (r::s::t) 0)):=by
     rw[nN _ 0 (by decide)];exact if_pos rfl
    simp only[e0]
    rw[HS (fun b hb=>h.V2 r (List.mem_cons_self ..) b (List.mem_of_mem_take hb)),HQ g2]
    rw[List.length_take,Nat.min_eq_left hle,decide_eq_true (show(1:Int)<=(bH r.1 ((s::t).getLastD r).1:Int)by omega),decide_eq_true (show(bH r.1 ((s::t).getLastD r).1:Int)<=12 by omega)]
    simp only[decide_true,Bool.true_and,Bool.and_self]
    rcases Bool.eq_false_or_eq_true (bI (dx (ctext m (bM (r::s::t) 0))))with hh | hh
    ·rw[hh];rfl
    ·rw[gE,hh,Bool.false_or] at g1
     rw[hh,g1,Bool.false_or,Bool.true_and]
     have hlt:(ctext m (bM (r::s::t) 0)).length<32:=by
      by_cases hlt:(ctext m (bM (r::s::t) 0)).length<32
      ·exact hlt
      ·rw[(mP hlt).1] at hh;cases hh
     rw[j0 hlt]
     have ho:=jJ h 0
     have hv:=gU (m:=m) (by omega) ho hne
     rw[show getD (ctext m (bM (r::s::t) 0))=gV m (bM (r::s::t) 0)from mF hv]
     match m,ho with
     | 0,ho =>
       cases hkr:bM (r::s::t) 0 with
       | nil=>exact absurd hkr hne
       | cons x y=>rw[hkr] at ho;exact absurd (ho.len x (List.mem_cons_self ..)) (Nat.not_lt_zero _)
     | m+1,_ =>
       refine decide_eq_true ((Qj hne).2.2 ⟨_,_,_,hk0.trans (xI _),?_⟩)
       have:((s.1.drop (bH r.1 ((s::t).getLastD r).1),s.2)::bT (bH r.1 ((s::t).getLastD r).1) t).getLastD (r.1.drop (bH r.1 ((s::t).getLastD r).1),r.2)=_:=B3 (bH r.1 ((s::t).getLastD r).1) r (s::t)
       rw[this,Bs];exact Nat.lt_irrefl 0
   ·have e:gV (m+1) (r::s::t)=⟨3,[],if r.1=[] then r.2 else [],aP fun i=>if bM (r::s::t) i=[] then [] else dx (ctext m (bM (r::s::t) i))⟩:=by
     show fI _ (r::s::t)=_
     unfold fI
     dsimp only
     rw[if_neg hk];rfl
    have hget: ∀ i,i<16->(aP fun i=>if bM (r::s::t) i=[] then [] else dx (ctext m (bM (r::s::t) i))) i=if bM (r::s::t) i=[] then [] else dx (ctext m (bM (r::s::t) i)):=fun i hi=>xS _ i hi
    have full: ∀ i,i<16->bM (r::s::t) i≠[]->(aP fun i=>if bM (r::s::t) i=[] then [] else dx (ctext m (bM (r::s::t) i))) i≠[]:=fun i hi hne=>by
     rw[hget i hi,if_neg hne];exact(kid i hne).2
    have hrv:=h.val r (List.mem_cons_self ..)
    have hlast:(s::t).getLastD r∈ r::s::t:=pZ r (s::t)
    have hls:Op.bytesLess r.1 ((s::t).getLastD r).1=true:=by
     have hp:=h.zU
     unfold ru at hp
     rw[List.pairwise_cons] at hp
     refine hp.1 _ ?_
     rw[List.getLastD_cons];exact pZ s t
    rw[e,U5 rfl]
    unfold c7
    dsimp only
    have hcount:(2:Int)<=min ((if r.1=[] then r.2 else []).length:Int) 1+cK (aP fun i=>if bM (r::s::t) i=[] then [] else dx (ctext m (bM (r::s::t) i))) 16:=by
     generalize hz:(s::t).getLastD r=z at hk hlast hls
     obtain⟨rp,rv⟩:=r
     obtain⟨zp,zv⟩:=z
     cases zp with
     | nil=>cases rp<;>simp[Op.bytesLess] at hls
     | cons b q =>
       have hb:b.toNat<16:=h.V2 _ hlast b (List.mem_cons_self ..)
       have hkb:bM ((rp,rv)::s::t) b.toNat≠[]:=PI rfl (by rw[hz];exact hk) hlast
       cases rp with
       | nil =>
         have:=vp (full _ hb hkb) (n:=16) hb
         simp only[if_true]
         have h1:0<rv.length:=hrv.1
         omega
       | cons a p =>
         have ha:a.toNat<16:=h.V2 _ (List.mem_cons_self ..) a (List.mem_cons_self ..)
         have hka:bM ((a::p,rv)::s::t) a.toNat≠[]:=PI rfl (by rw[hz];exact hk) (List.mem_cons_self ..)
         have hab:a.toNat≠b.toNat:=fun e=>MR hk (UInt8.toNat_inj.1 e)
         rw[if_neg (List.cons_ne_nil _ _)]
         have:2<=cK (aP fun i=>if bM ((a::p,rv)::s::t) i=[] then [] else dx (ctext m (bM ((a::p,rv)::s::t) i))) 16:=by
          rcases Nat.lt_or_gt_of_ne hab with hlt | hgt
          ·exact vr hlt (full _ ha hka) (full _ hb hkb) hb
          ·exact vr hgt (full _ hb hkb) (full _ ha hka) ha
         show(2:Int)<=min ((0:Nat):Int) 1+_
         omega
    have hvl:((if r.1=[] then r.2 else []).length:Int)<=80:=by
     split
     ·have:=hrv.2;omega
     ·show((0:Nat):Int)<=80;omega
    rw[decide_eq_true hcount,decide_eq_true hvl,Jy fun i hi=> ?_]
    ·rfl
    ·rw[hget i hi]
     by_cases hn:bM (r::s::t) i=[]
     ·exact .inl (if_pos hn)
     ·rw[if_neg hn];exact .inr (kid i hn).1
theorem mw {k:IntKind}{l:Bool}{a b:Int}(h:a=b):af (.int k l a) (.int k false b):=fun E=>by subst h;rfl
theorem pz {n:Nat}{f g:Nat->List UInt8}{x:Nat}(hx:x<n)(h:gP f g x=false):af (.int .i64 true 1) (.int .i64 false (bY n f g)):=by
 have:GV n f g=false:=List.all_eq_false.2 ⟨x,List.mem_range.2 hx,by rw[h];decide⟩
 exact mw (by rw[bY,this];rfl)
theorem FO (n:Nat)(hn:n<9223372036854775808)(f g:Nat->List UInt8)(z:Bool)(o c:Nat)(key:Option Nat):aA (gJ (QZ n f g) 62 Tryz.f62 [.bP 0 2 z o 0 n c] [gH z o c n f g key] (.ret (.int .i64 false (bY n f g)))):=by
 refine aA.pr (Sf n f g z o c key) ?_
 simp only[Int.toNat_natCast,Nat.zero_add,true_and,Bool.not_eq_true',Bool.not_eq_false',decide_eq_true_eq,decide_eq_false_iff_not]
 refine⟨⟨0,dw.zero _ _,rfl⟩,fun x hx=>⟨fun h=> ?_,fun h=> ?_⟩⟩
 ·have hlt:x<n:=by omega
  refine⟨by omega,hlt,fun a1=>⟨fun a2=>pz hlt ?_,fun a2=>⟨fun a3=>⟨fun a4=>pz hlt ?_,fun a4=>⟨fun a5=>⟨by omega,by omega,by omega,fun a6=>pz hlt ?_,fun a6=>⟨by omega,x+1,⟨hx.next h ?_,by omega⟩,by omega⟩⟩,fun a5=>⟨by omega,x+1,⟨hx.next h ?_,by omega⟩,by omega⟩⟩⟩,fun a3=>pz hlt ?_⟩⟩,fun a1=>pz hlt ?_⟩
  ·simp[gP,uR,a2]
  ·simp[gP,qn,a4]
  ·rw[show((x:Int) - 1).toNat=x - 1 by omega] at a6
   have:x≠0:=by omega
   simp[gP,a6,this]
  ·rw[show((x:Int) - 1).toNat=x - 1 by omega] at a6
   simp[gP,uR,qn,a1,a2,a3,a4,a6]
  ·have:x=0:=by omega
   subst this
   simp[gP,uR,qn,a1,a2,a3,a4]
  ·simp[gP,qn,a3]
  ·simp[gP,uR,a1]
 ·have he:GV n f g=true:=hx.done h
  exact⟨fun h2=>mw (by rw[bY,he,cond_true,if_pos h2]),fun h2=>mw (by rw[bY,he,cond_true,if_neg h2])⟩
theorem Gk (n:Nat)(f g:Nat->List UInt8)(z:Bool)(o c:Nat)(key:Option Nat):aA (gJ (PL n f g) 19 Tryz.f19 [.bP 0 2 z o 0 n c] [gH z o c n f g key] (.ret (.bool false (vi n f g)))):=by
 refine aA.pr (Td n f g z o c key) ?_
 simp only[Int.toNat_natCast,Nat.zero_add,true_and,decide_eq_true_eq,decide_eq_false_iff_not]
 have bad: ∀ {x},x<n->qL f g x=false->af (.bool true false) (.bool false (vi n f g)):=fun {x} hx h=>cq (by
  have:(List.range n).all (qL f g)=false:=List.all_eq_false.2 ⟨x,List.mem_range.2 hx,by rw[h];decide⟩
  rw[vi,this,Bool.and_false])
 refine⟨⟨0,⟨dw.zero _ _,Nat.zero_le _⟩,rfl⟩,fun x hx=>⟨fun h=>⟨fun h1=> ?_,fun h1=> ?_⟩,fun h=> ?_⟩⟩
 ·have hlt:x<n:=by omega
  refine⟨by omega,hlt,fun a1=>bad hlt ?_,fun a1=>⟨by omega,hlt,fun a2=>bad hlt ?_,fun a2=>⟨by omega,x+1,⟨⟨hx.up.next h ?_,by omega⟩,by omega⟩,by omega⟩⟩⟩
  ·simp[qL,a1]
  ·simp[qL,a2]
  ·have e1: ¬ (20:Int)<(f x).length:=a1
   have e2: ¬ (100:Int)<(g x).length:=a2
   rw[qL,decide_eq_false e1,decide_eq_false e2];rfl
 ·refine cq ?_
  have: ¬ (n:Int)<=45:=by omega
  rw[vi,decide_eq_false this];rfl
 ·refine cq ?_
  rw[vi,hx.up.done h,Bool.and_true]
theorem wH {cs:List au}{tot tot':Nat}{ty:TypeId}(ht:tot=tot'):ah (.cells [] tot ty) (.rows false 0 cs false tot' ty):=by
 subst ht
 refine ah.of rfl rfl fun _=>⟨rfl,fun E o ⟨c,fr,h1,h2,h3,h4⟩=>⟨c,fr,h1,fun _=>h2,by omega,h4,fun i k col hi _=>absurd hi (Nat.not_lt_zero _)⟩,id⟩
theorem eZ (n:Nat)(f g:Nat->List UInt8):(aX n f g).length=n:=by simp[aX]
theorem zW {n:Nat}{f g:Nat->List UInt8}{i:Nat}(h:i<n):(aX n f g).getD i ([],[])=(f i,g i):=by
 rw[List.getD_eq_getElem?_getD,aX,List.getElem?_map,List.getElem?_range h];rfl
theorem yY {z:Bool}{n:Nat}{f g:Nat->List UInt8}{c c':Nat}{ty:TypeId}{l:List Rw}(hl:l=aX n f g)(hc:c=c'):ah (.rows z n [.str f,.str g] false (c*2) ty) (.rows z l.length [b8 l,b6 l] false (c'*2) ty):=by
 subst hl;subst hc
 refine lu (eZ n f g).symm rfl rfl fun k d d' h1 h2 i hi E=> ?_
 match k,h1,h2 with
 | 0,h1,h2 =>
   injection h1 with h1;injection h2 with h2;subst h1;subst h2
   simp only[b8,au.at,zW hi]
 | 1,h1,h2 =>
   injection h1 with h1;injection h2 with h2;subst h1;subst h2
   simp only[b6,au.at,zW hi]
 | k+2,h1,_=>simp at h1
theorem Eo {n:Nat}{f f' g g':Nat->List UInt8}{c c':Nat}{z:Bool}{n':Nat}{ty:TypeId}(hn:n=n')(hc:c=c')(hf: ∀ i,i<n->f i=f' i)(hg: ∀ i,i<n->g i=g' i):ah (.rows z n [.str f,.str g] false (c*2) ty) (.rows z n' [.str f',.str g'] false (c'*2) ty):=by
 refine lu hn (by rw[hc]) rfl fun k d d' h1 h2 i hi E=> ?_
 match k,h1,h2 with
 | 0,h1,h2 =>
   injection h1 with h1;injection h2 with h2;subst h1;subst h2
   simp only[au.at,hf i hi]
 | 1,h1,h2 =>
   injection h1 with h1;injection h2 with h2;subst h1;subst h2
   simp only[au.at,hg i hi]
 | k+2,h1,_=>simp at h1
theorem w6 {α:Type}{n j:Nat}(x:Nat->α)(y:Nat->α)(h:j<n+1)(hy:y 0=x n):(if j<n then x j else y (j - n))=x j:=by
 by_cases e:j<n
 ·rw[if_pos e]
 ·have:j=n:=by omega
  subst this
  rw[if_neg e,Nat.sub_self,hy]
theorem uP {k k' w i n n' c c':Nat}{z:Bool}(hk:k=k')(hn:n=n')(hc:c=c'):af (.bw k w z i n c) (.bw k' w z i n' c'):=fun E=>by subst hk;subst hn;subst hc;rfl
theorem HK (n:Nat)(f g:Nat->List UInt8)(hn:n<=1000)(hf: ∀ i,i<n->(f i).length<1099511627776)(z:Bool)(o c:Nat)(key:Option Nat):aA (gJ (OF n f g) 64 Tryz.f64 [.bP 0 2 z o 0 n c] [gH z o c n f g key] (x4 (aX n (fun i=>az (f i)) g))):=by
 refine aA.pr (Vg n f g z o c key) ?_
 simp only[Int.toNat_natCast,Nat.zero_add,true_and,decide_eq_true_eq,decide_eq_false_iff_not]
 refine⟨by omega,⟨(0,n),⟨Nat.zero_le _,Nat.zero_le _⟩,rfl,⟨rfl,rfl⟩,wH rfl⟩,fun x hx=>⟨fun h=> ?_,fun h=> ?_⟩⟩
 ·have hlt:x.1<n:=by omega
  refine⟨by omega,hlt,hf _ hlt,⟨Nat.le_refl _,by omega,by omega⟩,fun c hc=>⟨by omega,(x.1+1,c),⟨⟨by show x.1+1<=_;omega,hc⟩,by show _ - (x.1+1)<_;omega⟩,by show(x.1:Int)+1=((x.1+1:Nat):Int);omega,⟨rfl,rfl⟩,Eo rfl rfl (fun j hj=> ?_) fun j hj=> ?_⟩⟩
  ·exact w6 (fun j=>az (f j)) (bq [az (f x.1)]) hj rfl
  ·exact w6 g (bq [g x.1]) hj rfl
 ·have e:x.1=n:=by have:=hx.1;omega
  exact⟨x.2,by rw[eZ];have:=hx.2;omega,by rw[e];exact yY rfl rfl,uP rfl (by rw[eZ,e]) rfl⟩
theorem Im (k n:Nat)(f g:Nat->List UInt8):bT k (aX n f g)=aX n (fun i=>(f i).drop k) g:=by
 unfold bT aX
 rw[List.map_map];rfl
theorem AJ (n k:Nat)(f g:Nat->List UInt8)(hn:n<=1000)(hk: ∀ i,i<n->k<=(f i).length)(z:Bool)(o c:Nat)(key:Option Nat):aA (gJ (QL n k f g) 102 Tryz.f102 [.bP 0 2 z o 0 n c,.int .i64 false k] [gH z o c n f g key] (x4 (bT k (aX n f g)))):=by
 refine aA.pr (KU n k f g z o c key) ?_
 simp only[Int.toNat_natCast,Nat.zero_add,true_and,decide_eq_true_eq,decide_eq_false_iff_not]
 refine⟨by omega,⟨(0,n),⟨Nat.zero_le _,Nat.zero_le _⟩,rfl,⟨rfl,rfl⟩,wH rfl⟩,fun x hx=>⟨fun h=> ?_,fun h=> ?_⟩⟩
 ·have hlt:x.1<n:=by omega
  have hkl:=hk _ hlt
  refine⟨by omega,hlt,⟨by omega,by omega,by omega⟩,⟨Nat.le_refl _,by omega,by omega⟩,fun c hc=>⟨by omega,(x.1+1,c),⟨⟨by show x.1+1<=_;omega,hc⟩,by show _ - (x.1+1)<_;omega⟩,by show(x.1:Int)+1=((x.1+1:Nat):Int);omega,⟨rfl,rfl⟩,Eo rfl rfl (fun j hj=> ?_) fun j hj=> ?_⟩⟩
  ·refine w6 (fun j=>(f j).drop k) (bq _) hj ?_
   show bz (f x.1) (some (Operand.tmp 20)) none (k:Int) ((f x.1).length:Int)=_
   unfold bz
   simp
  ·exact w6 g (bq [g x.1]) hj rfl
 ·have e:x.1=n:=by have:=hx.1;omega
  rw[Im]
  exact⟨x.2,by rw[eZ];have:=hx.2;omega,by rw[e];exact yY rfl rfl,uP rfl (by rw[eZ,e]) rfl⟩
theorem HD: ∀(a b:List UInt8) (x:Nat),dw (min a.length b.length) (Aa a b) x->(x<min a.length b.length->ai a (x:Int)≠ai b (x:Int)->bH a b=x)/\(¬ x<min a.length b.length->bH a b=x)
 | [],b,x,h=>⟨fun h1 _=>absurd h1 (by simp),fun _=>by
   have:=h.le
   rw[List.length_nil,Nat.zero_min] at this
   have:x=0:=by omega
   subst this;cases b<;>rfl⟩
 | a::p,[],x,h=>⟨fun h1 _=>absurd h1 (by simp),fun _=>by
   have:=h.le
   rw[List.length_nil,Nat.min_zero] at this
   have:x=0:=by omega
   subst this;rfl⟩
 | a::p,b::q,0,h=>⟨fun _ h2=>by
   have:a≠b:=fun e=>h2 (by subst e;rfl)
   rw[bH,if_neg this],fun h1=>by rw[List.length_cons,List.length_cons] at h1;omega⟩
 | a::p,b::q,x+1,h=>by
   have e0:a=b:=by
    have:=h.all 0 (Nat.succ_pos x)
    have:ai (a::p) 0=ai (b::q) 0:=of_decide_eq_true this
    have:(a.toNat:Int)=(b.toNat:Int):=this
    exact UInt8.toNat_inj.1 (by omega)
   have hm:min (a::p).length (b::q).length=min p.length q.length+1:=by rw[List.length_cons,List.length_cons];omega
   have h':dw (min p.length q.length) (Aa p q) x:=⟨by have:=h.le;omega,fun j hj=>by
    have:=h.all (j+1) (by omega)
    unfold Aa at this ⊢
    rw[bL,bL] at this
    exact this⟩
   obtain⟨g1,g2⟩:=HD p q x h'
   have ec:bH (a::p) (b::q)=bH p q+1:=by rw[bH,if_pos e0]
   rw[bL,bL,ec]
   exact⟨fun h1 h2=>by rw[g1 (by omega) h2],fun h1=>by rw[g2 (by omega)]⟩
theorem DX (a b:List UInt8)(ha:a.length<9223372036854775807):aA (fW (QC a b) 100 Tryz.f100 [.str false a,.str false b] (.ret (.int .i64 false (bH a b)))):=by
 refine aA.pr (Qn a b) ?_
 simp only[Bool.not_eq_true',Bool.not_eq_false',decide_eq_true_eq,decide_eq_false_iff_not]
 refine⟨⟨0,dw.zero _ _,rfl⟩,fun x hx=>⟨fun h=> ?_,fun h=> ?_⟩⟩
 ·have hlt:x<min a.length b.length:=by omega
  refine⟨⟨by omega,by omega⟩,⟨by omega,by omega⟩,fun h1=>mw ?_,fun h1=>⟨by omega,x+1,⟨hx.next (by omega) ?_,by omega⟩,by omega⟩⟩
  ·rw[(HD a b x hx).1 hlt h1]
  ·exact decide_eq_true h1
 ·have:=(HD a b x hx).2 (by omega)
  have hle:=hx.le
  exact mw (by omega)
def sn (args:List SV):Option (Prop×SV):=match args with
 | [.str false a,.str false b]=>some (a.length<9223372036854775807,.int .i64 false (bH a b))
 | _=>none
theorem LU:aB Tryz.prog 100 (aU sn):=by
 refine dD (dA (n:=20) (fn:=Tryz.f100) Tryz.func100 (by kernel_rfl) (by kernel_rfl) ?_)
 intro args p a h hp
 unfold sn at h
 split at h
 ·injection h with h;injection h with h1 h2;subst h1;subst h2
  exact⟨_,VK _ _,rfl,rfl,DX _ _ hp⟩
 ·cases h
def uN (vs:List SV)(l:List Seen):Option (Prop×c6):=match vs,l with
 | [_],[⟨_,_,_,n,_,[.str f,.str g]⟩]=>some (n<9223372036854775808,.ret (.int .i64 false (bY n f g)))
 | _,_=>none
theorem Oq:aB Tryz.prog 62 (cr RA uN):=by
 refine fD (n:=20) (fn:=Tryz.f62) Tryz.func62 (by kernel_rfl) (by kernel_rfl) ?_
 intro vs l q a h hq
 unfold uN at h
 split at h
 ·rename_i v key z o n c f g
  injection h with h;injection h with h1 h2;subst h1;subst h2
  exact⟨_,UE n f g,rfl,rfl,FO n hq f g z o c key⟩
 ·cases h
def zq (vs:List SV)(l:List Seen):Option (Prop×c6):=match vs,l with
 | [_],[⟨_,_,_,n,_,[.str f,.str g]⟩]=>some (True,.ret (.bool false (vi n f g)))
 | _,_=>none
theorem SF:aB Tryz.prog 19 (cr RA zq):=by
 refine fD (n:=20) (fn:=Tryz.f19) Tryz.func19 (by kernel_rfl) (by kernel_rfl) ?_
 intro vs l q a h hq
 unfold zq at h
 split at h
 ·rename_i v key z o n c f g
  injection h with h;injection h with h1 h2;subst h1;subst h2
  exact⟨_,VN n f g,rfl,rfl,Gk n f g z o c key⟩
 ·cases h
theorem Ei (l:List Rw):(x4 l).Ok:=fun _=>⟨rfl,rfl,fun k=>by
 show Nat.blt k (k+1)=true
 rw[Nat.blt_eq];omega,fun E E' k k' h=>by
 show(SV.bw k 2 false 0 l.length _).val E=(SV.bw k' 2 false 0 l.length _).val E'
 have:=h rfl
 simp only[SV.val]
 rw[this]⟩
def zo (vs:List SV)(l:List Seen):Option (Prop×c6):=match vs,l with
 | [_],[⟨_,_,_,n,_,[.str f,.str g]⟩]=>some (n<=1000/\∀ i,i<n->(f i).length<1099511627776,x4 (aX n (fun i=>az (f i)) g))
 | _,_=>none
theorem M5:aB Tryz.prog 64 (cr RA zo):=by
 refine fD (n:=20) (fn:=Tryz.f64) Tryz.func64 (by kernel_rfl) (by kernel_rfl) ?_
 intro vs l q a h hq
 unfold zo at h
 split at h
 ·rename_i v key z o n c f g
  injection h with h;injection h with h1 h2;subst h1;subst h2
  exact⟨_,Vw n f g,rfl,Ei _,HK n f g hq.1 hq.2 z o c key⟩
 ·cases h
def WB:List vv:=[.of (.slice dE),.of .one]
def o7 (vs:List SV)(l:List Seen):Option (Prop×c6):=match vs,l with
 | [_,.int .i64 false k],[⟨_,_,_,n,_,[.str f,.str g]⟩]=>some (0<=k/\n<=1000/\∀ i,i<n->k.toNat<=(f i).length,x4 (bT k.toNat (aX n f g)))
 | _,_=>none
theorem Ji:aB Tryz.prog 102 (cr WB o7):=by
 refine fD (n:=20) (fn:=Tryz.f102) Tryz.func102 (by kernel_rfl) (by kernel_rfl) ?_
 intro vs l q a h hq
 unfold o7 at h
 split at h
 ·rename_i v k key z o n c f g
  injection h with h;injection h with h1 h2;subst h1;subst h2
  have:=AJ n k.toNat f g hq.2.1 hq.2.2 z o c key
  rw[Int.toNat_of_nonneg hq.1] at this
  exact⟨_,Wf n k.toNat f g,rfl,Ei _,this⟩
 ·cases h
theorem UZ (x:List Rw×Nat×Nat):eT (.n (.s 0 (.n .k (.n .k .t))) (.n (.s 1 (.n (.s 1 (.n (.s 3 (.n .k (.n (.s 0 .k) (.s 0 (.n .k .t))))) (.s 1 (.n .k (.n (.s 0 .k) (.s 0 (.n .k .t))))))) (.s 1 (.n .k (.n (.s 0 .k) (.s 0 (.n .k .t))))))) (.s 0 (.n (.s 0 .k) (.s 1 .k))))) (runM (Qt x.2.2 x.1) 103 Tryz.f103 Qd x) ((fun P0:(Nat×Nat)->SB=>(((∃(u8:Nat×Nat),(u8.fst<=x.fst.length/\(bx x.snd.snd (List.take u8.fst x.fst)).length<=u8.snd)/\0=(u8.fst:Int)/\(bx x.snd.snd (List.take u8.fst x.fst)).length=0/\(nq true (bx x.snd.snd (List.take u8.fst x.fst)) u8.snd false).no=true)/\∀(u7:Nat×Nat),u7.fst<=x.fst.length/\(bx x.snd.snd (List.take u7.fst x.fst)).length<=u7.snd->(decide ((u7.fst:Int)<(x.fst.length:Int))=true->(0<=(u7.fst:Int)/\(u7.fst:Int)<(x.fst.length:Int))/\0+(u7.fst:Int).toNat<x.fst.length/\((!decide ((x.fst.getD (0+(u7.fst:Int).toNat) ([],[])).fst=[]))=true->((0:Int)<=(0:Int)/\0<(↑(x.fst.getD (0+(u7.fst:Int).toNat) ([],[])).fst.length:Int))/\((-9223372036854775808:Int)<=ai (x.fst.getD (0+(u7.fst:Int).toNat) ([],[])).fst 0/\ai (x.fst.getD (0+(u7.fst:Int).toNat) ([],[])).fst 0<=(9223372036854775807:Int))/\(decide (ai (x.fst.getD (0+(u7.fst:Int).toNat) ([],[])).fst 0=(x.snd.snd:Int))=true->(0+(bx x.snd.snd (List.take u7.fst x.fst)).length<=(bx x.snd.snd (List.take u7.fst x.fst)).length/\True /\2*((bx x.snd.snd (List.take u7.fst x.fst)).length+1)*32<=(281474976710656:Nat)/\(bx x.snd.snd (List.take u7.fst x.fst)).length+1<(9223372036854775808:Nat))/\∀(u6:Nat),(bx x.snd.snd (List.take u7.fst x.fst)).length+1<=u6->((-9223372036854775808:Int)<=(u7.fst:Int)+1/\(u7.fst:Int)+1<=(9223372036854775807:Int))/\∃(u5:Nat×Nat),((u5.fst<=x.fst.length/\(bx x.snd.snd (List.take u5.fst x.fst)).length<=u5.snd)/\x.fst.length - u5.fst<x.fst.length - u7.fst)/\(u7.fst:Int)+1=(u5.fst:Int)/\((bx x.snd.snd (List.take u7.fst x.fst)).length+1=(bx x.snd.snd (List.take u5.fst x.fst)).length/\u6=u5.snd) /\ah (SB.rows true ((bx x.snd.snd (List.take u7.fst x.fst)).length+1) [au.str fun(u4:Nat)=>if u4<(bx x.snd.snd (List.take u7.fst x.fst)).length then((bx x.snd.snd (List.take u7.fst x.fst)).getD u4 ([],[])).fst else bq [(x.fst.getD (0+(u7.fst:Int).toNat) ([],[])).fst] (u4 - (bx x.snd.snd (List.take u7.fst x.fst)).length),au.str fun(u3:Nat)=>if u3<(bx x.snd.snd (List.take u7.fst x.fst)).length then((bx x.snd.snd (List.take u7.fst x.fst)).getD u3 ([],[])).snd else bq [(x.fst.getD (0+(u7.fst:Int).toNat) ([],[])).snd] (u3 - (bx x.snd.snd (List.take u7.fst x.fst)).length)] false (u6*2) 174) (SB.rows true (bx x.snd.snd (List.take u5.fst x.fst)).length [b8 (bx x.snd.snd (List.take u5.fst x.fst)),b6 (bx x.snd.snd (List.take u5.fst x.fst))] false (u5.snd*2) 174))/\(decide (ai (x.fst.getD (0+(u7.fst:Int).toNat) ([],[])).fst 0=(x.snd.snd:Int))=false->((-9223372036854775808:Int)<=(u7.fst:Int)+1/\(u7.fst:Int)+1<=(9223372036854775807:Int))/\∃(u2:Nat×Nat),((u2.fst<=x.fst.length/\(bx x.snd.snd (List.take u2.fst x.fst)).length<=u2.snd)/\x.fst.length - u2.fst<x.fst.length - u7.fst) /\(u7.fst:Int)+1=(u2.fst:Int)/\((bx x.snd.snd (List.take u7.fst x.fst)).length=(bx x.snd.snd (List.take u2.fst x.fst)).length/\u7.snd=u2.snd)/\ah (P0 u7) (SB.rows true (bx x.snd.snd (List.take u2.fst x.fst)).length [b8 (bx x.snd.snd (List.take u2.fst x.fst)),b6 (bx x.snd.snd (List.take u2.fst x.fst))] false (u2.snd*2) 174)))/\((!decide ((x.fst.getD (0+(u7.fst:Int).toNat) ([],[])).fst=[]))=false->((-9223372036854775808:Int)<=(u7.fst:Int)+1/\(u7.fst:Int)+1<=(9223372036854775807:Int))/\∃(u1:Nat×Nat),((u1.fst<=x.fst.length/\(bx x.snd.snd (List.take u1.fst x.fst)).length<=u1.snd)/\x.fst.length - u1.fst<x.fst.length - u7.fst)/\(u7.fst:Int)+1=(u1.fst:Int)/\((bx x.snd.snd (List.take u7.fst x.fst)).length=(bx x.snd.snd (List.take u1.fst x.fst)).length/\u7.snd=u1.snd)/\ah (P0 u7) (SB.rows true (bx x.snd.snd (List.take u1.fst x.fst)).length [b8 (bx x.snd.snd (List.take u1.fst x.fst)),b6 (bx x.snd.snd (List.take u1.fst x.fst))] false (u1.snd*2) 174)))/\(decide ((u7.fst:Int)<(x.fst.length:Int))=false->∃(u0:Nat),(bx x.snd.snd x.fst).length<=u0 /\((bx x.snd.snd (List.take u7.fst x.fst)).length=(bx x.snd.snd x.fst).length/\u7.snd=u0)/\ah (P0 u7) (SB.rows true (bx x.snd.snd x.fst).length [b8 (bx x.snd.snd x.fst),b6 (bx x.snd.snd x.fst)] false (u0*2) 174))))) (fun(u7:Nat×Nat)=>(SB.rows true (bx x.snd.snd (List.take u7.fst x.fst)).length [b8 (bx x.snd.snd (List.take u7.fst x.fst)),b6 (bx x.snd.snd (List.take u7.fst x.fst))] false (u7.snd*2) 174))):=⟨by kernel_rfl,by kernel_rfl⟩
theorem JP {l:List Rw}{r:Rw}{c:Nat}{ty:TypeId}:ah (.rows true (l.length+1) [.str fun j=>if j<l.length then(l.getD j ([],[])).1 else bq [r.1] (j - l.length),.str fun j=>if j<l.length then(l.getD j ([],[])).2 else bq [r.2] (j - l.length)] false (c*2) ty) (.rows true (l++[r]).length [b8 (l++[r]),b6 (l++[r])] false (c*2) ty):=by
 refine lu (by simp) rfl rfl fun k c c' h1 h2 i hi E=> ?_
 have e: ∀(x:Rw->List UInt8),(if i<l.length then x (l.getD i ([],[]))else bq [x r] (i - l.length))=x ((l++[r]).getD i ([],[])):=fun x=>by
  rw[sS l r ([],[]) i hi]
  by_cases h:i<l.length
  ·rw[if_pos h,if_pos h]
  ·rw[if_neg h,if_neg h]
   have:i - l.length=0:=by omega
   rw[this];rfl
 match k,h1,h2 with
 | 0,h1,h2 =>
   injection h1 with h1;injection h2 with h2;subst h1;subst h2
   simp only[b8,au.at,SV.val,← e Prod.fst]
 | 1,h1,h2 =>
   injection h1 with h1;injection h2 with h2;subst h1;subst h2
   simp only[b6,au.at,SV.val,← e Prod.snd]
 | k+2,h1,_=>simp at h1
theorem vf {l:List Rw}{k:Nat}(hk:k<l.length):l.take (k+1)=l.take k++[l.getD k ([],[])]:=by
 rw[List.take_add_one,List.getD_eq_getElem?_getD,List.getElem?_eq_getElem hk];rfl
theorem SN {i:Nat}{l:List Rw}{k:Nat}(hk:k<l.length)(h:jD i (l.getD k ([],[])).1=true):bx i (l.take (k+1))=bx i (l.take k)++[l.getD k ([],[])]:=by
 rw[vf hk];unfold bx
 rw[List.filter_append];congr 1
 rw[List.filter_cons,h];rfl
theorem Rm {i:Nat}{l:List Rw}{k:Nat}(hk:k<l.length)(h:jD i (l.getD k ([],[])).1=false):bx i (l.take (k+1))=bx i (l.take k):=by
 rw[vf hk];unfold bx
 rw[List.filter_append,List.filter_cons,h];simp
theorem S2 (i:Nat)(l:List Rw)(k:Nat):(bx i (l.take k)).length<=l.length:=by
 have:=List.length_filter_le (fun r:Rw=>jD i r.1) (l.take k)
 have h2:(l.take k).length<=l.length:=by rw[List.length_take];omega
 unfold bx;omega
theorem Mx {i:Nat}{p:List UInt8}(hp: ¬ p=[]):jD i p=decide (ai p 0=(i:Int)):=by
 cases p with
 | nil=>exact absurd rfl hp
 | cons b q =>
   show decide (b.toNat=i)=decide ((b.toNat:Int)=(i:Int))
   exact decide_eq_decide.2 (by omega)
theorem J6 {z:Bool}{l l':List Rw}{c c':Nat}{ty:TypeId}(h:l=l')(hc:c=c'):ah (.rows z l.length [b8 l,b6 l] false (c*2) ty) (.rows z l'.length [b8 l',b6 l'] false (c'*2) ty):=by
 subst h;subst hc;exact ah.refl _
theorem Hf (x:List Rw×Nat×Nat)(hx:x.1.length<=1000):aA (runM (Qt x.2.2 x.1) 103 Tryz.f103 Qd x):=by
 refine aA.pr (UZ x) ?_
 obtain⟨l,c0,i⟩:=x
 simp only[Int.toNat_natCast,Nat.zero_add,true_and,Bool.not_eq_true',Bool.not_eq_false',decide_eq_true_eq,decide_eq_false_iff_not]
 have hx:l.length<=1000:=hx
 refine⟨⟨(0,0),⟨Nat.zero_le _,Nat.zero_le _⟩,rfl,rfl,rfl⟩,fun x ⟨h1,h2⟩=>⟨fun h=> ?_,fun h=> ?_⟩⟩
 ·have hlt:x.1<l.length:=by omega
  have hcl:=S2 i l x.1
  refine⟨⟨by omega,by omega⟩,hlt,fun a=> ?_,fun a=> ?_⟩
  ·have hpos:0<(l.getD x.1 ([],[])).1.length:=List.length_pos_iff.2 a
   have hb:=Mx (i:=i) a
   refine⟨⟨by omega,by omega⟩,?_,fun b=>⟨⟨Nat.le_refl _,by omega,by omega⟩,fun c hc=> ?_⟩,fun b=> ?_⟩
   ·have h0:=dG (l.getD x.1 ([],[])).1 0
    omega
   ·have e:=SN hlt (hb.trans (decide_eq_true b))
    refine⟨by omega,(x.1+1,c),⟨⟨by show x.1+1<=_;omega,?_⟩,by show _ - (x.1+1)<_;omega⟩,by show(x.1:Int)+1=((x.1+1:Nat):Int);omega,⟨?_,rfl⟩,?_⟩
    ·show(bx i (l.take (x.1+1))).length<=c
     rw[e,List.length_append];exact hc
    ·show _=(bx i (l.take (x.1+1))).length
     rw[e,List.length_append];rfl
    ·show ah _ (.rows true (bx i (l.take (x.1+1))).length [b8 (bx i (l.take (x.1+1))),b6 (bx i (l.take (x.1+1)))] false (c*2) _)
     rw[e];exact JP
   ·have e:=Rm hlt (hb.trans (decide_eq_false b))
    refine⟨by omega,(x.1+1,x.2),⟨⟨by show x.1+1<=_;omega,?_⟩,by show _ - (x.1+1)<_;omega⟩,by show(x.1:Int)+1=((x.1+1:Nat):Int);omega,⟨?_,rfl⟩,J6 e.symm rfl⟩
    ·show(bx i (l.take (x.1+1))).length<=x.2
     rw[e];exact h2
    ·show _=(bx i (l.take (x.1+1))).length
     rw[e]
  ·have e:=Rm (i:=i) hlt (by rw[a];rfl)
   refine⟨by omega,(x.1+1,x.2),⟨⟨by show x.1+1<=_;omega,?_⟩,by show _ - (x.1+1)<_;omega⟩,by show(x.1:Int)+1=((x.1+1:Nat):Int);omega,⟨?_,rfl⟩,J6 e.symm rfl⟩
   ·show(bx i (l.take (x.1+1))).length<=x.2
    rw[e];exact h2
   ·show _=(bx i (l.take (x.1+1))).length
    rw[e]
 ·have e:l.take x.1=l:=List.take_of_length_le (by omega)
  rw[e] at h2 ⊢
  exact⟨x.2,h2,⟨rfl,rfl⟩,ah.refl _⟩
theorem Ti:aB Tryz.prog 103 (ig Qd) :=
 n7 (n:=20) (fn:=Tryz.f103) Tryz.func103 (by kernel_rfl) (by kernel_rfl) Qd fun x hx=>⟨_,V8 x.2.2 x.1,rfl,Hf x hx⟩
noncomputable def IT:List (FuncId×PT):=(105,cE (mZ fun x=>some (Fits x,S9 x)))::(150,aU w7)::(100,aU sn)::(102,cr WB o7)::(103,ig Qd)::jA
theorem Bf:bl Tryz.prog (fun f=>aG f IT):=.cons zN (cj _) (.cons xT (aN _) (.cons LU (aN _) (.cons Ji (cG _ _) (.cons Ti (gD _) eG))))
theorem A7 (l:List Rw):aX l.length (fun i=>(l.getD i ([],[])).1) (fun i=>(l.getD i ([],[])).2)=l:=by
 refine List.ext_getElem (by rw[eZ]) fun i h1 h2=> ?_
 simp only[aX,List.getElem_map,List.getElem_range,List.getD_eq_getElem?_getD,List.getElem?_eq_getElem h2,Option.getD_some]
structure Pd where
 D:Nat->Bool
 iF:Nat->List UInt8
 fb:Nat->Nat
 nb:Nat->Nat
 cb:Nat->Nat
 D2:Nat->Bool
 n2:Nat->Nat
 g:Nat->Nat->Nat
def Pd.parts (P:Pd)(kB:Nat):SB:=.iw P.D [.str P.iF,.cn kB 1 true P.fb P.nb P.cb] 2 165 false
def Pd.lists (P:Pd)(kA:Nat):SB:=.dI P.D2 P.n2 [.ref kA P.g] false
def Told (P:Pd):Nat->Nat->List (List UInt8)->Prop
 | 0,_,_=>False
 | d+1,a,L=>P.D a=true/\∃ Ks:List (List (List UInt8)),P.nb a=Ks.length/\(0<Ks.length->P.D2 (P.fb a)=true/\Ks.length<=P.n2 (P.fb a))/\L=P.iF a::Ks.flatten/\∀(i:Nat) (L':List (List UInt8)),Ks[i]?=some L'->Told P d (P.g (P.fb a) i) L'
def jd (P:Pd)(d n:Nat)(f:Nat->Nat)(B:List (List UInt8)):Prop:=∃ Ks:List (List (List UInt8)),n=Ks.length/\Ks.flatten=B/\∀(i:Nat) (L':List (List UInt8)),Ks[i]?=some L'->Told P d (f i) L'
def kP (m:Nat)(l:List Rw):List (List UInt8):=if l=[] then [] else(if(ctext m l).length<32 then [] else [ctext m l])++ey m l
def gK (m:Nat)(l:List Rw):List UInt8:=if l=[] then [] else dx (ctext m l)
def tf (n a b:Nat):Mem->List Gh
 | []=>[]
 | e::r=>match Nat.blt e.1 n,e.2 with
   | false,.iw .. =>.merge a e.1::tf n a b r
   | false,.dI .. =>.merge b e.1::tf n a b r
   | _,_=>tf n a b r
def pK (nb cb:Nat)(f:Nat->Nat)(P:Pd)(k:Nat):Mem:=[(0,.cells [.str true [],.bw k 1 true 0 nb cb] 2 165),(k,.rows true nb [.ref 3 f] false (cb*1) 106),(3,P.parts 4),(4,P.lists 3)]
structure qW where
 l:List Rw
 c:Nat
 nb:Nat
 cb:Nat
 f:Nat->Nat
 P:Pd
 B:List (List UInt8)
structure ju where
 nb:Nat
 cb:Nat
 f:Nat->Nat
 P:Pd
def oA (m:Nat):nV :=
 {G:=qW,n:=5,N:=6,pre:=fun x=>cW m x.l/\x.l.length<=1000/\m<=13/\x.nb<=x.cb/\(x.B++kP m x.l).length<=100000/\jd x.P (m+1) x.nb x.f x.B,args:=fun x=>[.ptr 0 true 0,.bw 1 2 false 0 x.l.length x.c],
  mem:=fun x=>(1,nq false x.l x.c true)::pK x.nb x.cb x.f x.P 2,
  Qx:=fun x=>.all ju fun y=>.req (y.nb<=y.cb/\jd y.P (m+1) y.nb y.f (x.B++kP m x.l)) (.ret (.str false (gK m x.l)) (pK y.nb y.cb y.f y.P 5)),
  gh:=fun _ m=>tf 5 3 4 m}
def Wa:SV->Mem->List Gh:=fun v m=>match v with
 | .ptr kp _ _=>(match m.get kp with
   | some (.cells [_,.bw kr _ _ _ _ _] _ _)=>(match m.get kr with
     | some (.rows _ _ [.ref kA _] _ _ _)=>(match m.get kA with
       | some (.iw _ [_,.cn kB _ _ _ _ _] _ _ _)=>[.name kr 0,.merge kB kr,.name kp kB,.merge kA kp]
       | _=>[.name kp 0])
     | _=>[.name kp 0])
   | _=>[.name kp 0])
 | _=>[]
def ug (m:Nat):nV :=
 {G:=List Rw×Nat,n:=1,N:=3,pre:=fun x=>cW m x.1/\x.1.length<=1000/\m<=13,args:=fun x=>[.bw 0 2 false 0 x.1.length x.2],mem:=fun x=>[(0,nq false x.1 x.2 true)],
  Qx:=fun x=>.all (Nat×Pd) fun y=>.req (Told y.2 (m+1) y.1 (dH m x.1)) (.ret (.eD 1 y.1 0) [(1,y.2.parts 2),(2,y.2.lists 1)]),
  gh:=Wa}
def eE (m:Nat)(l:List Rw)(i:Nat):List (List UInt8):=(List.range i).flatMap fun j=>kP m (bM l j)
def aF (m:Nat)(l:List Rw)(i j:Nat):List UInt8:=if j<i then gK m (bM l j)else []
noncomputable def RM (m:Nat)(l:List Rw):bC :=
 {α:=Nat×ju,pre:=fun _ x=>x.1<=16/\x.2.nb<=x.2.cb/\jd x.2.P (m+1) x.2.nb x.2.f (eE m l x.1),nY:=fun _ x=>16 - x.1,fresh:=3,slots:=fun _ x=>[(11,.int .i64 false x.1)],
  mem:=fun st x=>[(Pe st 3,.cells [.str true [],.bw st.nx 1 true 0 x.2.nb x.2.cb] 2 165),(st.nx,.rows true x.2.nb [.ref (st.nx+1) x.2.f] false (x.2.cb*1) 106),(st.nx+1,x.2.P.parts (st.nx+2)),(st.nx+2,x.2.P.lists (st.nx+1)),
   (Pe st 4,.cells (fj ⟨3,[],[],aF m l x.1⟩) 19 138)]}
noncomputable def mW:Nat->PT
 | 0=>fun _ _ _ _=>.fail "no rows"
 | m+1=>ig (ug (m+1))
noncomputable def WX (m:Nat):List (FuncId×PT):=(63,mW m)::IT
noncomputable def BW (m:Nat):ff:={cg with cI:=fun f=>aG f (WX m)}
noncomputable def W7 (m:Nat):List (FuncId×PT):=(101,ig (oA m))::IT
noncomputable def JK (m:Nat)(l:List Rw):ff:={cg with cI:=fun f=>aG f (W7 m),br:=fun h=>if h=63 then [(5,always (RM m l))] else []}
theorem th: ∀ m,aR (mW m)
 | 0=>fun _ _ _ _ _ _ h=>h
 | _m+1=>gD _
theorem H9:aB Tryz.prog 63 (mW 0):=fun _ _ _ _ h=>h.elim
theorem UD {m:Nat}(h:aB Tryz.prog 63 (mW m)):Sx.Good Tryz.prog (BW m):=.of bS (bl.cons h (th m) Bf) bt
theorem Vz {m:Nat}(h:aB Tryz.prog 101 (ig (oA m)))(l:List Rw):Sx.Good Tryz.prog (JK m l):=.of bS (bl.cons h (gD _) Bf) bt
theorem Sg (x:qW):eT (.n (.s 0 (.n .k (.s 1 (.n (.s 0 .k) .k)))) .t) (runM (BW 0) 101 Tryz.f101 (oA 0) x) (((decide ((x.l.length:Int)=0)=true->∃(u0:ju),(u0.nb<=u0.cb/\jd u0.P 1 u0.nb u0.f (x.B++kP 0 x.l))/\[]=gK 0 x.l/\(x.nb=u0.nb/\x.cb=u0.cb)/\ah (SB.rows true x.nb [au.ref 3 x.f] false (x.cb*1) 106) (SB.rows true u0.nb [au.ref 3 u0.f] false (u0.cb*1) 106)/\ah (SB.iw x.P.D [au.str x.P.iF,au.cn 4 1 true x.P.fb x.P.nb x.P.cb] 2 165 false) (u0.P.parts 4)/\ah (SB.dI x.P.D2 x.P.n2 [bU.ref 3 x.P.g] false) (u0.P.lists 3))/\(decide ((x.l.length:Int)=0)=false->False))):=⟨by kernel_rfl,by kernel_rfl⟩
theorem UP (m:Nat)(x:qW):eT (.n (.s 0 (.n .k (.s 1 (.n (.s 0 .k) .k)))) (.s 0 (.n (.s 0 .k) (.s 0 (.n .k (.s 2 (.n (.s 2 (.n .k (.s 1 (.n (.s 0 .k) .k)))) (.s 3 (.n .k (.s 1 (.n (.s 0 .k) .k))))))))))) (runM (BW (m+1)) 101 Tryz.f101 (oA (m+1)) x) (((decide ((x.l.length:Int)=0)=true->∃(u32:ju),(u32.nb<=u32.cb/\jd u32.P (m+1+(1:Nat)) u32.nb u32.f (x.B++kP (m+1) x.l))/\[]=gK (m+1) x.l/\(x.nb=u32.nb/\x.cb=u32.cb)/\ah (SB.rows true x.nb [au.ref 3 x.f] false (x.cb*1) 106) (SB.rows true u32.nb [au.ref 3 u32.f] false (u32.cb*1) 106)/\ah (SB.iw x.P.D [au.str x.P.iF,au.cn 4 1 true x.P.fb x.P.nb x.P.cb] 2 165 false) (u32.P.parts 4)/\ah (SB.dI x.P.D2 x.P.n2 [bU.ref 3 x.P.g] false) (u32.P.lists 3))/\(decide ((x.l.length:Int)=0)=false->∃(u31:List Rw×Nat),(cW (Nat.add._f 0 Unit.unit m+1) u31.fst/\u31.fst.length<=1000/\Nat.add._f 0 Unit.unit m+1<=(13:Nat))/\(x.l.length=u31.fst.length/\x.c=u31.snd)/\ah (SB.rows false x.l.length [b8 x.l,b6 x.l] true (x.c*2) 174) (SB.rows false u31.fst.length [b8 u31.fst,b6 u31.fst] true (u31.snd*2) 174)/\∀(u30:Nat×Pd),Told u30.snd (Nat.add._f 0 Unit.unit m+1+(1:Nat)) u30.fst (dH (Nat.add._f 0 Unit.unit m+1) u31.fst)->u30.snd.D u30.fst=true/\(u30.snd.iF u30.fst).length<1152921504606846976/\(dx (u30.snd.iF u30.fst)).length<9223372036854775808 /\(bI (dx (u30.snd.iF u30.fst))=true->(0+x.nb<=x.nb/\True/\2*(x.nb+1)*8<=(281474976710656:Nat)/\x.nb+1<(9223372036854775808:Nat))/\∀(u29:Nat),x.nb+1<=u29->(∀(u28:Nat),(x.P.parts 4).dom u28=true->(SB.aH (oP 1 (yZ 0 (((1:Nat),nq false x.l x.c true)::pK x.nb x.cb x.f x.P 2) (nq false u31.fst u31.snd true) (nq false x.l x.c true) [((0:Nat),(1:Nat))]) 5) (u30.snd.parts 2)).dom u28=false)->(∀(u27:Nat),(SB.told (xY 6 3) (fun(u26:Nat)=>bif u26.beq 6 then(3:Nat)else u26) (x.P.lists 3)).dom u27=true->(SB.told (xY 6 3) (fun(u25:Nat)=>bif u25.beq 6 then(3:Nat)else u25) (SB.aH (oP 1 (yZ 0 (((1:Nat),nq false x.l x.c true)::pK x.nb x.cb x.f x.P 2) (nq false u31.fst u31.snd true) (nq false x.l x.c true) [((0:Nat),(1:Nat))]) 5) (u30.snd.lists 1))).dom u27=false)->∃(u24:ju),(u24.nb<=u24.cb/\jd u24.P (m+1+(1:Nat)) u24.nb u24.f (x.B++kP (m+1) x.l))/\dx (u30.snd.iF u30.fst)=gK (m+1) x.l/\(x.nb+1=u24.nb/\u29=u24.cb) /\ah (SB.rows true (x.nb+1) [au.ref (bif(bif Nat.beq 3 6 then(3:Nat)else(3:Nat)).beq 7 then(4:Nat)else bif Nat.beq 3 6 then(3:Nat)else(3:Nat)) fun(u23:Nat)=>if u23<x.nb then x.f u23 else Px [u30.fst] (u23 - x.nb)] false (u29*1) 106) (SB.rows true u24.nb [au.ref 3 u24.f] false (u24.cb*1) 106)/\ah (SB.iw (fun(u22:Nat)=>x.P.D u22||u30.snd.D u22) [au.str fun(u21:Nat)=>bif x.P.D u21 then x.P.iF u21 else u30.snd.iF u21,au.cn (bif(bif Nat.beq 4 6 then(3:Nat)else(4:Nat)).beq 7 then(4:Nat)else bif Nat.beq 4 6 then(3:Nat)else(4:Nat)) 1 true (fun(u20:Nat)=>bif x.P.D u20 then x.P.fb u20 else u30.snd.fb u20) (fun(u19:Nat)=>bif x.P.D u19 then x.P.nb u19 else u30.snd.nb u19) fun(u18:Nat)=>bif x.P.D u18 then x.P.cb u18 else u30.snd.cb u18] 2 165 false) (u24.P.parts 4) /\ah (SB.dI (fun(u17:Nat)=>x.P.D2 u17||u30.snd.D2 u17) (fun(u16:Nat)=>bif x.P.D2 u16 then x.P.n2 u16 else u30.snd.n2 u16) [bU.eK (fun(u15:Nat)=>bif u15.beq 7 then(4:Nat)else u15) (bU.ref (bif Nat.beq 3 6 then(3:Nat)else(3:Nat)) fun(b i:Nat)=>bif x.P.D2 b then x.P.g b i else u30.snd.g b i)] false) (u24.P.lists 3))/\(bI (dx (u30.snd.iF u30.fst))=false->u30.snd.D u30.fst=true/\(0+x.nb<=x.nb/\(0<u30.snd.nb u30.fst->u30.snd.D2 (u30.snd.fb u30.fst)=true/\0+u30.snd.nb u30.fst<=u30.snd.n2 (u30.snd.fb u30.fst))/\2*(x.nb+u30.snd.nb u30.fst)*8<=(281474976710656:Nat)/\x.nb+u30.snd.nb u30.fst<9223372036854775808)/\∀(u14:Nat),x.nb+u30.snd.nb u30.fst<=u14->(∀(u13:Nat),(x.P.parts 4).dom u13=true->(SB.aH (oP 1 (yZ 0 (((1:Nat),nq false x.l x.c true)::pK x.nb x.cb x.f x.P 2) (nq false u31.fst u31.snd true) (nq false x.l x.c true) [((0:Nat),(1:Nat))]) 5) (u30.snd.parts 2)).dom u13=false)->(∀(u12:Nat),(SB.told (xY 6 3) (fun(u11:Nat)=>bif u11.beq 6 then(3:Nat)else u11) (x.P.lists 3)).dom u12=true ->(SB.told (xY 6 3) (fun(u10:Nat)=>bif u10.beq 6 then(3:Nat)else u10) (SB.aH (oP 1 (yZ 0 (((1:Nat),nq false x.l x.c true)::pK x.nb x.cb x.f x.P 2) (nq false u31.fst u31.snd true) (nq false x.l x.c true) [((0:Nat),(1:Nat))]) 5) (u30.snd.lists 1))).dom u12=false)->∃(u9:ju),(u9.nb<=u9.cb/\jd u9.P (m+1+(1:Nat)) u9.nb u9.f (x.B++kP (m+1) x.l))/\dx (u30.snd.iF u30.fst)=gK (m+1) x.l/\(x.nb+u30.snd.nb u30.fst=u9.nb/\u14=u9.cb)/\ah (SB.rows true (x.nb+u30.snd.nb u30.fst) [au.ref (bif(bif Nat.beq 3 6 then(3:Nat)else(3:Nat)).beq 7 then(4:Nat)else bif Nat.beq 3 6 then(3:Nat)else(3:Nat)) fun(u8:Nat)=>if u8<x.nb then x.f u8 else u30.snd.g (u30.snd.fb u30.fst) (u8 - x.nb)] false (u14*1) 106) (SB.rows true u9.nb [au.ref 3 u9.f] false (u9.cb*1) 106) /\ah (SB.iw (fun(u7:Nat)=>x.P.D u7||u30.snd.D u7) [au.str fun(u6:Nat)=>bif x.P.D u6 then x.P.iF u6 else u30.snd.iF u6,au.cn (bif(bif Nat.beq 4 6 then(3:Nat)else(4:Nat)).beq 7 then(4:Nat)else bif Nat.beq 4 6 then(3:Nat)else(4:Nat)) 1 true (fun(u5:Nat)=>bif x.P.D u5 then x.P.fb u5 else u30.snd.fb u5) (fun(u4:Nat)=>bif x.P.D u4 then x.P.nb u4 else u30.snd.nb u4) fun(u3:Nat)=>bif x.P.D u3 then x.P.cb u3 else u30.snd.cb u3] 2 165 false) (u9.P.parts 4)/\ah (SB.dI (fun(u2:Nat)=>x.P.D2 u2||u30.snd.D2 u2) (fun(u1:Nat)=>bif x.P.D2 u1 then x.P.n2 u1 else u30.snd.n2 u1) [bU.eK (fun(u0:Nat)=>bif u0.beq 7 then(4:Nat)else u0) (bU.ref (bif Nat.beq 3 6 then(3:Nat)else(3:Nat)) fun(b i:Nat)=>bif x.P.D2 b then x.P.g b i else u30.snd.g b i)] false) (u9.P.lists 3))))):=⟨by kernel_rfl,by kernel_rfl⟩
def Pd.or (P Q:Pd):Pd :=
 {D:=fun b=>P.D b||Q.D b,iF:=fun b=>bif P.D b then P.iF b else Q.iF b,fb:=fun b=>bif P.D b then P.fb b else Q.fb b,nb:=fun b=>bif P.D b then P.nb b else Q.nb b,cb:=fun b=>bif P.D b then P.cb b else Q.cb b,
  D2:=fun b=>P.D2 b||Q.D2 b,n2:=fun b=>bif P.D2 b then P.n2 b else Q.n2 b,g:=fun b i=>bif P.D2 b then P.g b i else Q.g b i}
theorem va {P Q:Pd}: ∀ {d a:Nat} {L:List (List UInt8)},Told P d a L->Told (P.or Q) d a L
 | 0,_,_,h=>h.elim
 | d+1,a,L,⟨h1,Ks,h2,h3,h4,h5⟩=>by
   have e2:(P.or Q).nb a=P.nb a:=by show(bif P.D a then _ else _)=_;rw[h1];rfl
   have e3:(P.or Q).fb a=P.fb a:=by show(bif P.D a then _ else _)=_;rw[h1];rfl
   have e4:(P.or Q).iF a=P.iF a:=by show(bif P.D a then _ else _)=_;rw[h1];rfl
   refine⟨by show(P.D a||Q.D a)=true;rw[h1];rfl,Ks,e2.trans h2,fun h=> ?_,by rw[e4];exact h4,fun i L' hi=> ?_⟩
   ·obtain⟨g1,g2⟩:=h3 h
    rw[e3]
    refine⟨by show(P.D2 _||Q.D2 _)=true;rw[g1];rfl,?_⟩
    show _<=(bif P.D2 _ then _ else _)
    rw[g1];exact g2
   ·have hk:0<Ks.length:=Nat.lt_of_le_of_lt (Nat.zero_le _) (List.getElem?_eq_some_iff.1 hi).1
    have:(P.or Q).g ((P.or Q).fb a) i=P.g (P.fb a) i:=by
     rw[e3];show(bif P.D2 _ then _ else _)=_;rw[(h3 hk).1];rfl
    rw[this];exact va (h5 i L' hi)
theorem xW {P Q:Pd}(hd: ∀ b,P.D b=true->Q.D b=false)(hd2: ∀ b,P.D2 b=true->Q.D2 b=false): ∀ {d a:Nat} {L:List (List UInt8)},Told Q d a L->Told (P.or Q) d a L
 | 0,_,_,h=>h.elim
 | d+1,a,L,⟨h1,Ks,h2,h3,h4,h5⟩=>by
   have hp:P.D a=false:=by
    cases h:P.D a with
    | false=>rfl
    | true=>rw[hd a h] at h1;cases h1
   have hp2: ∀ b,Q.D2 b=true->P.D2 b=false:=fun b hb=>by
    cases h:P.D2 b with
    | false=>rfl
    | true=>rw[hd2 b h] at hb;cases hb
   have e2:(P.or Q).nb a=Q.nb a:=by show(bif P.D a then _ else _)=_;rw[hp];rfl
   have e3:(P.or Q).fb a=Q.fb a:=by show(bif P.D a then _ else _)=_;rw[hp];rfl
   have e4:(P.or Q).iF a=Q.iF a:=by show(bif P.D a then _ else _)=_;rw[hp];rfl
   refine⟨by show(P.D a||Q.D a)=true;rw[h1,Bool.or_true],Ks,e2.trans h2,fun h=> ?_,by rw[e4];exact h4,fun i L' hi=> ?_⟩
   ·obtain⟨g1,g2⟩:=h3 h
    rw[e3]
    refine⟨by show(P.D2 _||Q.D2 _)=true;rw[g1,Bool.or_true],?_⟩
    show _<=(bif P.D2 _ then _ else _)
    rw[hp2 _ g1];exact g2
   ·have hk:0<Ks.length:=Nat.lt_of_le_of_lt (Nat.zero_le _) (List.getElem?_eq_some_iff.1 hi).1
    have:(P.or Q).g ((P.or Q).fb a) i=Q.g (Q.fb a) i:=by
     rw[e3];show(bif P.D2 _ then _ else _)=_;rw[hp2 _ (h3 hk).1];rfl
    rw[this];exact xW hd hd2 (h5 i L' hi)
theorem JO {P:Pd}: ∀ {d a:Nat} {L:List (List UInt8)},Told P d a L->Told P (d+1) a L
 | 0,_,_,h=>h.elim
 | _+1,_,_,⟨h1,Ks,h2,h3,h4,h5⟩=>⟨h1,Ks,h2,h3,h4,fun i L' hi=>JO (h5 i L' hi)⟩
theorem Nq {P:Pd}: ∀ {d a:Nat} {L:List (List UInt8)},Told P d a L->0<L.length
 | 0,_,_,h=>h.elim
 | _+1,_,_,⟨_,_,_,_,h4,_⟩=>by rw[h4];exact Nat.succ_pos _
theorem BH {α:Type}: ∀(Ks:List (List α)),(∀ L,L∈ Ks->0<L.length)->Ks.length<=Ks.flatten.length
 | [],_=>Nat.zero_le _
 | L::Ks,h=>by
   have h1:=h L (List.mem_cons_self ..)
   have h2:=BH Ks fun x hx=>h x (List.mem_cons_of_mem _ hx)
   rw[List.length_cons,List.flatten_cons,List.length_append];omega
theorem yN {P:Pd}{d n:Nat}{f:Nat->Nat}{B:List (List UInt8)}(h:jd P d n f B):n<=B.length:=by
 obtain⟨Ks,h1,h2,h3⟩:=h
 rw[h1,← h2]
 refine BH Ks fun L hL=> ?_
 obtain⟨i,hi⟩:=List.getElem?_of_mem hL
 exact Nq (h3 i L hi)
theorem FV {P Q:Pd}{d n n':Nat}{f f':Nat->Nat}{B B':List (List UInt8)}(hd: ∀ b,P.D b=true->Q.D b=false)(hd2: ∀ b,P.D2 b=true->Q.D2 b=false)(h:jd P d n f B)(h':jd Q d n' f' B') :
  jd (P.or Q) d (n+n') (fun j=>if j<n then f j else f' (j - n)) (B++B'):=by
 obtain⟨Ks,h1,h2,h3⟩:=h
 obtain⟨Ks',k1,k2,k3⟩:=h'
 refine⟨Ks++Ks',by rw[List.length_append,h1,k1],by rw[List.flatten_append,h2,k2],fun i L' hi=> ?_⟩
 by_cases hlt:i<n
 ·rw[List.getElem?_append_left (by omega)] at hi
  show Told _ d (if i<n then f i else _) L'
  rw[if_pos hlt];exact va (h3 i L' hi)
 ·rw[List.getElem?_append_right (by omega)] at hi
  show Told _ d (if i<n then f i else f' (i - n)) L'
  rw[if_neg hlt];rw[← h1] at hi
  exact xW hd hd2 (k3 _ L' hi)
theorem xD {P:Pd}{d a:Nat}{L:List (List UInt8)}(h:Told P (d+1) a L):jd P (d+1) (P.nb a) (fun i=>P.g (P.fb a) i) L.tail/\(0<P.nb a->P.D2 (P.fb a)=true/\P.nb a<=P.n2 (P.fb a))/\L=P.iF a::L.tail/\P.D a=true:=by
 obtain⟨h1,Ks,h2,h3,h4,h5⟩:=h
 exact⟨⟨Ks,h2,by rw[h4];rfl,fun i L' hi=>JO (h5 i L' hi)⟩,fun h=>by rw[h2] at h ⊢;exact h3 h,by rw[h4];rfl,h1⟩
theorem Pw {P:Pd}{d a:Nat}{L:List (List UInt8)}(h:Told P d a L):jd P d 1 (fun i=>Px [a] i) L:=⟨[L],rfl,by simp,fun i L' hi=>by
 match i,hi with
 | 0,hi=>injection hi with hi;subst hi;exact h
 | i+1,hi=>simp at hi⟩
theorem ES {s:List UInt8}(h:s.length<=700):(dx s).length<=700:=by
 by_cases hl:s.length<32
 ·rw[j0 hl];exact h
 ·rw[(mP hl).2.2];omega
theorem jM {m:Nat}{l:List Rw}(hm:m<=13)(h:cW m l)(hl:l≠[]):(ctext m l).length<=700:=(Km (gU hm h hl)).2
theorem zD {n n' k k' c c':Nat}{f f':Nat->Nat}{ty:TypeId}(hn:n=n')(hc:c=c')(hk:k=k')(hf: ∀ i,i<n->f i=f' i):ah (.rows true n [.ref k f] false (c*1) ty) (.rows true n' [.ref k' f'] false (c'*1) ty):=by
 subst hk
 refine lu hn (by rw[hc]) rfl fun j d d' h1 h2 i hi E=> ?_
 match j,h1,h2 with
 | 0,h1,h2 =>
   injection h1 with h1;injection h2 with h2;subst h1;subst h2
   simp only[au.at,hf i hi]
 | j+1,h1,_=>simp at h1
theorem BC {m:Nat}{x:qW}(hl:x.l=[])(h:jd x.P (m+1) x.nb x.f x.B):jd x.P (m+1) x.nb x.f (x.B++kP m x.l):=by
 rw[hl,show kP m []=[] from rfl,List.append_nil];exact h
theorem Mt (x:qW)(hx:(oA 0).pre x):aA (runM (BW 0) 101 Tryz.f101 (oA 0) x):=by
 refine aA.pr (Sg x) ?_
 obtain⟨h1,h2,h3,h4,h5,h6⟩:=hx
 have hl:x.l=[]:=by
  cases e:x.l with
  | nil=>rfl
  | cons r l=>rw[e] at h1;exact absurd (h1.len r (List.mem_cons_self ..)) (Nat.not_lt_zero _)
 refine⟨fun _=>⟨⟨x.nb,x.cb,x.f,x.P⟩,⟨h4,BC hl h6⟩,by rw[hl];rfl,⟨rfl,rfl⟩,ah.refl _,ah.refl _,ah.refl _⟩,fun h=> ?_⟩
 rw[hl] at h;exact absurd h (by decide)
theorem LL (m:Nat)(x:qW)(hx:(oA (m+1)).pre x):aA (runM (BW (m+1)) 101 Tryz.f101 (oA (m+1)) x):=by
 refine aA.pr (UP m x) ?_
 obtain⟨h1,h2,h3,h4,h5,h6⟩:=hx
 refine⟨fun h=> ?_,fun h=> ?_⟩
 ·have hl:x.l=[]:=List.length_eq_zero_iff.1 (by have:=of_decide_eq_true h;omega)
  exact⟨⟨x.nb,x.cb,x.f,x.P⟩,⟨h4,BC hl h6⟩,by rw[hl];rfl,⟨rfl,rfl⟩,ah.refl _,ah.refl _,ah.refl _⟩
 have hl:x.l≠[]:=fun e=>by have:=of_decide_eq_false h;rw[e] at this;exact this rfl
 refine⟨(x.l,x.c),⟨h1,h2,h3⟩,⟨rfl,rfl⟩,ah.refl _,fun y hy=> ?_⟩
 obtain⟨y1,Q⟩:=y
 have hy:Told Q (m+1+1) y1 (dH (m+1) x.l):=hy
 obtain⟨hb1,hb2,hb3,hb4⟩:=xD hy
 have ht:Q.iF y1=ctext (m+1) x.l:=by injection hb3 with e _;exact e.symm
 have htail:(dH (m+1) x.l).tail=ey (m+1) x.l:=rfl
 have h700:=jM h3 h1 hl
 have hrl:=ES h700
 have hnb:=yN h6
 rw[List.length_append] at h5
 have hkB:kP (m+1) x.l=(if(ctext (m+1) x.l).length<32 then [] else [ctext (m+1) x.l])++ey (m+1) x.l:=if_neg hl
 have hkr:gK (m+1) x.l=dx (ctext (m+1) x.l):=if_neg hl
 show Q.D y1=true/\(Q.iF y1).length<_/\_
 rw[ht]
 refine⟨hb4,by omega,by omega,fun hh=> ?_,fun hh=>⟨hb4,?_⟩⟩
 ·have hlong: ¬ (ctext (m+1) x.l).length<32:=fun e=>by
   rw[j0 e] at hh
   have:=od hh
   omega
  rw[if_neg hlong] at hkB
  refine⟨⟨by omega,trivial,by omega,by omega⟩,fun c hc hd hd2=> ?_⟩
  have hW:=FV (Q:=Q) hd hd2 h6 (Pw hy)
  refine⟨⟨x.nb+1,c,fun j=>if j<x.nb then x.f j else Px [y1] (j - x.nb),x.P.or Q⟩,⟨hc,?_⟩,hkr.symm,⟨rfl,rfl⟩,zD rfl rfl rfl fun _ _=>rfl,ah.refl _,ah.refl _⟩
  rw[hkB];exact hW
 ·have hshort:(ctext (m+1) x.l).length<32:=by
   by_cases e:(ctext (m+1) x.l).length<32
   ·exact e
   ·rw[(mP e).1] at hh;cases hh
  rw[if_pos hshort,List.nil_append] at hkB
  have hn2:=yN hb1
  rw[htail,← hkB] at hn2
  refine⟨⟨by omega,fun h=> ?_,?_,?_⟩,fun c hc hd hd2=> ?_⟩
  ·have:=hb2 h
   exact⟨this.1,by show 0+Q.nb y1<=_;rw[Nat.zero_add];exact this.2⟩
  ·show 2*(x.nb+Q.nb y1)*8<=_;omega
  ·show x.nb+Q.nb y1<_;omega
  have hW:=FV (Q:=Q) hd hd2 h6 hb1
  refine⟨⟨x.nb+Q.nb y1,c,fun j=>if j<x.nb then x.f j else Q.g (Q.fb y1) (j - x.nb),x.P.or Q⟩,⟨hc,?_⟩,hkr.symm,⟨rfl,rfl⟩,zD rfl rfl rfl fun _ _=>rfl,ah.refl _,ah.refl _⟩
  rw[hkB];exact hW
theorem SG {m:Nat}(h:aB Tryz.prog 63 (mW m)):aB Tryz.prog 101 (ig (oA m)) :=
 n7 (n:=20) (fn:=Tryz.f101) Tryz.func101 (by kernel_rfl) (by kernel_rfl) (oA m) fun x hx=>⟨BW m,UD h,by rfl,by
  cases m with
  | zero=>exact Mt x hx
  | succ m=>exact LL m x hx⟩
end Go.Proofs.YtoibaecagklkaaaGreatDoor
