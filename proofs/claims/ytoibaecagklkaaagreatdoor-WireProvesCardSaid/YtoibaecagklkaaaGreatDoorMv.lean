/- A part of the proof. -/
import Derived.Test.YtoibaecagklkaaaGreatDoorMu
open Bool renaming and_eq_true->an,and_false->c!,eq_iff_iff->d_,false->F,false_and->eB,not_eq_false'->eC,not_eq_true'->b6,or_eq_true->b!,true->C
open Go.IntKind renaming i64->M
open Go.Op renaming bytesLess->J
open Go.Proofs.Tryz renaming f107->d!,f12->ef,f23->ei,f26->ej,prog->Q
open List renaming all_eq_true->en,dropLast_concat_getLast->eL,filter_append->cl,filter_cons->eM,flatten_append->eN,foldl_cons->ep,getD_eq_getElem?_getD->b9,getElem?_eq_getElem->az,getElem_of_mem->cx,length->eu,length_append->W,length_cons->ez,length_eq_zero_iff->eT,length_take->eW,mem_append->a_,mem_append_right->e4,mem_cons->b_,mem_cons_of_mem->Z,mem_cons_self->X,mem_filter->eA,mem_flatMap->cy,mem_map->c4,mem_range->ag,mem_singleton->a!,nil_append->ct,pairwise_append->e5,pairwise_cons->e6,take_append_drop->e7,take_of_length_le->e_
open Nat renaming blt_eq->e!,le_refl->O,lt_succ_self->c5,not_lt_zero->b5,succ_pos->c6,zero_add->c7,zero_le->c_
open Option renaming none->I,some->Y
namespace Go.Proofs.YtoibaecagklkaaaGreatDoor
open Go Sx
variable {L:List f_}{l:List Rw}{a b fr p t to:f_}{c c' i n:Nat}{f g:Nat->f_}{w:Sp}{ty:TypeId}
section
open Go Sx
set_option maxRecDepth 20000
def aL (l:List f_):List f_:=l.foldl (λu x=>if x∈ u then u else u++[x]) []
theorem uq (l:List f_)(x:f_):aL (l++[x])=if x∈ aL l then aL l else aL l++[x]:=by unfold aL;rw[List.foldl_append];rfl
theorem lO: ∀(n:Nat) (l:List f_),l.length=n->∀ s,s∈ aL l↔s∈ l
 | 0,l,h,s=>by rw[eT.1 h];exact Iff.rfl
 | n+1,l,h,s=>by
   obtain⟨k,x,rfl⟩: ∃ k x,l=k++[x]:=⟨l.dropLast,l.getLast (by intro e;rw[e] at h;cases h),(eL _).symm⟩
   have ih:=lO n k (by rw[W] at h;simpa using h);rw[uq];by_cases hx:x∈ aL k
   ·rw[r_ hx,ih s,a_,a!];exact⟨.inl,λh=>h.elim id λe=>e▸ (ih x).1 hx⟩
   ·rw[s_ hx,a_,a_,ih s]
theorem x3: ∀(n:Nat) (l:List f_),l.length=n->(aL l).length<=n
 | 0,l,h=>by rw[eT.1 h];exact O _
 | n+1,l,h=>by
   obtain⟨k,x,rfl⟩: ∃ k x,l=k++[x]:=⟨l.dropLast,l.getLast (by intro e;rw[e] at h;cases h),(eL _).symm⟩
   have ih:=x3 n k (by rw[W] at h;simpa using h);rw[uq];split
   ·omega
   ·rw[W];simpa using ih
def fR (l:List f_)(s:f_):Int:=(l.count s:Int)
def iy (l:List f_)(s:f_):Bool:=decide (s∈ l)
noncomputable def WQ:List (FuncId×PT):=(62,bT shE yD)::(64,bT shE DD)::(63,pZ 13)::gy
theorem SN:bp Q (λf=>aD f WQ):=.cons Vl (bS _ _) (.cons X8 (bS _ _) (.cons (EV 13) (wB 13) dj))
def aeo (l:List f_):cK:=.all Nat λc=>.req (l.length<=c) (.new (λk=>.aN [.aX k 1 C 0 l.length c,.int .i64 C 0]) (.rows C l.length [.str λi=>l.getD i []] F (c*1) 9))
def Iw (n:Nat)(f g:Nat->f_):cK:=.fork (decide (ew n f g=0)) λb=>match b with
 | true=>aeo (aL (cX 13 (aB n (λi=>au (f i)) g)))
 | false=>.fork (decide (ew n f g=1)) λb=>match b with
   | true=>.ret (.aN [.aO,.int .i64 C 1])
   | false=>.ret (.aN [.aO,.int .i64 C 12])
def Kh (R:Loop)(P:Pd)(key:Nat)(L:List f_)(c:Nat):Mem:=[(1,.cells [.aX key 1 C 0 (aL L).length c] 1 29),(key,.rows C (aL L).length [.str λi=>(aL L).getD i []] F (c*1) 9),(2,.fmap (iy L) (.int .i64 (fR L)) I),
 (3,.cells [.map 2] 1 90),(9,.loop .ready I R),(6,P.parts 7),(7,P.lists 6)]
structure NoS where
 L:List f_
 c:Nat
 P:Pd
 s:f_
def cyN (R:Loop):mK :=
 {G:=NoS,N:=10,H:=11,pre:=λx=>x.L.length<=100000/\(aL x.L).length<=x.c,args:=λx=>[.str F x.s],mem:=λx=>Kh R x.P 10 x.L x.c,val:=λ_=>.bool C C,B:=Nat,
  post:=λx c=>(aL (x.L++[x.s])).length<=c,back:=λx c=>Kh R x.P 10 (x.L++[x.s]) c}
structure RA where
 L:List f_
 c:Nat
 P:Pd
 a:Nat
 T:List f_
def Ul (R:Loop)(d:Nat):mK :=
 {G:=RA,N:=10,H:=11,pre:=λx=>Told x.P d x.a x.T/\(x.L++x.T).length<=100000/\(aL x.L).length<=x.c,args:=λx=>[.ga 6 x.a 0,.yield 9],mem:=λx=>Kh R x.P 10 x.L x.c,val:=λ_=>.bool C C,B:=Nat,
  post:=λx c=>(aL (x.L++x.T)).length<=c,back:=λx c=>Kh R x.P 10 (x.L++x.T) c}
def aa8 (st:Sx.St):List Nat:=match st.m.get 1 with
 | some (.cells [.aX k _ _ _ _ _] _ _)=>[k]
 | _=>[]
def gS (x:RA)(Ks:List (List f_))(i:Nat):List f_:=x.L++x.P.dm x.a::(Ks.take i).flatten
noncomputable def ZL (R:Loop)(x:RA)(Ks:List (List f_)):aY :={α:=Nat×Nat,pre:=λ_ y=>y.1<=Ks.length/\(aL (gS x Ks y.1)).length<=y.2,kH:=λ_ y=>Ks.length-y.1,fresh:=1,slots:=λ_ y=>[(19,.int .i64 F y.1)],mem:=λst y=>Kh R x.P st.nx (gS x Ks y.1) y.2,drop:=aa8}
noncomputable def acn (R:Loop)(d:Nat)(x:RA)(Ks:List (List f_)):VC :=fE Q (recC 107 (k8 (Ul R d))) [(9,k8 (cyN R))] wq [(4,always (ZL R x Ks))] 100 d! ((Ul R (d+1)).args x) ((Ul R (d+1)).mem x) 11 ((Ul R (d+1)).fit x)
noncomputable def PI:fD:={cv with cT:=λf=>aD f WQ,iter:=λf=>if f=107 then Y (Kj 9 10 cyN (λR=>Ul R 14))else I}
theorem ae0 (R:Loop)(d:Nat)(x:RA)(Ks:List (List f_)):dB (.s 1 (.n .k (.s 0 (.n (.s 0 .k) (.s 0 (.m 2 (.s 1 (.m 2 (.s 0 (.n (.s 0 (.n .k (.s 0 (.n (.s 0 .k) (.s 0 (.m 3 (.s 0 .k))))))) (.n (.s 2 (.n .k (.s 1 (.n (.s 0 .k) (.s 0 (.m 2 (.s 1 (.m 2 (.s 1 (.n .k (.s 0 (.n (.s 0 .k) (.s 0 (.m 3 (.s 0 .k))))))))))))))) (.s 2 (.n (.s 0 .k) (.s 0 (.n .k (.n .k .t)))))))))))))))) (acn R d x Ks) ((x.P.D x.a=C/\∃(b:NoS),(b.L.length<=100000/\(aL b.L).length<=b.c)/\x.P.dm x.a=b.s/\((aL x.L).length=(aL b.L).length/\x.c=b.c)/\aa (SB.rows C (aL x.L).length [av.str λp=>(aL x.L).getD p []] F (x.c*1) 9) (SB.rows C (aL b.L).length [av.str λq=>(aL b.L).getD q []] F (b.c*1) 9)/\aa (SB.fmap (iy x.L) (aE.int M (fR x.L)) I) (SB.fmap (iy b.L) (aE.int M (fR b.L)) I)/\aa (SB.eD x.P.D [av.str x.P.dm,av.b7 7 1 C x.P.fb x.P.nb x.P.cb] 2 165 F) (b.P.parts 7)/\aa (SB.dQ x.P.D2 x.P.n2 [cg.ref 6 x.P.g] F) (b.P.lists 6)/\∀(j:Nat),(aL (b.L++[b.s])).length<=j->b.P.D x.a=C/\(∃(i:Nat×Nat),(i.1<=Ks.length/\(aL (gS x Ks i.1)).length<=i.2)/\0=(i.1:Int)/\((aL (b.L++[b.s])).length=(aL (gS x Ks i.1)).length/\j=i.2)/\aa (SB.rows C (aL (b.L++[b.s])).length [av.str λr=>(aL (b.L++[b.s])).getD r []] F (j*1) 9) (SB.rows C (aL (gS x Ks i.1)).length [av.str λu=>(aL (gS x Ks i.1)).getD u []] F (i.2*1) 9)/\aa (SB.fmap (iy (b.L++[b.s])) (aE.int M (fR (b.L++[b.s]))) I) (SB.fmap (iy (gS x Ks i.1)) (aE.int M (fR (gS x Ks i.1))) I)/\aa (SB.cells [SV.map (iR 10 11 2)] 1 90) (SB.cells [SV.map 2] 1 90)/\aa (SB.eD b.P.D [av.str b.P.dm,av.b7 (iR 10 11 7) 1 C b.P.fb b.P.nb b.P.cb] 2 165 F) (x.P.parts 7)/\aa (SB.dQ b.P.D2 b.P.n2 [cg.ref (iR 10 11 6) b.P.g] F) (x.P.lists 6))/\∀(f:Nat×Nat),f.1<=Ks.length/\(aL (gS x Ks f.1)).length<=f.2->Fk ((f.1:Int)<(↑(b.P.nb x.a):Int)) ((0<=(f.1:Int)/\(f.1:Int)<(↑(b.P.nb x.a):Int))/\(x.P.D2 (b.P.fb x.a)=C/\0+(f.1:Int).toNat<x.P.n2 (b.P.fb x.a))/\∃(e:RA),(Told e.P d e.a e.T/\(e.L++e.T).length<=100000/\(aL e.L).length<=e.c)/\x.P.g (b.P.fb x.a) (0+(f.1:Int).toNat)=e.a/\((aL (gS x Ks f.1)).length=(aL e.L).length/\f.2=e.c)/\aa (SB.rows C (aL (gS x Ks f.1)).length [av.str λv=>(aL (gS x Ks f.1)).getD v []] F (f.2*1) 9) (SB.rows C (aL e.L).length [av.str λw=>(aL e.L).getD w []] F (e.c*1) 9)/\aa (SB.fmap (iy (gS x Ks f.1)) (aE.int M (fR (gS x Ks f.1))) I) (SB.fmap (iy e.L) (aE.int M (fR e.L)) I)/\aa (SB.eD x.P.D [av.str x.P.dm,av.b7 7 1 C x.P.fb x.P.nb x.P.cb] 2 165 F) (e.P.parts 7)/\aa (SB.dQ x.P.D2 x.P.n2 [cg.ref 6 x.P.g] F) (e.P.lists 6)/\∀(l:Nat),(aL (e.L++e.T)).length<=l->I6 ((f.1:Int)+1)/\∃(h:Nat×Nat),((h.1<=Ks.length/\(aL (gS x Ks h.1)).length<=h.2)/\Ks.length-h.1<Ks.length-f.1)/\(f.1:Int)+1=(h.1:Int)/\((aL (e.L++e.T)).length=(aL (gS x Ks h.1)).length/\l=h.2)/\aa (SB.rows C (aL (e.L++e.T)).length [av.str λy=>(aL (e.L++e.T)).getD y []] F (l*1) 9) (SB.rows C (aL (gS x Ks h.1)).length [av.str λz=>(aL (gS x Ks h.1)).getD z []] F (h.2*1) 9)/\aa (SB.fmap (iy (e.L++e.T)) (aE.int M (fR (e.L++e.T))) I) (SB.fmap (iy (gS x Ks h.1)) (aE.int M (fR (gS x Ks h.1))) I)/\aa (SB.cells [SV.map (iR 10 ((23:Nat)) 2)] 1 90) (SB.cells [SV.map 2] 1 90)/\aa (SB.eD e.P.D [av.str e.P.dm,av.b7 (iR 10 ((23:Nat)) 7) 1 C e.P.fb e.P.nb e.P.cb] 2 165 F) (x.P.parts 7)/\aa (SB.dQ e.P.D2 e.P.n2 [cg.ref (iR 10 ((23:Nat)) 6) e.P.g] F) (x.P.lists 6)) (∃(o:Nat),(aL (x.L++x.T)).length<=o/\((aL (gS x Ks f.1)).length=(aL (x.L++x.T)).length/\f.2=o)/\aa (SB.rows C (aL (gS x Ks f.1)).length [av.str λA=>(aL (gS x Ks f.1)).getD A []] F (f.2*1) 9) (SB.rows C (aL (x.L++x.T)).length [av.str λB=>(aL (x.L++x.T)).getD B []] F (o*1) 9)/\aa (SB.fmap (iy (gS x Ks f.1)) (aE.int M (fR (gS x Ks f.1))) I) (SB.fmap (iy (x.L++x.T)) (aE.int M (fR (x.L++x.T))) I)))):=⟨by kernel_rfl,by kernel_rfl⟩
theorem abv (n:Nat)(f g:Nat->f_)(z:Bool)(o c:Nat)(key:Option Nat):dB (.s 3 (.n (.s 0 .k) (.s 0 (.n .k (.n (.s 1 (.n (.s 4 (.n (.s 0 .k) (.s 0 (.n .k (.n .k .t))))) (.s 2 (.n (.s 0 .k) (.s 0 (.n .k (.n .k .t))))))) (.s 0 (.n .k (.s 1 (.n .k (.s 0 (.m 2 (.s 0 .k)))))))))))) (iX PI 26 ej [.bE 0 2 z o 0 n c] [iY z o c n f g key] (Iw n f g)) ((λj:RA->Nat->SV=>(((((z=z/\o=o/\0+n<=n)/\True)/\n<9223372036854775808)/\Bk (!decide (ew n f g=0)) (Fk (ew n f g=0) (∃(x:Nat),(aL (cX 13 (aB n (fun(y:Nat)=>au (f y)) g))).length<=x/\False) (Fk (ew n f g=1) (ah (SV.aN [SV.aO,SV.int .i64 F (ew n f g)]) (SV.aN [SV.aO,SV.int .i64 C 1])) (ah (SV.aN [SV.aO,SV.int .i64 F (ew n f g)]) (SV.aN [SV.aO,SV.int .i64 C 12])))) ((((z=z/\o=o/\0+n<=n)/\True)/\n<=1000/\∀(w:Nat),w<n->(f w).length<1099511627776)/\∀(l:Nat),(aB n (fun(A:Nat)=>au (f A)) g).length<=l->∃(h:List Rw×Nat),(cc 13 h.1/\h.1.length<=1000/\(13:Nat)<=(13:Nat))/\((aB n (fun(B:Nat)=>au (f B)) g).length=h.1.length/\l=h.2)/\aa (SB.rows F (aB n (fun(E:Nat)=>au (f E)) g).length [bU (aB n (fun(G:Nat)=>au (f G)) g),bV (aB n (fun(H:Nat)=>au (f H)) g)] F (l*2) 174) (SB.rows F h.1.length [bU h.1,bV h.1] C (h.2*2) 174)/\∀(e:Nat×Pd),Told e.2 14 e.1 (cX 13 h.1)->∀(_u18:Loop),(∀(b:NoS),b.L.length<=100000/\(aL b.L).length<=b.c->I6 (dflt (iy b.L b.s) (fR b.L b.s)+1)/\Fk (dflt (dZ (iy b.L) b.s b.s) (gA (fR b.L) b.s (dflt (iy b.L b.s) (fR b.L b.s)+1) b.s)=1) ((0+(aL b.L).length<=(aL b.L).length/\True/\2*((aL b.L).length+1)*16<=(281474976710656:Nat)/\(aL b.L).length+1<(9223372036854775808:Nat))/\∀(p:Nat),(aL b.L).length+1<=p->∃(q:Nat),(aL (b.L++[b.s])).length<=q/\((aL b.L).length+1=(aL (b.L++[b.s])).length/\p=q)/\aa (SB.rows C ((aL b.L).length+1) [av.str λr=>if r<(aL b.L).length then(aL b.L).getD r [] else ck [b.s] (r-(aL b.L).length)] F (p*1) 9) (SB.rows C (aL (b.L++[b.s])).length [av.str λJ=>(aL (b.L++[b.s])).getD J []] F (q*1) 9)/\aa (SB.fmap (dZ (iy b.L) b.s) (aE.int M (gA (fR b.L) b.s (dflt (iy b.L b.s) (fR b.L b.s)+1))) I) (SB.fmap (iy (b.L++[b.s])) (aE.int M (fR (b.L++[b.s]))) I)) (∃(u:Nat),(aL (b.L++[b.s])).length<=u/\((aL b.L).length=(aL (b.L++[b.s])).length/\b.c=u)/\aa (SB.rows C (aL b.L).length [av.str λK=>(aL b.L).getD K []] F (b.c*1) 9) (SB.rows C (aL (b.L++[b.s])).length [av.str λN=>(aL (b.L++[b.s])).getD N []] F (u*1) 9)/\aa (SB.fmap (dZ (iy b.L) b.s) (aE.int M (gA (fR b.L) b.s (dflt (iy b.L b.s) (fR b.L b.s)+1))) I) (SB.fmap (iy (b.L++[b.s])) (aE.int M (fR (b.L++[b.s]))) I)))/\∃(d:RA),(Told d.P 14 d.a d.T/\(d.L++d.T).length<=100000/\(aL d.L).length<=d.c)/\e.1=d.a/\(aL d.L).length=0/\(SB.rows C (aL d.L).length [av.str λO=>(aL d.L).getD O []] F (d.c*1) 9).no=C/\aa (SB.map [] 0) (SB.fmap (iy d.L) (aE.int M (fR d.L)) I)/\aa (SB.cells [SV.map ((2:Nat))] 1 90) (SB.cells [SV.map 2] 1 90)/\aa (SB.eD e.2.D [av.str e.2.dm,av.b7 7 1 C e.2.fb e.2.nb e.2.cb] 2 165 F) (d.P.parts 7)/\aa (SB.dQ e.2.D2 e.2.n2 [cg.ref 6 e.2.g] F) (d.P.lists 6)/\∀(i:Nat),(aL (d.L++d.T)).length<=i->Fk (ew n f g=0) (∃(v:Nat),(aL (cX 13 (aB n (fun(Q:Nat)=>au (f Q)) g))).length<=v/\aa (SB.rows C (aL (d.L++d.T)).length [av.str λR=>(aL (d.L++d.T)).getD R []] F (i*1) 9) (SB.rows C (aL (cX 13 (aB n (fun(S:Nat)=>au (f S)) g))).length [av.str λU=>(aL (cX 13 (aB n (fun(V:Nat)=>au (f V)) g))).getD U []] F (v*1) 9)/\ah (j d i) (SV.aN [SV.aX (iR 10 ((10:Nat)) 10) 1 C 0 (aL (cX 13 (aB n (fun(W:Nat)=>au (f W)) g))).length v,SV.int .i64 C 0])) (Fk (ew n f g=1) (ah (j d i) (SV.aN [SV.aO,SV.int .i64 C 1])) (ah (j d i) (SV.aN [SV.aO,SV.int .i64 C 12]))))))) (fun(d:RA) (i:Nat)=>(SV.aN [SV.aX (iR 10 ((10:Nat)) 10) 1 C 0 (aL (d.L++d.T)).length i,SV.int .i64 C 0]))):=⟨by kernel_rfl,by kernel_rfl⟩
theorem zV {u u':List f_}(h:u=u')(hc:c=c'):aa (.rows C u.length [.str λi=>u.getD i []] F (c*1) ty) (.rows C u'.length [.str λi=>u'.getD i []] F (c'*1) ty):=by subst h;subst hc;exact aa.refl _
theorem Mk {L':List f_}(h:L=L'):aa (.fmap (iy L) (.int .i64 (fR L)) I) (.fmap (iy L') (.int .i64 (fR L')) I):=by subst h;exact aa.refl _
theorem Xb (x:RA)(Ks:List (List f_))(i:Nat)(hi:i<Ks.length):gS x Ks (i+1)=gS x Ks i++Ks[i]:=by unfold gS;rw[List.take_add_one,az hi,eN];simp
theorem aaH (x:RA)(Ks:List (List f_))(hT:x.T=x.P.dm x.a::Ks.flatten)(i:Nat)(hi:Ks.length<=i):gS x Ks i=x.L++x.T:=by unfold gS;rw[e_ hi,hT]
theorem aaI (x:RA)(Ks:List (List f_))(hT:x.T=x.P.dm x.a::Ks.flatten)(i:Nat):(gS x Ks i).length<=(x.L++x.T).length:=by
 have h:Ks.flatten=(Ks.take i).flatten++(Ks.drop i).flatten:=by rw[← eN,e7]
 unfold gS;rw[hT,h];simp only[W,ez];omega
theorem OY (R:Loop)(d:Nat)(x:RA)(hx:(Ul R (d+1)).pre x): ∃ aW,ay (fE Q (recC 107 (k8 (Ul R d))) [(9,k8 (cyN R))] wq aW 100 d! ((Ul R (d+1)).args x) ((Ul R (d+1)).mem x) (Ul R (d+1)).H ((Ul R (d+1)).fit x)):=by
 obtain⟨⟨hD,Ks,hnb,hD2,hT,hK⟩,hlen,hc⟩:=hx;have key:ay (acn R d x Ks):=by
  refine ay.A5 (ae0 R d x Ks) (by delta Fk;exact rfl) ?_;have hlen:(x.L++x.T).length<=100000:=hlen;have hL:x.L.length<=100000:=by rw[W] at hlen;omega
  refine⟨hD,⟨x.L,x.c,x.P,x.P.dm x.a⟩,⟨hL,hc⟩,rfl,⟨rfl,rfl⟩,aa.refl _,aa.refl _,aa.refl _,aa.refl _,λy hy=>⟨hD,⟨(0,y),⟨c_ _,hy⟩,rfl,⟨rfl,rfl⟩,aa.refl _,aa.refl _,aa.refl _,aa.refl _,aa.refl _⟩,λz hz=>⟨λh=> ?_,λh=> ?_⟩⟩⟩
  ·obtain⟨i,c⟩:=z;obtain⟨hz1,hz2⟩:=hz;have hi:i<Ks.length:=by have:(i:Int)<(x.P.nb x.a:Int):=l_ h;omega
   have hpos:0<Ks.length:=by omega
   have hd:=hD2 hpos;have ek:(0:Nat)+((i:Nat):Int).toNat=i:=by omega
   have em:=Xb x Ks i hi;have hml:=aaI x Ks hT (i+1);rw[em] at hml;refine⟨⟨by omega,by show(i:Int)<(x.P.nb x.a:Int);omega⟩,⟨hd.1,by rw[ek];exact Nat.lt_of_lt_of_le hi hd.2⟩,⟨gS x Ks i,c,x.P,x.P.g (x.P.fb x.a) i,Ks[i]⟩,⟨hK i _ (az hi),by show(gS x Ks i++Ks[i]).length<=_;omega,hz2⟩,by rw[ek],⟨rfl,rfl⟩,aa.refl _,aa.refl _,aa.refl _,aa.refl _,λy hy=> ?_⟩;have hl:Ks.length<=100000:=by have:=Ed (P:=x.P) (d:=d) (n:=Ks.length) (f:=λi=>x.P.g (x.P.fb x.a) i) (B:=Ks.flatten) ⟨Ks,rfl,rfl,hK⟩;rw[W,hT,ez] at hlen;omega
   have ec:aL (gS x Ks i++Ks[i])=aL (gS x Ks (i+1)):=congrArg aL em.symm;refine⟨⟨by omega,by omega⟩,(i+1,y),⟨⟨hi,?_⟩,by show _-(i+1)<_-i;omega⟩,by show(i:Int)+1=((i+1:Nat):Int);omega,⟨congrArg eu ec,rfl⟩,zV ec rfl,Mk em.symm,aa.refl _,aa.refl _,aa.refl _⟩;show(aL (gS x Ks (i+1))).length<=y;rw[← ec];exact hy
  ·obtain⟨i,c⟩:=z;obtain⟨hz1,hz2⟩:=hz;have hi:Ks.length<=i:=by have: ¬ (i:Int)<(x.P.nb x.a:Int):=m_ h;omega
   have em:=aaH x Ks hT i hi;have hz2:(aL (gS x Ks i)).length<=c:=hz2;exact⟨c,by rw[← em];exact hz2,⟨congrArg (λl=>(aL l).length) em,rfl⟩,zV (congrArg aL em) rfl,Mk em⟩
 exact⟨_,key⟩
theorem SD:GP Q 107 (Kj 9 10 cyN (λR=>Ul R 14)) :=Wr (n:=100) bR (fn:=d!) Tryz.func107 (by kernel_rfl) (by decide) (λ_=>rfl) (λ_ _=>rfl) (λR x h=>h.1) λR d x hx _=>OY R d x hx
theorem adH:Sx.Good Q PI:=.of bR SN bq λf g h=>by
 simp only[PI] at h;split at h
 ·rename_i e;injection h with h;subst e;subst h;exact SD
 ·cases h
theorem BU (L:List f_)(s:f_):dflt (iy L s) (fR L s)=fR L s:=by
 unfold dflt iy fR;by_cases h:s∈ L
 ·rw[n_ h];rfl
 ·rw[o_ h,List.count_eq_zero_of_not_mem h];rfl
theorem V7 (L:List f_)(s t:f_):dZ (iy L) s t=iy (L++[s]) t:=by unfold dZ iy;rw[d_,b!,p_,p_,p_,a_,a!]
theorem Vr (L:List f_)(s t:f_):gA (fR L) s (fR L s+1) t=fR (L++[s]) t:=by
 unfold gA fR;rw[List.count_append,List.count_singleton];by_cases h:t=s
 ·subst h;simp
 ·rw[o_ h];have: ¬ s=t:=λe=>h e.symm;simp[this]
theorem PO (L:List f_)(s:f_):aa (.fmap (dZ (iy L) s) (.int .i64 (gA (fR L) s (dflt (iy L s) (fR L s)+1))) I) (.fmap (iy (L++[s])) (.int .i64 (fR (L++[s]))) I):=by rw[BU];exact aa.fmap (V7 L s) λt=>congrArg (Value.int .i64) (Vr L s t)
theorem PR (L:List f_)(s:f_):dflt (dZ (iy L) s s) (gA (fR L) s (dflt (iy L s) (fR L s)+1) s)=1↔s∉ L:=by
 have h1:dZ (iy L) s s=true:=by unfold dZ;simp
 have h2:gA (fR L) s (dflt (iy L s) (fR L s)+1) s=fR L s+1:=by unfold gA;rw[BU];simp
 rw[h1,h2];show fR L s+1=1↔_;unfold fR;rw[← List.count_eq_zero];omega
theorem ac8 (L:List f_)(s:f_):0<=fR L s/\fR L s<=(L.length:Int):=by unfold fR;have:=List.count_le_length (a:=s) (l:=L);omega
theorem abj {u:List f_}{s:f_}{u':List f_}(h:u'=u++[s])(hc:c=c'):aa (.rows C (u.length+1) [.str λj=>if j<u.length then u.getD j [] else ck [s] (j-u.length)] F (c*1) ty) (.rows C u'.length [.str λi=>u'.getD i []] F (c'*1) ty):=by
 subst h;subst hc;refine kW (by simp) rfl rfl λk c c' h1 h2 i hi E=> ?_
 match k,h1,h2 with
 | 0,h1,h2 =>
   injection h1 with h1;injection h2 with h2;subst h1;subst h2;simp only[av.at,SV.val];rw[sS u s [] i hi];by_cases h:i<u.length
   ·rw[r_ h,r_ h]
   ·rw[s_ h,s_ h];rfl
 | k+1,h1,_=>simp at h1
theorem S3 (n:Nat)(f g:Nat->f_):aB (n+1) f g=aB n f g++[(f n,g n)]:=by unfold aB;rw[List.range_succ,List.map_append];rfl
theorem CX {r:Rw}(h:r∈ aB n f g): ∃ i,i<n/\r=(f i,g i):=by unfold aB at h;obtain⟨i,hi,rfl⟩:=c4.1 h;exact⟨i,ag.1 hi,rfl⟩
theorem PZ {f g:Nat->f_}: ∀ {n:Nat},(∀ i,i<n->ju f g i=C)->∀ i,i+1<n->J (f i) (f (n-1))=C
 | 0,_,i,hi=>by omega
 | n+1,h,i,hi=>by
   have h1:J (f (n-1)) (f n)=true:=by
    have:=h n (c5 n);unfold ju at this;simp only[an,b!,p_] at this;rcases this.2.2 with e | e
    ·omega
    ·exact e
   show J (f i) (f n)=C;by_cases e:i+1=n
   ·rw[← e] at h1;rw[← e];exact h1
   ·exact CS (PZ (λj hj=>h j (by omega)) i (by omega)) h1
theorem E6 {f g:Nat->f_}: ∀ {n:Nat},(∀ i,i<n->ju f g i=C)->(aB n f g).Pairwise λa b=>J a.1 b.1=C
 | 0,_=>List.Pairwise.nil
 | n+1,h=>by rw[S3,e5];refine⟨E6 λi hi=>h i (by omega),List.pairwise_singleton _ _,λa ha b hb=> ?_⟩;obtain⟨i,hi,rfl⟩:=CX ha;rw[a!] at hb;subst hb;exact PZ h i (by omega)
theorem mN (h:ew n f g=0):GO (aB n f g)/\n<=40:=by
 unfold ew at h;cases he:JV n f g with
 | false=>rw[he] at h;exact absurd (show(1:Int)=0 from h) (by decide)
 | true =>
   rw[he,cond_true] at h;have hall: ∀ i,i<n->ju f g i=true:=λi hi=>en.1 he i (ag.2 hi);refine⟨⟨E6 hall,λx hx=> ?_,λx hx=> ?_⟩,?_⟩
   ·obtain⟨i,hi,rfl⟩:=CX hx;have:=hall i hi;unfold ju yS at this;simp only[an,b6,p_,q_] at this;exact⟨this.1.1,by have:=this.1.2;show(f i).length<=6;omega⟩
   ·obtain⟨i,hi,rfl⟩:=CX hx;have:=hall i hi;unfold ju uv at this;simp only[an,b6,p_,q_] at this;exact⟨List.length_pos_iff.2 this.2.1.1,by have:=this.2.1.2;show(g i).length<=80;omega⟩
   ·by_cases h40:(40:Int)<(n:Int)
    ·rw[r_ h40] at h;exact absurd h (by decide)
    ·omega
theorem RQ (n:Nat)(f g:Nat->f_):ew n f g=0∨ew n f g=1∨ew n f g=12:=by
 unfold ew;cases JV n f g with
 | false=>exact .inr (.inl rfl)
 | true =>
   rw[cond_true];by_cases h:(40:Int)<(n:Int)
   ·rw[r_ h];exact .inr (.inr rfl)
   ·rw[s_ h];exact .inl rfl
theorem ac7 (h: ¬ ew n f g=0)(h1: ¬ ew n f g=1):ew n f g=12:=by
 rcases RQ n f g with e | e | e
 ·exact absurd e h
 ·exact absurd e h1
 ·exact e
theorem Rp {v:SV}{k:IntKind}{a b:Int}{l l':Bool}(h:a=b):ah (.aN [v,.int k l a]) (.aN [v,.int k l' b]):=by subst h;exact λE=>rfl
theorem tS (n:Nat)(f g:Nat->f_):aB n (λi=>au (f i)) g=rowsOf (aB n f g):=by unfold aB rowsOf;rw[List.map_map];rfl
theorem gQ (h:ew n f g=0):cc 13 (aB n (λi=>au (f i)) g):=by rw[tS];exact E7 (mN h).1
theorem ZD (m:Nat)(l:List Rw):(cX m l).length<=m*l.length+1:=by have:=yw m l;unfold cX;rw[ez];omega
theorem K9 (n:Nat)(f g:Nat->f_)(hn:n<9223372036854775808)(z:Bool)(o c:Nat)(key:Option Nat):ay (iX PI 26 ej [.bE 0 2 z o 0 n c] [iY z o c n f g key] (Iw n f g)):=by
 refine ay.A5 (abv n f g z o c key) (by delta Bk Fk;exact rfl) ?_;simp only[c7,O,true_and,and_true,b6,eC,p_,q_];refine⟨hn,λh=>⟨λh'=>absurd h' h,λ_=>⟨λe=>Rp e,λe=>Rp (ac7 h e)⟩⟩,λh=> ?_⟩;obtain⟨he,h40⟩:=mN h;have hro:=gQ h;have hl:=fc n (λi=>au (f i)) g;refine⟨⟨by omega,λi hi=> ?_⟩,λc hc=>⟨(aB n (λi=>au (f i)) g,c),⟨hro,by rw[hl];omega⟩,⟨rfl,rfl⟩,?_,λx hx R=>⟨λy hy=> ?_,?_⟩⟩⟩
 ·have:=(he.key (f i,g i) (by unfold aB;exact c4.2 ⟨i,ag.2 hi,rfl⟩)).2;have:(f i).length<=6:=this;omega
 ·exact ue
 ·have hL:y.L.length<=100000:=hy.1;have hu:=x3 y.L.length y.L rfl;obtain⟨c1,c2⟩:=ac8 y.L y.s;have hd:=BU y.L y.s;rw[hd];refine⟨⟨by omega,by omega⟩,λh1=>⟨⟨by omega,by omega⟩,λc hc=>⟨c,?_⟩⟩,λh1=>⟨y.c,?_⟩⟩
  ·rw[← hd] at h1;have hn:y.s∉ aL y.L:=λe=>(PR y.L y.s).1 h1 ((lO _ _ rfl _).1 e);have e:aL (y.L++[y.s])=aL y.L++[y.s]:=by rw[uq,s_ hn]
   have el:(aL (y.L++[y.s])).length=(aL y.L).length+1:=by rw[e,W];rfl
   refine⟨by omega,⟨el.symm,rfl⟩,abj e rfl,?_⟩;rw[← hd];exact PO _ _
  ·rw[← hd] at h1;have hn:y.s∈ aL y.L:=(lO _ _ rfl _).2 (Decidable.byContradiction λe=>h1 ((PR y.L y.s).2 e));have e:aL (y.L++[y.s])=aL y.L:=by rw[uq,r_ hn]
   refine⟨by rw[e];exact hy.2,⟨by rw[e],rfl⟩,zV e.symm rfl,?_⟩;rw[← hd];exact PO _ _
 ·have hal:=ZD 13 (aB n (λi=>au (f i)) g);have ha:([]++cX 13 (aB n (λi=>au (f i)) g):List f_).length<=100000:=by rw[ct];omega
  refine⟨⟨[],0,x.2,x.1,cX 13 (aB n (λi=>au (f i)) g)⟩,⟨hx,ha,O _⟩,rfl,rfl,rfl,aa.Fl λ_=>rfl,aa.refl _,aa.refl _,aa.refl _,λy hy=>⟨λ_=>⟨y,hy,aa.refl _,λE=>rfl⟩,λh'=>absurd h h'⟩⟩
def JT (z:Bool)(l:List Rw)(c:Nat):SB:=.rows z l.length [bU l,bV l] F (c*2) 50
def PY (l:List Rw):cK:=.all Nat λc=>.req (l.length<=c) (.new (λk=>.aX k 2 C 0 l.length c) (JT C l c))
def eO (fr to:f_)(n:Nat)(f g:Nat->f_)(i:Nat):List Rw:=ak fr to ((aB n f g).take i)
noncomputable def acQ (fr to:f_)(n:Nat)(f g:Nat->f_):aY :=
 {α:=Nat×Nat,pre:=λ_ x=>x.1<=n/\(eO fr to n f g x.1).length<=x.2,kH:=λ_ x=>n-x.1,fresh:=1,slots:=λst x=>[(10,.int .i64 F x.1),(5,.aX st.nx 2 C 0 (eO fr to n f g x.1).length x.2)],
  mem:=λst x=>[(st.nx,JT C (eO fr to n f g x.1) x.2)]}
noncomputable def UP (fr to:f_)(n:Nat)(f g:Nat->f_):fD:={cv with cT:=λf=>aD f Ic,aW:=λh=>if h=23 then [(3,always (acQ fr to n f g))] else []}
theorem ado (fr to:f_)(n:Nat)(f g:Nat->f_):Sx.Good Q (UP fr to n f g):=.of bR y6 bq
noncomputable def cH (n:Nat)(f g:Nat->f_):f_:=aK (ctext 13 (aB n (λi=>au (f i)) g))
theorem TU (fr to:f_)(n:Nat)(f g:Nat->f_)(z:Bool)(o c:Nat)(key:Option Nat):dB (.n (.s 0 (.n .k (.n .k .t))) (.n (.s 4 (.n (.s 3 (.n .k (.n (.s 0 .k) (.s 0 (.n .k .t))))) (.s 1 (.n .k (.n (.s 0 .k) (.s 0 (.n .k .t))))))) .k)) (iX (UP fr to n f g) 23 ei [.bE 0 2 z o 0 n c,.agg [.str F fr,.str F to]] [iY z o c n f g key] (PY (ak fr to (aB n f g)))) (((∃(e:Nat×Nat),(e.1<=n/\(eO fr to n f g e.1).length<=e.2)/\0=(e.1:Int)/\(eO fr to n f g e.1).length=0/\(JT C (eO fr to n f g e.1) e.2).no=C)/\∀(a:Nat×Nat),a.1<=n/\(eO fr to n f g a.1).length<=a.2->Fk ((a.1:Int)<(n:Int)) ((0<=(a.1:Int)/\(a.1:Int)<(n:Int))/\(o=o/\0+(a.1:Int).toNat<n)/\(f (0+(a.1:Int).toNat)).length<1099511627776/\Y (SB.cells [SV.str F fr,SV.str F to] 2 28)=Y (SB.cells [SV.str F fr,SV.str F to] 2 28)/\(fr.length<=1000/\to.length<=1000)/\Bk (hasB fr to (au (f (0+(a.1:Int).toNat)))) ((0+(eO fr to n f g a.1).length<=(eO fr to n f g a.1).length/\True/\2*((eO fr to n f g a.1).length+1)*32<=(281474976710656:Nat)/\(eO fr to n f g a.1).length+1<(9223372036854775808:Nat))/\∀(h:Nat),(eO fr to n f g a.1).length+1<=h->I6 ((a.1:Int)+1)/\∃(b:Nat×Nat),((b.1<=n/\(eO fr to n f g b.1).length<=b.2)/\n-b.1<n-a.1)/\(a.1:Int)+1=(b.1:Int)/\((eO fr to n f g a.1).length+1=(eO fr to n f g b.1).length/\h=b.2)/\aa (SB.rows C ((eO fr to n f g a.1).length+1) [av.str λi=>if i<(eO fr to n f g a.1).length then((eO fr to n f g a.1).getD i ([],[])).1 else ck [f (0+(a.1:Int).toNat)] (i-(eO fr to n f g a.1).length),av.str λj=>if j<(eO fr to n f g a.1).length then((eO fr to n f g a.1).getD j ([],[])).2 else ck [g (0+(a.1:Int).toNat)] (j-(eO fr to n f g a.1).length)] F (h*2) 50) (SB.rows C (eO fr to n f g b.1).length [bU (eO fr to n f g b.1),bV (eO fr to n f g b.1)] F (b.2*2) 50)) (I6 ((a.1:Int)+1)/\∃(d:Nat×Nat),((d.1<=n/\(eO fr to n f g d.1).length<=d.2)/\n-d.1<n-a.1)/\(a.1:Int)+1=(d.1:Int)/\((eO fr to n f g a.1).length=(eO fr to n f g d.1).length/\a.2=d.2)/\aa (SB.rows C (eO fr to n f g a.1).length [bU (eO fr to n f g a.1),bV (eO fr to n f g a.1)] F (a.2*2) 50) (SB.rows C (eO fr to n f g d.1).length [bU (eO fr to n f g d.1),bV (eO fr to n f g d.1)] F (d.2*2) 50))) (∃(l:Nat),(ak fr to (aB n f g)).length<=l/\aa (SB.rows C (eO fr to n f g a.1).length [bU (eO fr to n f g a.1),bV (eO fr to n f g a.1)] F (a.2*2) 50) (SB.rows C (ak fr to (aB n f g)).length [bU (ak fr to (aB n f g)),bV (ak fr to (aB n f g))] F (l*2) 50)/\ah (SV.aX ((2:Nat)) 2 C 0 (eO fr to n f g a.1).length a.2) (SV.aX ((2:Nat)) 2 C 0 (ak fr to (aB n f g)).length l)))):=⟨by kernel_rfl,by kernel_rfl⟩
theorem FU (hi:i<n):(aB n f g).take (i+1)=(aB n f g).take i++[(f i,g i)]:=by have hl:=fc n f g;rw[zS (by omega)];rw[CW hi]
theorem ZS (hi:i<n)(h:hasB fr to (au (f i))=C):eO fr to n f g (i+1)=eO fr to n f g i++[(f i,g i)]:=by unfold eO ak;rw[FU hi,cl];congr 1;rw[eM,h];rfl
theorem ac0 (hi:i<n)(h:hasB fr to (au (f i))=F):eO fr to n f g (i+1)=eO fr to n f g i:=by unfold eO ak;rw[FU hi,cl,eM,h];simp
theorem ZR (fr to:f_)(n:Nat)(f g:Nat->f_)(i:Nat):(eO fr to n f g i).length<=n:=by
 have h1:=List.length_filter_le (λe:f_×f_=>hasB fr to (au e.1)) ((aB n f g).take i);have h2:((aB n f g).take i).length<=(aB n f g).length:=by rw[eW];omega
 rw[fc] at h2;unfold eO ak;omega
theorem ZP (fr to:f_)(n:Nat)(f g:Nat->f_)(i:Nat)(hi:n<=i):eO fr to n f g i=ak fr to (aB n f g):=by unfold eO;rw[e_ (by rw[fc];exact hi)]
theorem JU {z:Bool}{l':List Rw}(h:l=l')(hc:c=c'):aa (JT z l c) (JT z l' c'):=by subst h;subst hc;exact aa.refl _
theorem VF {l':List Rw}(h:l'=l++[(a,b)])(hc:c=c'):aa (.rows C (l.length+1) [.str λj=>if j<l.length then(l.getD j ([],[])).1 else ck [a] (j-l.length),.str λj=>if j<l.length then(l.getD j ([],[])).2 else ck [b] (j-l.length)] F (c*2) ty) (.rows C l'.length [bU l',bV l'] F (c'*2) ty):=by subst h;subst hc;exact Q8 (r:=(a,b))
theorem Eg (fr to:f_)(n:Nat)(f g:Nat->f_)(hn:n<=1000)(hf: ∀ i,i<n->(f i).length<1099511627776)(hr:fr.length<=1000)(ht:to.length<=1000)(z:Bool)(o c:Nat)(key:Option Nat):ay (iX (UP fr to n f g) 23 ei [.bE 0 2 z o 0 n c,.agg [.str F fr,.str F to]] [iY z o c n f g key] (PY (ak fr to (aB n f g)))):=by
 refine ay.A5 (TU fr to n f g z o c key) (by delta Bk Fk;exact rfl) ?_;simp only[Int.toNat_natCast,c7,O,true_and,p_,q_];refine⟨⟨(0,0),⟨c_ _,O _⟩,rfl,rfl,rfl⟩,λx ⟨h1,h2⟩=>⟨λh=> ?_,λh=> ?_⟩⟩
 ·obtain⟨i,c⟩:=x;have hlt:i<n:=by omega
  have hl:(eO fr to n f g (i,c).fst).length<=n:=ZR fr to n f g i;have hlt:(i,c).fst<n:=hlt;refine⟨by omega,hlt,hf i hlt,⟨hr,ht⟩,λhb=>⟨⟨by omega,by omega⟩,λc' hc'=>⟨⟨by omega,by omega⟩,(i+1,c'),?_⟩⟩,λhb=>⟨⟨by omega,by omega⟩,(i+1,c),?_⟩⟩
  ·have e:=ZS (g:=g) hlt hb;have el:(eO fr to n f g (i+1)).length=(eO fr to n f g i).length+1:=by rw[e,W];rfl
   exact⟨⟨⟨by omega,by show _<=c';rw[el];exact hc'⟩,by show n-(i+1)<n-i;omega⟩,by show(i:Int)+1=((i+1:Nat):Int);omega,⟨el.symm,rfl⟩,VF e rfl⟩
  ·have e:=ac0 (g:=g) hlt hb;exact⟨⟨⟨by omega,by show(eO fr to n f g (i+1)).length<=c;rw[e];exact h2⟩,by show n-(i+1)<n-i;omega⟩,by show(i:Int)+1=((i+1:Nat):Int);omega,⟨congrArg eu e.symm,rfl⟩,JU (z:=C) e.symm rfl⟩
 ·obtain⟨i,c⟩:=x;have e:=ZP fr to n f g i (by omega);exact⟨c,by rw[← e];exact h2,JU (z:=C) e rfl,zJ rfl (congrArg eu e) rfl⟩
theorem VG (l:List Rw):(PY l).Ok:=λ_=>⟨rfl,rfl,λk=>by
 show Nat.blt k (k+1)=C;rw[e!];omega,λE E' k k' h=>by
 cases l with
 | nil=>rfl
 | cons a r =>show(SV.aX k 2 C 0 (a::r).length _).val E=(SV.aX k' 2 C 0 (a::r).length _).val E';have:=h (SB.jd (i:=0) (c6 _));simp only[SV.val];rw[this]⟩
def afW:List AZ:=[.of (.slice dE),.agg [.one,.one]]
def G1 (vs:List SV)(l:List Seen):Option (Prop×cK):=match vs,l with
 | [_,.agg [.str F fr,.str F to]],[⟨_,_,_,n,_,[.str f,.str g]⟩]=>Y (n<=1000/\(∀ i,i<n->(f i).length<1099511627776)/\fr.length<=1000/\to.length<=1000,PY (ak fr to (aB n f g)))
 | _,_=>I
theorem MJ:ax Q 23 (bT afW G1):=by
 refine gd (n:=20) Tryz.func23 (by kernel_rfl) (by kernel_rfl) ?_;intro vs l q a h hq;unfold G1 at h;split at h
 ·rename_i v fr to key z o n c f g;cases h;exact⟨_,ado fr to n f g,rfl,VG _,Eg fr to n f g hq.1 hq.2.1 hq.2.2.1 hq.2.2.2 z o c key⟩
 ·cases h
def zl (vs:List SV)(l:List Seen):Option (Prop×cK):=match vs,l with
 | [_],[⟨_,_,_,n,_,[.str f,.str g]⟩]=>Y (n<9223372036854775808,Iw n f g)
 | _,_=>I
theorem Td (n:Nat)(f g:Nat->f_):(Iw n f g).Ok:=λb=>by
 cases b with
 | false=>intro b;cases b<;>rfl
 | true =>
   intro c;refine⟨rfl,rfl,λk=>by simp[SV.wf,SV.fH,e!],λE E' k k' h=> ?_⟩;simp only[SV.val,SV.vals];cases e:aL (cX 13 (aB n (λi=>au (f i)) g))with
   | nil=>rfl
   | cons a r=>rw[h (by rw[e];exact SB.jd (i:=0) (c6 _))]
theorem Xm:ax Q 26 (bT shE zl):=by
 refine gd (n:=20) Tryz.func26 (by kernel_rfl) (by kernel_rfl) ?_;intro vs l q a h hq;unfold zl at h;split at h
 ·rename_i v key z o n c f g;cases h;exact⟨_,adH,rfl,Td n f g,K9 n f g hq z o c key⟩
 ·cases h
structure HoG where
 n:Nat
 f:Nat->f_
 g:Nat->f_
 z:Bool
 o:Nat
 c:Nat
noncomputable def mX (n:Nat)(f g:Nat->f_):List f_:=aL (cX 13 (aB n (λi=>au (f i)) g))
noncomputable def iK (n:Nat)(f g:Nat->f_)(q:Nat):f_:=(mX n f g).getD q []
noncomputable def Es (n:Nat)(f g:Nat->f_):Bool:=uC n f g&&(decide (ew n f g=0)&&fu (mX n f g).length (iK n f g))
noncomputable def n9:gP :=
 {G:=HoG,n:=1,N:=4,pre:=λx=>x.n<9223372036854775808,args:=λx=>[.bE 0 2 x.z x.o 0 x.n x.c],mem:=λx=>[(0,.view x.z x.o x.n [.str x.f,.str x.g])],
  wo:=λx=>.fork (Es x.n x.f x.g) λb=>match b with
   | true=>.all uZ λy=>.req (rz (mX x.n x.f x.g).length (iK x.n x.f x.g) (aK (iK x.n x.f x.g 0)) y) (.ret (.aN [.ptr 1 C 0,.str F (aK (iK x.n x.f x.g 0))]) [(1,fA 2000 2),(2,.fmap (cY y.Fr) (.ref 3 y.g) I),(3,y.A.bare)])
   | false=>.ret (.aN [.cD,.str C []]) []}
noncomputable def Qy:List (FuncId×PT):=(19,bT shE B9)::(26,bT shE zl)::(45,bT shT yq)::(46,cM RB)::gy
theorem NF:bp Q (λf=>aD f Qy):=.cons Z9 (bS _ _) (.cons Xm (bS _ _) (.cons UA (bS _ _) (.cons acH (cz _) dj)))
noncomputable def MQ:fD:={cv with cT:=λf=>aD f Qy}
theorem Qk:Sx.Good Q MQ:=.of bR NF bq
theorem abq (x:HoG):dB (.s 1 (.n (.s 4 (.n (.s 0 .k) (.s 1 (.n .k (.s 0 (.n .k (.n (.s 1 (.n .k (.s 0 .k))) .t))))))) .t)) (runM MQ 12 ef n9 x) (((((x.z=x.z/\x.o=x.o/\0+x.n<=x.n)/\True)/\True)/\(((x.z=x.z/\x.o=x.o/\0+x.n<=x.n)/\True)/\x.n<9223372036854775808)/\Fk (ew x.n x.f x.g=0) (∀(b:Nat),(aL (cX 13 (aB x.n (fun(j:Nat)=>au (x.f j)) x.g))).length<=b->(((C=C/\0+(aL (cX 13 (aB x.n (fun(l:Nat)=>au (x.f l)) x.g))).length<=(aL (cX 13 (aB x.n (fun(m:Nat)=>au (x.f m)) x.g))).length)/\True)/\(aL (cX 13 (aB x.n (fun(p:Nat)=>au (x.f p)) x.g))).length<=100000/\∀(h:Nat),h<(aL (cX 13 (aB x.n (fun(q:Nat)=>au (x.f q)) x.g))).length->((aL (cX 13 (aB x.n (fun(r:Nat)=>au (x.f r)) x.g))).getD h []).length<1099511627776)/\Bk (!uC x.n x.f x.g) (Es x.n x.f x.g=C->∃(u:uZ),rz (mX x.n x.f x.g).length (iK x.n x.f x.g) (aK (iK x.n x.f x.g 0)) u/\False) (((!fu (aL (cX 13 (aB x.n (fun(v:Nat)=>au (x.f v)) x.g))).length fun(w:Nat)=>(aL (cX 13 (aB x.n (fun(y:Nat)=>au (x.f y)) x.g))).getD w [])=C->Es x.n x.f x.g=C->∃(B:uZ),rz (mX x.n x.f x.g).length (iK x.n x.f x.g) (aK (iK x.n x.f x.g 0)) B/\False)/\((!fu (aL (cX 13 (aB x.n (fun(E:Nat)=>au (x.f E)) x.g))).length fun(G:Nat)=>(aL (cX 13 (aB x.n (fun(H:Nat)=>au (x.f H)) x.g))).getD G [])=F->∃(a:AdG),(0<a.n/\a.n<=1000/\(a.n:Int)<=a.room/\a.room<=1000000/\(∀(i:Nat),i<a.n->(a.f i).length<=1000)/\rq a.n a.f=C/\Clo a.n a.f)/\((aL (cX 13 (aB x.n (fun(J:Nat)=>au (x.f J)) x.g))).length=a.n/\b=a.c)/\2000=a.room/\aa (SB.rows C (aL (cX 13 (aB x.n (fun(K:Nat)=>au (x.f K)) x.g))).length [av.str λL=>(aL (cX 13 (aB x.n (fun(M:Nat)=>au (x.f M)) x.g))).getD L []] F (b*1) 9) (SB.rows C a.n [av.str a.f] C (a.c*1) 9)/\∀(d:uZ),rz a.n a.f (aK (a.f 0)) d->Bk (Es x.n x.f x.g) (∃(e:uZ),rz (mX x.n x.f x.g).length (iK x.n x.f x.g) (aK (iK x.n x.f x.g 0)) e/\aK (a.f 0)=aK (iK x.n x.f x.g 0)/\a.room=2000/\aa (SB.fmap (cY d.Fr) (aE.aM (pF 3 (su 0 [((3:Nat),SB.cells (SV.agg (bg (bg [SV.int .i64 C 0,SV.fU] 0 (SV.int .i64 (C&&C) 2000).cells) 1 (SV.map 2).cells)).cells 2 126),((2:Nat),SB.map [] 0),((1:Nat),SB.rows C (aL (cX 13 (aB x.n (fun(N:Nat)=>au (x.f N)) x.g))).length [av.str λO=>(aL (cX 13 (aB x.n (fun(P:Nat)=>au (x.f P)) x.g))).getD O []] F (b*1) 9),((0:Nat),SB.view x.z x.o x.n [av.str x.f,av.str x.g])] (SB.rows C a.n [av.str a.f] C (a.c*1) 9) (SB.rows C (aL (cX 13 (aB x.n (fun(Q:Nat)=>au (x.f Q)) x.g))).length [av.str λR=>(aL (cX 13 (aB x.n (fun(S:Nat)=>au (x.f S)) x.g))).getD R []] F (b*1) 9) (su 0 [((3:Nat),SB.cells (SV.agg (bg (bg [SV.int .i64 C 0,SV.fU] 0 (SV.int .i64 (C&&C) 2000).cells) 1 (SV.map 2).cells)).cells 2 126),((2:Nat),SB.map [] 0),((1:Nat),SB.rows C (aL (cX 13 (aB x.n (fun(T:Nat)=>au (x.f T)) x.g))).length [av.str λU=>(aL (cX 13 (aB x.n (fun(V:Nat)=>au (x.f V)) x.g))).getD U []] F (b*1) 9),((0:Nat),SB.view x.z x.o x.n [av.str x.f,av.str x.g])] (SB.map [] 0) (SB.map [] 0) [((1:Nat),(2:Nat)),((2:Nat),(1:Nat)),((0:Nat),(3:Nat))])) 4) (aE.ref 3 d.g)) I) (SB.fmap (cY e.Fr) (aE.ref 3 e.g) I)/\aa (SB.eD d.A.D [av.str d.A.dm] 4 133 F) (SB.eD e.A.D [av.str e.A.dm] 4 133 F)) False))) (Fk (ew x.n x.f x.g=1) (((True/\True)/\(0:Nat)<=(100000:Nat)/\∀(W:Nat),W<0->(0:Nat)<(1099511627776:Nat))/\Bk (!uC x.n x.f x.g) (Es x.n x.f x.g=C->∃(X:uZ),rz (mX x.n x.f x.g).length (iK x.n x.f x.g) (aK (iK x.n x.f x.g 0)) X/\False) (Es x.n x.f x.g=C->∃(Y:uZ),rz (mX x.n x.f x.g).length (iK x.n x.f x.g) (aK (iK x.n x.f x.g 0)) Y/\False)) (((True/\True)/\(0:Nat)<=(100000:Nat)/\∀(Z:Nat),Z<0->(0:Nat)<(1099511627776:Nat))/\Bk (!uC x.n x.f x.g) (Es x.n x.f x.g=C->∃(u1:uZ),rz (mX x.n x.f x.g).length (iK x.n x.f x.g) (aK (iK x.n x.f x.g 0)) u1/\False) (Es x.n x.f x.g=C->∃(u0:uZ),rz (mX x.n x.f x.g).length (iK x.n x.f x.g) (aK (iK x.n x.f x.g 0)) u0/\False))))):=⟨by kernel_rfl,by kernel_rfl⟩
structure acD (n:Nat)(f g:Nat->f_):Prop where
 pos:0<(mX n f g).length
 le:(mX n f g).length<=1000
 len: ∀ i,i<(mX n f g).length->(iK n f g i).length<=1000
 read:rq (mX n f g).length (iK n f g)=C
 clo:fu (mX n f g).length (iK n f g)=C->Clo (mX n f g).length (iK n f g)
theorem Aw (H: ∀ n f g,ew n f g=0->acD n f g)(x:HoG)(hx:n9.pre x):ay (runM MQ 12 ef n9 x):=by
 refine ay.A5 (abq x) (by delta Bk Fk;exact rfl) ?_;have hx:x.n<9223372036854775808:=hx;have no0: ∀ {P:Prop},ew x.n x.f x.g≠0->Es x.n x.f x.g=C->P:=λh e=>by unfold Es at e;rw[o_ h,eB,c!] at e;cases e
 have no1: ∀ {P:Prop},uC x.n x.f x.g=F->Es x.n x.f x.g=C->P:=λh e=>by unfold Es at e;rw[h,eB] at e;cases e
 simp only[c7,O,true_and,and_true,p_,q_,b6,eC];refine⟨hx,λh0 c hc=> ?_,λh0=>⟨λ_=>⟨⟨c_ _,λi hi=>absurd hi (b5 _)⟩,λ_=>no0 h0,λ_=>no0 h0⟩,λ_=>⟨⟨c_ _,λi hi=>absurd hi (b5 _)⟩,λ_=>no0 h0,λ_=>no0 h0⟩⟩⟩;have hH:=H _ _ _ h0;have e1:aL (cX 13 (aB x.n (λi=>au (x.f i)) x.g))=mX x.n x.f x.g:=rfl;have e2:(λi=>(mX x.n x.f x.g).getD i [])=iK x.n x.f x.g:=rfl;rw[e1];have hle:=hH.le;refine⟨⟨by omega,λi hi=>Nat.lt_of_le_of_lt (hH.len i hi) (by decide)⟩,λhf=>no1 hf,λhf=>⟨λha e=> ?_,λha=>⟨⟨(mX x.n x.f x.g).length,iK x.n x.f x.g,c,2000⟩,⟨hH.pos,hH.le,by show((mX x.n x.f x.g).length:Int)<=2000;omega,by show(2000:Int)<=1000000;decide,hH.len,hH.read,hH.clo ha⟩,⟨rfl,rfl⟩,rfl,?_,λy hy=>⟨λ_=>⟨y,hy,rfl,rfl,aa.fmap (λ_=>rfl) (λ_=>rfl),aa.refl _⟩,λe=> ?_⟩⟩⟩⟩
 ·have ha:fu (mX x.n x.f x.g).length (iK x.n x.f x.g)=false:=ha;unfold Es at e;rw[ha,c!,c!] at e;cases e
 ·exact ue
 ·have ha:fu (mX x.n x.f x.g).length (iK x.n x.f x.g)=true:=ha;unfold Es at e;rw[hf,n_ h0,ha] at e;cases e
theorem Wg (H: ∀ n f g,ew n f g=0->acD n f g):ax Q 12 (cM n9) :=fT (n:=20) Tryz.func12 (by kernel_rfl) (by kernel_rfl) n9 λx hx=>⟨_,Qk,rfl,Aw H x hx⟩
theorem Cq (r:Nat->f_): ∀ k j,j<aV r k->∃ i,i<k/\bw (r i)=C/\c8 r k j=af (r i)
 | 0,_,h=>absurd h (b5 _)
 | k+1,j,h=>by
   simp only[aV,c8] at h ⊢;cases hb:bw (r k)with
   | false =>rw[hb] at h;obtain⟨i,h1,h2,h3⟩:=Cq r k j h;exact⟨i,by omega,h2,h3⟩
   | true =>
     rw[hb] at h;have h:j<aV r k+1:=h;by_cases e:j=aV r k
     ·exact⟨k,by omega,hb,by rw[cond_true,r_ e]⟩
     ·obtain⟨i,h1,h2,h3⟩:=Cq r k j (by omega);exact⟨i,by omega,h2,by rw[cond_true,s_ e];exact h3⟩
theorem BM: ∀(m:Nat) (l:List Rw),cc m l->∀ t,t∈ cR m l->∃ m' l',m'<m/\cc m' l'/\l'≠[]/\t=ctext m' l'/\∀ u,u∈ cR m' l'->u∈ cR m l
 | 0,_,_,t,h=>by cases h
 | m+1,l,hl,t,h=>by
   unfold cR at h;obtain⟨i,hi,h⟩:=cy.1 h;by_cases e:aG l i=[]
   ·rw[r_ e] at h;cases h
   ·rw[s_ e] at h;have up: ∀ u,u∈ cR m (aG l i)->u∈ cR (m+1) l:=λu hu=>by unfold cR;exact cy.2 ⟨i,hi,by rw[s_ e];exact e4 _ hu⟩
    rcases a_.1 h with h | h
    ·by_cases s:(ctext m (aG l i)).length<32
     ·rw[r_ s] at h;cases h
     ·rw[s_ s,a!] at h;exact⟨m,aG l i,c5 _,fL hl i,e,h,up⟩
    ·obtain⟨m',l',h1,h2,h3,h4,h5⟩:=BM m (aG l i) (fL hl i) t h;exact⟨m',l',by omega,h2,h3,h4,λu hu=>up u (h5 u hu)⟩
theorem Tp {m:Nat}(hm:m<=13)(h:cc m l)(hl:l≠[]){j:Nat}(hj:j<gM (ctext m l)): ∃ u,u∈ cR m l/\fk (ctext m l) j=aK u:=by
 unfold gM at hj;unfold fk;rw[gr (dw hm h hl)] at hj ⊢;obtain⟨i,hi,hb,e⟩:=Cq _ 16 j hj
 match m,h with
 | 0,h =>
   match l,hl,h with
   | r::_,_,h=>exact absurd (h.len r (X ..)) (b5 _)
 | m+1,h =>
   rw[p4 m l hi] at hb e;by_cases k0:aG l i=[]
   ·rw[r_ k0] at hb;cases hb
   ·rw[s_ k0] at hb e;by_cases s:(ctext m (aG l i)).length<32
    ·have:=lg hb;unfold eY at this;rw[r_ s] at this;omega
    ·refine⟨ctext m (aG l i),?_,e.trans (iN s).2.1⟩;unfold cR;refine cy.2 ⟨i,ag.2 hi,?_⟩;rw[s_ k0,s_ s];exact List.mem_append_left _ (a!.2 rfl)
theorem l9 (h:cc 13 l)(ht:t∈ cX 13 l):bG t=C/\t.length<=700/\∀ j,j<gM t->∃ u,u∈ cX 13 l/\fk t j=aK u:=by
 have one: ∀ m l',m<=13->cc m l'->l'≠[]->t=ctext m l'->(∀ u,u∈ cR m l'->u∈ cX 13 l)->bG t=C/\t.length<=700/\∀ j,j<gM t->∃ u,u∈ cX 13 l/\fk t j=aK u:=λm l' hm h' hne e up=>by subst e;refine⟨(gJ (dw hm h' hne)).1,p6 hm h' hne,λj hj=> ?_⟩;obtain⟨u,hu,e⟩:=Tp hm h' hne hj;exact⟨u,up u hu,e⟩
 unfold cX at ht;rcases b_.1 ht with e | hb
 ·by_cases hl:l=[]
  ·subst hl;have e:t=cZ e9:=e;subst e;have h0:gM (cZ e9)=0:=by decide +kernel
   exact⟨by decide +kernel,by decide +kernel,λj hj=>by rw[h0] at hj;exact absurd hj (b5 _)⟩
  ·exact one 13 l (O _) h hl e λu hu=>Z _ hu
 ·obtain⟨m',l',h1,h2,h3,h4,h5⟩:=BM 13 l h t hb;exact one m' l' (by omega) h2 h3 h4 λu hu=>Z _ (h5 u hu)
theorem ab7 (h:ew n f g=0):acD n f g:=by
 have hr:=gQ h;have hin: ∀ i,i<(mX n f g).length->iK n f g i∈ cX 13 (aB n (λi=>au (f i)) g):=λi hi=>(lO _ _ rfl _).1 (rL hi);have at': ∀ u,u∈ cX 13 (aB n (λi=>au (f i)) g)->∃ q,q<(mX n f g).length/\iK n f g q=u:=λu hu=>by obtain⟨q,hq,e⟩:=cx ((lO _ _ rfl _).2 hu);refine⟨q,hq,?_⟩;show(aL _).getD q []=u;rw[b9,az hq];exact e
 refine⟨?_,?_,λi hi=>Nat.le_trans (l9 hr (hin i hi)).2.1 (by decide),?_,λ_ k hk j hj=> ?_⟩
 ·obtain⟨q,hq,_⟩:=at' _ (X ..);omega
 ·have h1:=x3 _ (cX 13 (aB n (λi=>au (f i)) g)) rfl;have h2:=yw 13 (aB n (λi=>au (f i)) g);have h3:=(mN h).2;rw[fc] at h2;have h4:(cX 13 (aB n (λi=>au (f i)) g)).length=(cR 13 (aB n (λi=>au (f i)) g)).length+1:=rfl;unfold mX;omega
 ·unfold rq;exact en.2 λi hi=>(l9 hr (hin i (ag.1 hi))).1
 ·obtain⟨g1,g2,_⟩:=iu _ _ k hk;obtain⟨u,hu,e⟩:=(l9 hr (hin (cI (iK n f g) (mX n f g).length k).toNat (by omega))).2.2 j hj;obtain⟨q,hq,rfl⟩:=at' u hu;unfold rC;rw[e];exact rT _ _ q hq
theorem Wi:ax Q 12 (cM n9):=Wg λ_ _ _ h=>ab7 h
def iZ (fr to:f_)(l:List Rw):List f_:=ctext 13 l::pP fr to 13 l []
def pV (fr to:f_)(l:List Rw):List f_:=aL (iZ fr to l)
def Inj (L:List f_):Prop:=∀ t,t∈ L->∀ u,u∈ L->aK t=aK u->t=u
structure acF (L:List f_)(s:Wk):Prop where
 pos: ∀ h,0<=s.used h
 mem: ∀ t,t∈ L->(s.used (aK t)=0↔t∉ s.ns)
theorem aaN (hi:Inj L){s:Wk}(h:acF L s)(ht:t∈ L)(hf:w.at (aK t)=t):(s.take w (aK t)).ns=(if t∈ s.ns then s.ns else s.ns++[t])/\acF L (s.take w (aK t)):=by
 have e:(s.take w (aK t)).ns=if t∈ s.ns then s.ns else s.ns++[t]:=by
  show(if s.used (aK t)=0 then s.ns++[w.at (aK t)] else s.ns)=_
  rw[hf];by_cases hm:t∈ s.ns
  ·rw[r_ hm,s_ (λe=>(h.mem t ht).1 e hm)]
  ·rw[s_ hm,r_ ((h.mem t ht).2 hm)]
 refine⟨e,λg=> ?_,λu hu=> ?_⟩
 ·rw[zX];have h1:=h.pos g;have h2:=h.pos (aK t);split<;>omega
 ·rw[zX,e];have h2:=h.pos (aK t);by_cases hut:aK u=aK t
  ·have:=hi u hu t ht hut;subst this;rw[r_ rfl];constructor
   ·intro h0;omega
   ·intro hn;refine absurd ?_ hn;split
    ·assumption
    ·exact e4 _ (X ..)
  ·rw[s_ hut,h.mem u hu];have hne:u≠t:=λe=>hut (by rw[e]);split
   ·exact Iff.rfl
   ·rw[a_,a!];exact⟨λa b=>b.elim a hne,λa b=>a (.inl b)⟩
theorem QJ {w:Sp}{L:List f_}(hi:Inj L): ∀(V:List f_) (s:Wk),(∀ t,t∈ V->t∈ L/\w.at (aK t)=t)->acF L s->(V.foldl (λs t=>s.take w (aK t)) s).ns=V.foldl (λu x=>if x∈ u then u else u++[x]) s.ns
 | [],_,_,_=>rfl
 | t::V,s,hV,h=>by obtain⟨h1,h2⟩:=hV t (X ..);obtain⟨h3,h4⟩:=aaN hi h h1 h2;rw[ep,ep,QJ hi V _ (λu hu=>hV u (Z _ hu)) h4,h3]
theorem aaM (hi:Inj L){V:List f_}(E:List (f_×f_))(c:Nat)(hV: ∀ t,t∈ V->t∈ L/\w.at (aK t)=t):(ku w Wk.start V E c).ns=aL V:=by have:=QJ hi V {Wk.start with lk:=Wk.start.lk+c,fs:=Wk.start.fs++E} hV ⟨λ_=>Int.le_refl 0,λt _=>⟨(λ_ h=>by cases h),λ_=>rfl⟩⟩;exact this
theorem Rs (fr to:f_): ∀(m:Nat) (l:List Rw) (p:f_),(pP fr to m l p).length+1<=oA fr to m l p
 | 0,_,_=>O _
 | m+1,l,p=>by
   unfold pP oA;have key: ∀ n,((List.range n).flatMap λi=>if aG l i=[] then [] else bif bW fr to (eV (bF (m+1) l) p i)then(if(ctext m (aG l i)).length<32 then [] else [ctext m (aG l i)])++pP fr to m (aG l i) (eV (bF (m+1) l) p i)else []).length<=cQ (λi=>if aG l i=[] then 0 else bif bW fr to (eV (bF (m+1) l) p i)then oA fr to m (aG l i) (eV (bF (m+1) l) p i)else 0) n:=by
    intro n;induction n with
    | zero=>exact O _
    | succ n ih =>
      rw[nh,W];show _<=cQ _ n+_;refine Nat.add_le_add ih ?_;dsimp only;by_cases e:aG l n=[]
      ·rw[r_ e,r_ e];exact O _
      ·rw[s_ e,s_ e];cases bW fr to (eV (bF (m+1) l) p n)with
       | false=>exact O _
       | true =>simp only[cond_true];have:=Rs fr to m (aG l n) (eV (bF (m+1) l) p n);rw[W];split<;>simp<;>omega
   have:=key 16;omega
theorem Zb (fr to:f_)(p:f_):oA fr to 13 [] p=1:=by
 show 1+cQ (λi=>if aG [] i=[] then 0 else _) 16=1
 simp[cQ,aG]
theorem Rr (h:cc 13 l)(hn:l.length<=40)(p:f_):oA fr to 13 l p<=120:=by
 by_cases e:l=[]
 ·subst e;rw[Zb];omega
 ·have:=(Ph fr to (p:=p) h e).1;omega
theorem PA (h:cc 13 l)(hn:l.length<=40):(pV fr to l).length<=120:=by have h1:=x3 _ (iZ fr to l) rfl;have h2:=Rs fr to 13 l [];have h3:=Rr (fr:=fr) (to:=to) h hn [];have h4:(iZ fr to l).length=(pP fr to 13 l []).length+1:=rfl;unfold pV;omega
theorem D1 (h:cc 13 l):getD (ctext 13 l)=bF 13 l:=by
 by_cases e:l=[]
 ·subst e;exact gr (Ee 13)
 ·exact gr (dw (O _) h e)
theorem GG (h:cc 13 l)(hn:l.length<=40)(hk: ∀ x,x∈ l->oS x.1=C)(hf:Full w (iZ w.fr w.to l)) :
  nu (aK (ctext 13 l)) w=Y (ku w Wk.start (iZ w.fr w.to l) (gL w.fr w.to [] l) (oA w.fr w.to 13 l [])):=by
 obtain⟨h1,h2⟩:=hf _ (X ..);have hv:=Rr (fr:=w.fr) (to:=w.to) h hn [];unfold nu;rw[h1,cond_true,h2,D1 h];rw[EP,Mf (O _) h (by decide) (by decide) (λt ht=>hf t (Z _ ht)) hk (by rw[GU];show 0+0+_<=400;omega),yp,ct,c7];rfl
theorem Ru (hi:Inj (cX 13 l))(hf:Full w (iZ w.fr w.to l))(E:List (f_×f_))(c:Nat):(ku w Wk.start (iZ w.fr w.to l) E c).ns=pV w.fr w.to l :=
 aaM hi E c λt ht=>⟨by
  unfold iZ at ht;rcases b_.1 ht with ht | ht
  ·subst ht;exact X ..
  ·exact Z _ (zZ _ _ ht),(hf t ht).2⟩
theorem XF (hi:Inj L)(hf: ∀ i,i<w.n->w.f i∈ L)(ht:t∈ L)(hd:aP w.f w.n (aK t)=C):w.full.at (aK t)=t:=by obtain⟨g1,g2,g3⟩:=iu _ _ _ hd;exact hi _ (hf (cI w.f w.n (aK t)).toNat (by omega)) t ht g3
theorem uo: ∀(V:List f_) (a:f_) (u:List f_),∃ r,V.foldl (λu x=>if x∈ u then u else u++[x]) (a::u)=a::r
 | [],a,u=>⟨u,rfl⟩
 | x::V,a,u=>by
   rw[ep];split
   ·exact uo V a u
   ·exact uo V a (u++[x])
theorem UF (fr to:f_)(l:List Rw): ∃ r,pV fr to l=ctext 13 l::r:=by obtain⟨r,h⟩:=uo (pP fr to 13 l []) (ctext 13 l) [];exact⟨r,h⟩
theorem s8 (h:t∈ iZ fr to l):t∈ cX 13 l:=by
 unfold iZ at h;rcases b_.1 h with h | h
 ·subst h;exact X ..
 ·exact Z _ (zZ _ _ h)
theorem G2 :t∈ pV fr to l↔t∈ iZ fr to l:=lO _ _ rfl t
theorem Gr {n':Nat}{f':Nat->f_}:iG n f n' f'=C↔n=n'/\∀ i,i<n->f i=f' i:=by
 unfold iG;rw[an,p_,en];constructor
 ·rintro⟨h1,h2⟩;exact⟨by omega,λi hi=>l_ (h2 i (ag.2 hi))⟩
 ·rintro⟨h1,h2⟩;exact⟨by omega,λi hi=>n_ (h2 i (ag.1 hi))⟩
theorem Za {e:List (f_×f_)}(he:GO e)(hn:e.length<=40)(hi:Inj (cX 13 (rowsOf e)))(hle:Bo w.fr w.to=C)(h1:w.n=(pV w.fr w.to (rowsOf e)).length)(h2: ∀ i,i<w.n->w.f i=(pV w.fr w.to (rowsOf e)).getD i []) :
  iH (aK (ctext 13 (rowsOf e))) w=Y (ak w.fr w.to e):=by
 have hr:=E7 he;have hl:(rowsOf e).length<=40:=by unfold rowsOf;rw[List.length_map];exact hn
 have hb:=PA (fr:=w.fr) (to:=w.to) hr hl;obtain⟨r,hh⟩:=UF w.fr w.to (rowsOf e);have h0:0<w.n:=by rw[h1,hh];exact c6 _
 have e0:w.f 0=ctext 13 (rowsOf e):=by rw[h2 0 h0,hh];rfl
 have hin: ∀ i,i<w.n->w.f i∈ cX 13 (rowsOf e):=λi hi=>by rw[h2 i hi];exact s8 (G2.1 (rL (by omega)))
 have hf:Full w.full (iZ w.fr w.to (rowsOf e)):=λt ht=>by
  have hd:aP w.f w.n (aK t)=true:=by
   obtain⟨q,hq,e1⟩:=cx (G2.2 ht);have:w.f q=t:=by rw[h2 q (by omega),b9,az hq];exact e1
   rw[← this];exact rT _ _ q (by omega)
  have ha:=XF hi hin (s8 ht) hd;refine⟨?_,ha⟩;unfold cL;rw[ha,(l9 hr (s8 ht)).1];show(aP w.f w.n (aK t)&&C)=C;rw[hd];rfl
 obtain⟨S,e1,e2,e3⟩: ∃ S,nu (aK (ctext 13 (rowsOf e))) w.full=Y S/\S.ns=pV w.fr w.to (rowsOf e)/\S.fs=ak w.fr w.to e:=by
  refine⟨_,GG (w:=w.full) hr hl (λx hx=>by obtain⟨e,_,rfl⟩:=c4.1 hx;exact Lo e.1) hf,Ru (w:=w.full) hi hf _ _,?_⟩
  rw[Pw];show []++gL w.fr w.to [] (rowsOf e)=_;rw[ct,AA]
 have hs:iG S.ns.length (λi=>S.ns.getD i []) w.n w.f=true:=by rw[e2];exact Gr.2 ⟨h1.symm,λi hi'=>(h2 i (by omega)).symm⟩
 unfold iH;rw[hle,n_ h0,n_ (show w.n<=200 by omega),n_ (show aK (w.f 0)=_ by rw[e0]),e1];dsimp only;rw[hs,e3];rfl
theorem Ql (r:Nat->f_): ∀(k i:Nat),i<k->bw (r i)=C->∃ j,j<aV r k/\c8 r k j=af (r i)
 | 0,i,h,_=>absurd h (b5 _)
 | k+1,i,h,hb=>by
   simp only[aV,c8];by_cases e:i=k
   ·subst e;rw[hb];exact⟨aV r i,c5 _,by rw[cond_true,r_ rfl]⟩
   ·obtain⟨j,h1,h2⟩:=Ql r k i (by omega) hb;cases bw (r k)with
    | false=>exact⟨j,h1,h2⟩
    | true=>exact⟨j,Nat.lt_succ_of_lt h1,by rw[cond_true,s_ (by omega)];exact h2⟩
theorem QH {r:Nat->f_}: ∀ {k:Nat},(∀ j,j<k->bw (r j)=F)->aV r k=0
 | 0,_=>rfl
 | k+1,h=>by unfold aV;rw[h k (c5 k)];exact QH λj hj=>h j (by omega)
theorem OQ {m:Nat}(hm:m<=13)(h:cc m l)(hl:l≠[])(hs:(ctext m l).length<32):gM (ctext m l)=0:=by
 obtain⟨h1,_,_⟩:=tI (sn (dw hm h hl) (Hj h hl) hs).1;unfold gM;refine QH λj hj=> ?_;obtain⟨K,e,hK⟩:=K6 (Ir (L:=32) (t:=ctext m l) h1 hs hs);rcases hK j hj with e | e
 ·rw[show(getD (ctext m l)).r j=[] from e];rfl
 ·cases hb:bw ((getD (ctext m l)).r j)with
  | false=>rfl
  | true=>have:=lg hb;omega
theorem Cw {P:f_->Prop}: ∀ {m:Nat} {l:List Rw},m<=13->cc m l->l≠[]->(∀ j,j<gM (ctext m l)->P (fk (ctext m l) j))->(∀ t,t∈ cR m l->P (aK t)->∀ j,j<gM t->P (fk t j))->∀ t,t∈ cR m l->P (aK t)
 | 0,_,_,_,_,_,_,t,ht=>by cases ht
 | m+1,l,hm,h,hl,h0,hc,t,ht=>by
   unfold cR at ht;obtain⟨i,hi,ht⟩:=cy.1 ht;have hi:=ag.1 hi;by_cases e:aG l i=[]
   ·rw[r_ e] at ht;cases ht
   ·rw[s_ e] at ht;have ho:=fL h i;have hv:=dw (m:=m) (by omega) ho e;have er:(getD (ctext (m+1) l)).r i=eY (ctext m (aG l i)):=by rw[gr (dw hm h hl),p4 m l hi,s_ e]
    by_cases hs:(ctext m (aG l i)).length<32
    ·rw[r_ hs,ct] at ht;exact Cw (by omega) ho e (λj hj=>by rw[OQ (by omega) ho e hs] at hj;exact absurd hj (b5 _)) (λu hu=>hc u (tn hi e hu)) t ht
    ·rw[s_ hs] at ht;obtain⟨g1,g2,_⟩:=iN hs;have hp:P (aK (ctext m (aG l i))):=by obtain⟨j,hj,e2⟩:=Ql (getD (ctext (m+1) l)).r 16 i hi (by rw[er];exact g1);have:=h0 j hj;unfold fk at this;rw[e2,er,g2] at this;exact this
     rcases a_.1 ht with ht | ht
     ·rw[a!] at ht;subst ht;exact hp
     ·exact Cw (by omega) ho e (hc _ (vl hi e hs) hp) (λu hu=>hc u (tn hi e hu)) t ht
theorem acI {P:f_->Prop}(h:cc 13 l)(h0:P (aK (ctext 13 l)))(hc: ∀ t,t∈ cX 13 l->P (aK t)->∀ j,j<gM t->P (fk t j)): ∀ t,t∈ cX 13 l->P (aK t):=by
 intro t ht;unfold cX at ht;rcases b_.1 ht with ht | ht
 ·subst ht;exact h0
 ·by_cases e:l=[]
  ·subst e;have:cR 13 []=[]:=mT λi _=>rfl;rw[this] at ht;cases ht
  ·exact Cw (O _) h e (hc _ (X ..) h0) (λu hu=>hc u (Z _ hu)) t ht
noncomputable def pM (n:Nat)(f g:Nat->f_)(y:uZ)(fr to:f_):Sp:=⟨fr,to,(mX n f g).length,iK n f g,C,0,0,cY y.Fr,cI (iK n f g) (mX n f g).length⟩
theorem We {u:f_}(hu:u∈ cX 13 (aB n (λi=>au (f i)) g)): ∃ q,q<(mX n f g).length/\iK n f g q=u:=by obtain⟨q,hq,e⟩:=cx ((lO _ _ rfl _).2 hu);refine⟨q,hq,?_⟩;show(aL _).getD q []=u;rw[b9,az hq];exact e
theorem wW (n:Nat)(f g:Nat->f_):iK n f g 0=ctext 13 (aB n (λi=>au (f i)) g):=by obtain⟨r,h⟩:=uo (cR 13 (aB n (λi=>au (f i)) g)) (ctext 13 (aB n (λi=>au (f i)) g)) [];have:mX n f g=ctext 13 (aB n (λi=>au (f i)) g)::r:=h;unfold iK;rw[this];rfl
theorem Wf (h:fu (mX n f g).length (iK n f g)=C):Inj (cX 13 (aB n (λi=>au (f i)) g)):=λt ht u hu e=>by obtain⟨q,hq,rfl⟩:=We ht;obtain⟨r,hr,rfl⟩:=We hu;exact vg h hr hq e
theorem Rd (hc:ew n f g=0)(ha:fu (mX n f g).length (iK n f g)=C){y:uZ}(hy:rz (mX n f g).length (iK n f g) (aK (iK n f g 0)) y)(fr to:f_) :
  Full (pM n f g y fr to) (cX 13 (aB n (λi=>au (f i)) g)):=by
 have hr:=gQ hc;have self: ∀ t,t∈ cX 13 (aB n (λi=>au (f i)) g)->rC (mX n f g).length (iK n f g) (aK t)=t:=λt ht=>by obtain⟨q,hq,rfl⟩:=We ht;exact Ys ha hq
 have hin:=acI (P:=λh=>h∈ y.Fr) hr (by rw[← wW];exact hy.bf.root) λt ht hp j hj=>by
  obtain⟨k,hk,e⟩:=cx hp;have e1:y.Fr.getD k []=aK t:=by rw[b9,az hk];exact e
  have:=hy.bf.clo k hk hk j;rw[e1,self t ht] at this;exact this hj
 intro t ht;have hat:(pM n f g y fr to).at (aK t)=t:=self t ht;refine⟨?_,hat⟩;unfold cL;rw[hat,(l9 hr ht).1];show(cY y.Fr (aK t)&&C)=C;unfold cY;rw[n_ (hin t ht)];rfl
theorem abe (hc:ew n f g=0)(ha:fu (mX n f g).length (iK n f g)=C){y:uZ}(hy:rz (mX n f g).length (iK n f g) (aK (iK n f g 0)) y)(fr to:f_) :
  ∃ s,nu (aK (iK n f g 0)) (pM n f g y fr to)=Y s/\s.ns=pV fr to (aB n (λi=>au (f i)) g):=by
 have hr:=gQ hc;have hf:=(Rd hc ha hy fr to).mono (L':=iZ fr to (aB n (λi=>au (f i)) g)) λt ht=>s8 ht;have hl:(aB n (λi=>au (f i)) g).length<=40:=by rw[fc];exact(mN hc).2
 refine⟨_,?_,Ru (w:=pM n f g y fr to) (Wf ha) hf (gL fr to [] (aB n (λi=>au (f i)) g)) (oA fr to 13 (aB n (λi=>au (f i)) g) [])⟩;rw[wW];exact GG (w:=pM n f g y fr to) hr hl (λx hx=>by rw[tS] at hx;obtain⟨e,_,rfl⟩:=c4.1 hx;exact Lo e.1) hf
theorem sD: ∀ {a b:f_},J b a=F->(J a b||decide (a=b))=C
 | [],[],_=>rfl
 | [],_::_,_=>rfl
 | _::_,[],h=>by cases h
 | a::r,b::s,h=>by
   obtain⟨h1,h2⟩:=qt.1 h;rw[oV];by_cases e:a=b
   ·subst e;have:=sD (h2 rfl);rw[b!,p_] at this;rcases this with h | h
    ·rw[h];simp
    ·rw[h];simp
   ·have:a<b:=UInt8.lt_of_le_of_ne h1 e;rw[n_ this];rfl
theorem Kv :(J a b||decide (a=b))=C↔J b a=false:=⟨AB,sD⟩
theorem Ku (h:Bo a b=C):J (au b) (au a)=false:=by
 unfold Bo at h;rw[b!,p_] at h;rcases h with h | h
 ·exact gK _ _ (tO h)
 ·subst h;exact gD _
theorem mV :hasB fr to p=C↔J p (au fr)=F/\J (au to) p=false:=by unfold hasB;rw[an,Kv,b6]
theorem Dn {s:f_}:preB p s=C↔∃ u,s=p++u:=by
 unfold preB;rw[an,p_,p_];constructor
 ·rintro⟨_,h⟩;exact⟨s.drop p.length,by rw[← h,eW,← h];simp[e7]⟩
 ·rintro⟨u,rfl⟩;exact⟨by simp,by simp⟩
theorem NR :bW fr to p=C↔J (au to) p=F/\(J p (au fr)=F∨∃ u,au fr=p++u):=by unfold bW;rw[an,Kv,b!,b6,Dn]
theorem Ln (h:au a=au b):a=b:=by rw[← m8 a,h,m8]
theorem filter_none {α:Type}{p:α->Bool}{l:List α}(h: ∀ x,x∈ l->p x=F):l.filter p=[]:=List.filter_eq_nil_iff.2 λx hx=>by rw[h x hx];simp
theorem Ar {α:Type}{p q:α->Bool}{l:List α}(h: ∀ x,x∈ l->p x=q x):l.filter p=l.filter q:=List.filter_congr h
theorem L0 (mid:f_): ∀ {l:List (f_×f_)},(l.Pairwise λa b=>J a.1 b.1=C)->∃ l1 l2,l=l1++l2/\(∀ x,x∈ l1->J (au x.1) (au mid)=C)/\(∀ x,x∈ l2->J (au x.1) (au mid)=F)
 | [],_=>⟨[],[],rfl,(λ_ h=>by cases h),(λ_ h=>by cases h)⟩
 | a::l,h=>by
   cases ha:J (au a.1) (au mid)with
   | true =>
     obtain⟨l1,l2,e,h1,h2⟩:=L0 mid (List.Pairwise.of_cons h);refine⟨a::l1,l2,by rw[e];rfl,λx hx=> ?_,h2⟩;rcases b_.1 hx with e | hx
     ·rw[e];exact ha
     ·exact h1 x hx
   | false =>
     refine⟨[],a::l,rfl,(λ_ h=>by cases h),λx hx=> ?_⟩;rcases b_.1 hx with e | hx
     ·rw[e];exact ha
     ·have:=tO ((e6.1 h).1 x hx);exact lD _ _ _ ha (gK _ _ this)
def ZY (mid:f_)(a:List (f_×f_)):List (f_×f_):=if 0<a.length/\(a.getD (a.length-1) ([],[])).1=mid then a.take (a.length-1)else a
theorem parts {mid:f_}{l:List (f_×f_)}(h:GO l)(h1:Bo fr mid=C)(h2:Bo mid to=C):ZY mid (ak fr mid l)++ak mid to l=ak fr to l:=by
 obtain⟨l1,l2,e,a1,a2⟩:=L0 mid h.zG;have p1:=Ku h1;have p2:=Ku h2;have eR:ak fr to l=l1.filter (λe=>hasB fr to (au e.1))++l2.filter (λe=>hasB mid to (au e.1)):=by unfold ak;rw[e,cl];congr 1;refine Ar λx hx=> ?_;rw[d_,mV,mV];exact⟨λg=>⟨a2 x hx,g.2⟩,λg=>⟨lD _ _ _ p1 g.1,g.2⟩⟩
 have eQ:ak mid to l=l2.filter (λe=>hasB mid to (au e.1)):=by
  unfold ak;rw[e,cl,filter_none λx hx=> ?_,ct];cases hb:hasB mid to (au x.1)with
  | false=>rfl
  | true=>rw[mV,a1 x hx] at hb;cases hb.1
 have eP:ak fr mid l=l1.filter (λe=>hasB fr to (au e.1))++l2.filter (λe=>hasB fr mid (au e.1)):=by unfold ak;rw[e,cl];congr 1;refine Ar λx hx=> ?_;rw[d_,mV,mV];have:=gK _ _ (a1 x hx);exact⟨λg=>⟨g.1,lD _ _ _ g.2 p2⟩,λg=>⟨g.1,this⟩⟩
 have is: ∀ x,x∈ l2->hasB fr mid (au x.1)=C->x.1=mid:=λx hx g=>by rw[mV] at g;have g1:=sD (a2 x hx);rw[g.2,Bool.false_or,p_] at g1;exact(Ln g1).symm
 have key:ZY mid (ak fr mid l)=l1.filter (λe=>hasB fr to (au e.1)):=by
  rw[eP];obtain⟨z,hm⟩: ∃ z,l2.filter (λe=>hasB fr mid (au e.1))=z:=⟨_,rfl⟩
  rw[hm];cases z with
  | nil =>
    rw[List.append_nil];unfold ZY;rw[s_];rintro⟨g1,g2⟩;have hmem:(l1.filter λe=>hasB fr to (au e.1)).getD ((l1.filter λe=>hasB fr to (au e.1)).length-1) ([],[])∈ l1.filter λe=>hasB fr to (au e.1):=by rw[b9,az (by omega)];exact List.getElem_mem _
    have:=a1 _ (eA.1 hmem).1;rw[g2,gD] at this;cases this
  | cons x r =>
    have hx:x∈ l2/\hasB fr mid (au x.1)=true:=eA.1 (by rw[hm];exact X ..);have hr:r=[]:=by
     cases r with
     | nil=>rfl
     | cons y r =>
       have hy:y∈ l2/\hasB fr mid (au y.1)=true:=eA.1 (by rw[hm];exact Z _ (X ..));have hp:(l2.filter λe=>hasB fr mid (au e.1)).Pairwise λa b=>J a.1 b.1=true:=by have:=h.zG;rw[e,e5] at this;exact this.2.1.filter _
       rw[hm,e6] at hp;have:=hp.1 y (X ..);rw[is x hx.1 hx.2,is y hy.1 hy.2,gD] at this;cases this
    subst hr;have ha:(l1.filter (λe=>hasB fr to (au e.1))++[x]).length-1=(l1.filter λe=>hasB fr to (au e.1)).length:=by rw[W];rfl
    unfold ZY;rw[ha,r_]
    ·rw[List.take_left'];rfl
    ·refine⟨by rw[W];exact c6 _,?_⟩;rw[b9,List.getElem?_append_right (O _),Nat.sub_self];exact is x hx.1 hx.2
 rw[key,eR,eQ]
structure vf where
 w:Sp
 s:Wk
 c1:Nat
 c2:Nat
 y:uZ
 room:Int
structure BG (w:Sp)(y:uZ):Prop where
 f: ∀ h,w.ad h=C->(w.at h).length<=1000
 dom: ∀ h,w.ad h=C->y.A.D (y.g h)=C
 dm: ∀ h,w.ad h=C->y.A.dm (y.g h)=w.at h
 fr:w.fr.length<=1000
 to:w.to.length<=1000
def It.rK (A:It):SB:=.eD A.D [.str A.dm] 4 133 C
def abK (w:Sp)(s:Wk)(kn kf c1 c2:Nat):SB:=.cells [.str F w.fr,.str F w.to,.func (.func 47) [.ptr 4 C 0] [],.map 1,.aX kn 1 C 0 s.ns.length c1,.int .i64 F s.lk,.aX kf 2 C 0 s.fs.length c2] 7 92
def vf.own (g:vf):Mem:=[(4,fA g.room 5),(5,.fmap g.w.ad (.ref 6 g.y.g) I)]
def vf.mem (g:vf):Mem:=[(0,abK g.w g.s 2 3 g.c1 g.c2),(1,ff g.s),(2,dY g.s g.c1),(3,dH g.s g.c2)]++g.own++[(6,g.y.A.rK)]
def vf.back (g:vf)(s:Wk)(c1 c2:Nat):Mem:=[(0,abK g.w s 7 8 c1 c2),(1,ff s),(7,dY s c1),(8,dH s c2)]++g.own
def aeE (v:SV)(g:vf)(s:Wk):gF:=.all (Nat×Nat) λc=>.req (s.ns.length<=c.1/\s.fs.length<=c.2) (.ret v (g.back s c.1 c.2))
def OM (f:SV->SV):gF:=.all (f_×f_) λy=>.ret (f (.iface 87 (.ptr 9 C 0))) [(9,.cells [.str F y.1,.str F y.2] 2 207)]
def sbC (A:Type)(args:A->List SV)(pre:vf->A->Prop)(wo:vf->A->gF):gP :={G:=vf×A,n:=7,N:=10,pre:=λx=>BG x.1.w x.1.y/\x.1.s.Small/\(x.1.s.ns.length<=x.1.c1/\x.1.s.fs.length<=x.1.c2)/\pre x.1 x.2,args:=λx=>.ptr 0 C 0::args x.2,mem:=λx=>x.1.mem,wo:=λx=>wo x.1 x.2}
def Q9 (g:vf)(h:f_):gF:=.fork (cL g.w h) λb=>match b with
 | true=>aeE (.aN [(getD (g.w.at h)).sv,.aC]) g (g.s.take g.w h)
 | false=>OM λv=>.aN [dc,v]
def xL:gP:=sbC f_ (λh=>[.str F h]) (λ_ _=>True) Q9
def Tx (g:vf)(t:f_):gF:=.fork (bH t) λb=>match b with
 | true=>aeE (.aN [(getD t).sv,.aC]) g g.s
 | false=>.fork (bw t) λb=>match b with
   | true=>Q9 g (af t)
   | false=>OM λv=>.aN [dc,v]
def pJ:gP:=sbC f_ (λt=>[.str F t]) (λ_ t=>t.length<9223372036854775808) Tx
end
end Go.Proofs.YtoibaecagklkaaaGreatDoor
