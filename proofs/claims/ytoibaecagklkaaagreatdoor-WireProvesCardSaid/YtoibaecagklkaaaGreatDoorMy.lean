/- A part of the proof. -/
import Derived.Test.YtoibaecagklkaaaGreatDoorMx
import Derived.RecoverIn
open Bool renaming and_eq_true->V,false->G,not_eq_true'->b!,true->A
open Decidable renaming decide->M
open Go.Fence renaming wide->N
open Go.IntKind renaming i64->Z
open Go.Proofs.Tryz renaming f123->cl,f125->ct,f31->az,f38->a_,prog->J
open Go.Region renaming wanted->W
open List renaming append_nil->cy,mem_cons_self->a!,mem_of_find?_eq_some->bf,range'->b7,replicate->cD
open Nat renaming beq->ag,blt_eq->c4,le_refl->O,le_trans->S,lt_of_lt_of_le->Y,mul_one->c5,zero_add->c6,zero_le->b_
open Option renaming none->I,some->H
namespace Go.Proofs.YtoibaecagklkaaaGreatDoor
open Go Sx
variable {fn:Func}{K:Mem->Nat->VC}{i n nx:Nat}{f:Nat->f_}{E:Nat->Nat}{x:Pp}{P:Program}{d:SV}{w:World}{Γ:aT}{cfg:fD}
section
open Go Sx
set_option maxRecDepth 20000
theorem ad9 {m:Nat}{l:List Rw}(hr:cc m l)(e:aG l i≠[]):i<16:=by
 match l,e with
 | r::s::t,e =>
   rw[cq] at e;split at e
   ·split at e
    ·omega
    ·exact absurd rfl e
   ·obtain⟨x,hx⟩:=List.exists_mem_of_ne_nil _ e;obtain⟨y,hy,_⟩:=List.mem_map.1 hx;obtain⟨h1,h2⟩:=List.mem_filter.1 hy;obtain⟨z,v⟩:=y;cases z with
    | nil=>cases h2
    | cons b z =>have:=hr.N1 _ h1 b (a! ..);have h3:b.toNat=i:=l_ h2;omega
theorem GH: ∀ {m:Nat} {l:List Rw} {q:f_},cc m l->∀ t,t∈ mj m l q->t∈ cR m l
 | 0,_,_,_,_,h=>by cases h
 | m+1,l,q,hr,t,h=>by
   unfold mj at h;split at h
   ·cases h
   ·rename_i i q' _;split at h
    ·cases h
    ·rename_i e;have hi:=ad9 hr e;rcases List.mem_append.1 h with h | h
     ·split at h
      ·cases h
      ·rename_i hs;rw[List.mem_singleton.1 h];exact vl hi e hs
     ·exact tn hi e (GH (fL hr i) t h)
structure Uq (n:Nat)(f g:Nat->f_)(w:Wy)(key:f_):Prop where
 oC:ew n f g=0
 root:w.root=cH n f g
 len:w.n=(bt key (aB n (λi=>au (f i)) g)).length
 dm: ∀ i,i<w.n->w.f i=(bt key (aB n (λi=>au (f i)) g)).getD i []
 key:key.length<=1000
theorem Uq.res {g:Nat->f_}{w:Wy}{key:f_}(h:Uq n f g w key): ∃ y q,Lx w (au key)=H (y,q)/\ak key key (aB n f g)=if dO y q=A then [(key,gp y q)] else []:=by
 have hr:=gQ h.oC;have h1:w.n=1+(mj 13 (aB n (λi=>au (f i)) g) (au key)).length:=by rw[h.len];unfold bt;simp;omega
 have h0:w.f 0=ctext 13 (aB n (λi=>au (f i)) g):=h.dm 0 (by omega);obtain⟨y,q,e1,e2⟩:=GI (w:=w) (p:=[]) (q:=au key) (u:=1) (j:=(au key).length+1) (O 13) hr rfl (λi hi=>⟨by omega,by rw[h.dm (1+i) (by omega)];unfold bt;rw[Nat.add_comm];rfl⟩) (Nat.lt_succ_self _)
 have hl:=Ji 13 (aB n (λi=>au (f i)) g) (au key);refine⟨y,q,?_,?_⟩
 ·unfold Lx OT;have ht:cJ (w.on 0) w.root=true:=by
   unfold cJ;rw[V,V,p_,p_];refine⟨by show((0:Nat):Int)<(w.n:Int);omega,?_,?_⟩
   ·show aK (w.f 0)=_;rw[h0,h.root];rfl
   ·show bG (w.f 0)=A;rw[h0];exact(l9 hr (a! ..)).1
  rw[s_ (by omega),ht,h0,D1 hr,cond_true,e1];dsimp only;rw[s_ (by omega)]
 ·rw[← AA,← tS];exact e2
def m4 (key:f_)(L:List Rw):Bool:=!(ak key key L).isEmpty
def yR (key:f_)(L:List Rw):f_:=((ak key key L).headD ([],[])).2
def D8 (n:Nat)(f g:Nat->f_)(vs:List SV)(l:List Seen):Option (Prop×cK):=match Y8 vs l with
 | some (w,key,_)=>H (Uq n f g w key,.ret (.aN [.agg [.bool G (m4 key (aB n f g)),.str G (yR key (aB n f g))],.int .i64 A 0]))
 | none=>I
theorem GJ {g:Nat->f_}(h:ew n f g=0){key t:f_}(ht:t∈ bt key (aB n (λi=>au (f i)) g)):t.length<=700:=by
 have hr:=gQ h;refine(l9 hr ?_).2.1;rcases List.mem_cons.1 ht with e | ht
 ·rw[e];exact a! ..
 ·exact List.mem_cons_of_mem _ (GH hr t ht)
theorem abJ (n:Nat)(f g:Nat->f_):ax J 28 (bT shW (D8 n f g)):=by
 refine gd (n:=20) Tryz.func28 (by kernel_rfl) (by kernel_rfl) ?_;intro vs l q' a' h hq;unfold D8 at h;split at h
 ·rename_i w key kk hx;cases h;obtain⟨e1,e2⟩:=Y9 hx;obtain⟨y,q,e3,e4⟩:=hq.res;have eA:(cK.ret (.aN [.agg [.bool G (m4 key (aB n f g)),.str G (yR key (aB n f g))],.int .i64 A 0]))=Rq y q:=by unfold Rq m4 yR;rw[e4];unfold gp;cases dO y q<;>rfl
  rw[e1,e2,eA];exact⟨_,adM w y q,rfl,rfl,Lr w ⟨λi hi=>by rw[hq.dm i hi];exact S (GJ hq.oC (rL (by rw[← hq.len];exact hi))) (by decide)⟩ (by have:=hq.key;omega) kk e3⟩
 ·cases h
theorem YT (x:Pp)(z:Bool)(o c:Nat)(key:Option Nat):VC.holds (iX (U5 x) 38 a_ [x.sv (.bE 0 1 z o 0 x.n c)] [ko z o c x key] (.ret (.bool G x.ok)))=((λd:SB=>((Fk (x.k=0) (Bk (!decide (x.to=[])) (ah (SV.bool A G) (SV.bool G x.ok)) (Bk (!decide ((x.root.length:Int)=32)) (ah (SV.bool A G) (SV.bool G x.ok)) (Fk (6<(x.key.length:Int)) (ah (SV.bool A G) (SV.bool G x.ok)) (Fk (6<(x.to.length:Int)) (ah (SV.bool A G) (SV.bool G x.ok)) (Fk (200<(x.n:Int)) (ah (SV.bool A G) (SV.bool G x.ok)) ((∃(h:Nat),n6 x.n (iV x.f) h/\0=(h:Int)/\aa d d/\aa (ko z o c x key).B (ko z o c x key).B/\True)/\∀(a:Nat),n6 x.n (iV x.f) a->Fk ((a:Int)<(x.n:Int)) ((0<=(a:Int)/\(a:Int)<(x.n:Int))/\(o=o/\0+(a:Int).toNat<x.n)/\Fk (1000<(↑(x.f (0+(a:Int).toNat)).length:Int)) (ah (SV.bool A G) (SV.bool G x.ok)) (I6 ((a:Int)+1)/\∃(e:Nat),(n6 x.n (iV x.f) e/\x.n-e<x.n-a)/\(a:Int)+1=(e:Int)/\aa d d/\aa (ko z o c x key).B (ko z o c x key).B/\True)) (ah (SV.bool A A) (SV.bool G x.ok)))))))) (Fk (x.k=1) (Bk (!decide ((x.root.length:Int)=32)) (ah (SV.bool A G) (SV.bool G x.ok)) (Fk (6<(x.key.length:Int)) (ah (SV.bool A G) (SV.bool G x.ok)) (Fk (6<(x.to.length:Int)) (ah (SV.bool A G) (SV.bool G x.ok)) (Fk (200<(x.n:Int)) (ah (SV.bool A G) (SV.bool G x.ok)) ((∃(i:Nat),n6 x.n (iV x.f) i/\0=(i:Int)/\aa d d/\aa (ko z o c x key).B (ko z o c x key).B/\True)/\∀(b:Nat),n6 x.n (iV x.f) b->Fk ((b:Int)<(x.n:Int)) ((0<=(b:Int)/\(b:Int)<(x.n:Int))/\(o=o/\0+(b:Int).toNat<x.n)/\Fk (1000<(↑(x.f (0+(b:Int).toNat)).length:Int)) (ah (SV.bool A G) (SV.bool G x.ok)) (I6 ((b:Int)+1)/\∃(g:Nat),(n6 x.n (iV x.f) g/\x.n-g<x.n-b)/\(b:Int)+1=(g:Int)/\aa d d/\aa (ko z o c x key).B (ko z o c x key).B/\True)) (ah (SV.bool A A) (SV.bool G x.ok))))))) (ah (SV.bool A G) (SV.bool G x.ok)))))) (SB.cells (x.sv (SV.bE 0 1 z o 0 x.n c)).cells 5 63)):=by kernel_rfl
theorem AD (h: ¬ (1000:Int)<((f i).length:Int)):iV f i=true:=by rw[iV,o_ h];rfl
theorem Xl (h:(1000:Int)<((f i).length:Int)):iV f i=false:=by rw[iV,n_ h];rfl
set_option maxHeartbeats 4000000 in
theorem IG (x:Pp)(z:Bool)(o c:Nat)(key:Option Nat):ay (iX (U5 x) 38 a_ [x.sv (.bE 0 1 z o 0 x.n c)] [ko z o c x key] (.ret (.bool G x.ok))):=by
 refine ay.mS (YT x z o c key) (by delta Bk Fk;exact rfl) ?_;simp only[Int.toNat_natCast,c6];unfold Pp.ok;have h01:M (x.k=0)=A->M (x.k=1)=false:=by simp only[p_,q_];omega
 generalize M (x.k=0)=b1 at h01 ⊢;generalize M (x.k=1)=b2 at h01 ⊢;generalize M (x.to=[])=b3;generalize M ((x.root.length:Int)=32)=b4;generalize M ((6:Int)<(x.key.length:Int))=b5;generalize M ((6:Int)<(x.to.length:Int))=b6;generalize hr:kU x.n x.f=b9
 repeat' first
  | exact trivial
  | exact aa.refl _
  | apply And.intro
  | intro (_:_=A)
  | intro (_:_=G)
  | refine⟨0,⟨b_ _,λj hj=>absurd hj (Nat.not_lt_zero _)⟩,rfl,?_⟩
  | intro (i:Nat) (hi:n6 _ _ i)
  | refine⟨i+1,⟨ur hi ?_ ?_,?_⟩,?_,?_⟩
  | fail
 all_goals try simp only[p_,q_] at *
 all_goals first
  | omega
  | exact AD (by assumption)
  | (apply gk;subst hr;rw[kU,D7 hi (by assumption)];simp_all;done)
  | (apply gk;subst hr;rw[kU,zW (i:=i) (by assumption) (Xl (by assumption))];simp_all;done)
  | (apply gk;simp_all;done)
def ng (vs:List SV)(l:List Seen):Option (Prop×cK):=match nT vs l with
 | some (x,_)=>H (True,.ret (.bool G x.ok))
 | none=>I
theorem zA:ax J 38 (bT MC ng):=by
 refine gd (n:=20) Tryz.func38 (by kernel_rfl) (by kernel_rfl) ?_;intro vs l q a h hq;unfold ng at h;split at h
 ·rename_i x r hx;obtain⟨z,o,c,key⟩:=r;cases h;obtain⟨e1,e2⟩:=vP hx;rw[e1,e2];exact⟨_,adK x,rfl,rfl,IG x z o c key⟩
 ·cases h
noncomputable def NK:List (FuncId×PT):=(38,bT MC ng)::xe
theorem FI:bp J (λf=>aD f NK):=.cons zA (bS _ _) lB
noncomputable def U4 (x:Pp):fD:={cv with cT:=λf=>aD f NK,aW:=λf=>if f=31 then [(5,always (ZF 18 4 x.n (gC x.f)))] else []}
theorem adJ (x:Pp):Sx.Good J (U4 x):=.of bR FI bq
def Dq (x:Pp):cK:=.fork x.ok λb=>match b with
 | true=>.fork (M ((65536:Int)<(x.put.length:Int))) λb=>match b with
   | true=>.ret (.aN [.str A [],.int .i64 A 8])
   | false=>.ret (.aN [.str G x.put,.int .i64 A 0])
 | false=>.ret (.aN [.str A [],.int .i64 A 1])
theorem aeX (x:Pp)(z:Bool)(o c:Nat)(key:Option Nat):VC.holds (iX (U4 x) 31 az [x.sv (.bE 0 1 z o 0 x.n c)] [ko z o c x key] (Dq x))=((λb:SB=>((λg:(Nat×Nat)->SV=>(((((True/\True/\True/\True/\(z=z/\o=o/\0+x.n<=x.n)/\True)/\True)/\True)/\((!{k:=x.k,root:=x.root,key:=x.key,to:=x.to,n:=x.n,f:=fun(j:Nat)=>x.f j:Pp}.ok)=A->Bk x.ok (Fk (65536<(x.put.length:Int)) (ah (SV.aN [SV.str A [],SV.int .i64 A 1]) (SV.aN [SV.str A [],SV.int .i64 A 8])) (ah (SV.aN [SV.str A [],SV.int .i64 A 1]) (SV.aN [SV.str G x.put,SV.int .i64 A 0]))) (ah (SV.aN [SV.str A [],SV.int .i64 A 1]) (SV.aN [SV.str A [],SV.int .i64 A 1])))/\((!{k:=x.k,root:=x.root,key:=x.key,to:=x.to,n:=x.n,f:=fun(l:Nat)=>x.f l:Pp}.ok)=G->(0<=(x.n:Int)/\16*(x.n:Int)<=140737488355328/\(x.n:Int)<=9223372036854775807)/\(∃(e:Nat×Nat),va x.n e/\0=(e.1:Int)/\((0:Nat)=(0:Nat)/\0=e.1/\(x.n:Int).toNat=e.2)/\True/\aa (SB.cells [] ((x.n:Int).toNat*1) 9) (SB.rows G e.1 [av.str (gC x.f)] G e.2 9)/\aa (SB.cells (x.sv (SV.bE 0 1 z o 0 x.n c)).cells 5 63) (SB.cells (x.sv (SV.bE 0 1 z o 0 x.n c)).cells 5 63)/\aa (ko z o c x key).B (ko z o c x key).B/\True)/\∀(a:Nat×Nat),va x.n a->Fk ((a.1:Int)<(x.n:Int)) ((0<=(a.1:Int)/\(a.1:Int)<(x.n:Int))/\(o=o/\0+(a.1:Int).toNat<x.n)/\(x.f (0+(a.1:Int).toNat)).length<1152921504606846976/\(0+a.1<=a.1/\True/\2*(a.1+1)*16<=(281474976710656:Nat)/\a.1+1<(9223372036854775808:Nat))/\a.2=a.2*1/\∀(h:Nat),a.1+1<=h->I6 ((a.1:Int)+1)/\∃(d:Nat×Nat),(va x.n d/\x.n-d.1<x.n-a.1)/\(a.1:Int)+1=(d.1:Int)/\((0:Nat)=(0:Nat)/\a.1+1=d.1/\h=d.2)/\True/\aa (SB.rows G (a.1+1) [av.str λi=>if i<a.1 then gC x.f i else ck [aq (x.f (0+(a.1:Int).toNat))] (i-a.1)] G (h*1) 9) (SB.rows G d.1 [av.str (gC x.f)] G d.2 9)/\aa (SB.cells (x.sv (SV.bE 0 1 z o 0 x.n c)).cells 5 63) (SB.cells (x.sv (SV.bE 0 1 z o 0 x.n c)).cells 5 63)/\aa (ko z o c x key).B (ko z o c x key).B/\True) ((0<=x.k%18446744073709551616/\x.k%18446744073709551616<(18446744073709551616:Int))/\H b=H b/\H b=H b/\H b=H b/\x.root.length<1152921504606846976/\H b=H b/\H b=H b/\x.key.length<1152921504606846976/\H b=H b/\x.to.length<1152921504606846976/\((0+a.1<=a.1/\a.1<=a.2)/\(dJ (gC x.f) 0 a.1).length<=140737488355328/\(flat (dJ (gC x.f) 0 a.1)).length<=140737488355328)/\(((0:Int)<=(192:Int)/\(192:Int)<=(192:Int))/\0<=(↑(flat (dJ (gC x.f) 0 a.1)).length:Int)/\(↑(flat (dJ (gC x.f) 0 a.1)).length:Int)<1152921504606846976)/\(↑(bA 192 (↑(flat (dJ (gC x.f) 0 a.1)).length:Int).toNat).length:Int)+(↑(flat (dJ (gC x.f) 0 a.1)).length:Int)<=9223372036854775807/\(((5:Nat)=(5:Nat)/\(5:Nat)<=(5:Nat))/\(5:Nat)<=(140737488355328:Nat)/\(flat [aq (digits (x.k%18446744073709551616)),aq x.root,aq x.key,aq x.to,cat (bA 192 (↑(flat (dJ (gC x.f) 0 a.1)).length:Int).toNat) (flat (dJ (gC x.f) 0 a.1))]).length<=140737488355328)/\(((0:Int)<=(192:Int)/\(192:Int)<=(192:Int))/\0<=(↑(flat [aq (digits (x.k%18446744073709551616)),aq x.root,aq x.key,aq x.to,cat (bA 192 (↑(flat (dJ (gC x.f) 0 a.1)).length:Int).toNat) (flat (dJ (gC x.f) 0 a.1))]).length:Int)/\(↑(flat [aq (digits (x.k%18446744073709551616)),aq x.root,aq x.key,aq x.to,cat (bA 192 (↑(flat (dJ (gC x.f) 0 a.1)).length:Int).toNat) (flat (dJ (gC x.f) 0 a.1))]).length:Int)<1152921504606846976)/\(↑(bA 192 (↑(flat [aq (digits (x.k%18446744073709551616)),aq x.root,aq x.key,aq x.to,cat (bA 192 (↑(flat (dJ (gC x.f) 0 a.1)).length:Int).toNat) (flat (dJ (gC x.f) 0 a.1))]).length:Int).toNat).length:Int)+(↑(flat [aq (digits (x.k%18446744073709551616)),aq x.root,aq x.key,aq x.to,cat (bA 192 (↑(flat (dJ (gC x.f) 0 a.1)).length:Int).toNat) (flat (dJ (gC x.f) 0 a.1))]).length:Int)<=9223372036854775807/\Fk (65536<(↑(cat (bA 192 (↑(flat [aq (digits (x.k%18446744073709551616)),aq x.root,aq x.key,aq x.to,cat (bA 192 (↑(flat (dJ (gC x.f) 0 a.1)).length:Int).toNat) (flat (dJ (gC x.f) 0 a.1))]).length:Int).toNat) (flat [aq (digits (x.k%18446744073709551616)),aq x.root,aq x.key,aq x.to,cat (bA 192 (↑(flat (dJ (gC x.f) 0 a.1)).length:Int).toNat) (flat (dJ (gC x.f) 0 a.1))])).length:Int)) (Bk x.ok (Fk (65536<(x.put.length:Int)) (ah (SV.aN [SV.str A [],SV.int .i64 A 8]) (SV.aN [SV.str A [],SV.int .i64 A 8])) (ah (SV.aN [SV.str A [],SV.int .i64 A 8]) (SV.aN [SV.str G x.put,SV.int .i64 A 0]))) (ah (SV.aN [SV.str A [],SV.int .i64 A 8]) (SV.aN [SV.str A [],SV.int .i64 A 1]))) (Bk x.ok (Fk (65536<(x.put.length:Int)) (ah (g a) (SV.aN [SV.str A [],SV.int .i64 A 8])) (ah (g a) (SV.aN [SV.str G x.put,SV.int .i64 A 0]))) (ah (g a) (SV.aN [SV.str A [],SV.int .i64 A 1])))))))) (fun(a:Nat×Nat)=>(SV.aN [SV.str G (cat (bA 192 (↑(flat [aq (digits (x.k%18446744073709551616)),aq x.root,aq x.key,aq x.to,cat (bA 192 (↑(flat (dJ (gC x.f) 0 a.1)).length:Int).toNat) (flat (dJ (gC x.f) 0 a.1))]).length:Int).toNat) (flat [aq (digits (x.k%18446744073709551616)),aq x.root,aq x.key,aq x.to,cat (bA 192 (↑(flat (dJ (gC x.f) 0 a.1)).length:Int).toNat) (flat (dJ (gC x.f) 0 a.1))])),SV.int .i64 A 0])))) (SB.cells [SV.int .i64 G x.k,SV.str G x.root,SV.str G x.key,SV.str G x.to,SV.bE 0 1 z o 0 x.n c] 5 63)):=by kernel_rfl
structure Pp.Small (x:Pp):Prop where
 k:0<=x.k/\x.k<=1
 root:x.root.length=32
 key:x.key.length<=6
 to:x.to.length<=6
 n:x.n<=200
 row: ∀ i,i<x.n->(x.f i).length<=1000
theorem K7 (h:kU n f=A)(hi:i<n):(f i).length<=1000:=by unfold kU at h;rw[List.all_eq_true] at h;have:=h i (List.mem_range.2 hi);simp only[iV,b!,q_] at this;omega
theorem Pp.Df (h:x.ok=A):x.Small:=by unfold Pp.ok at h;simp only[V,Bool.or_eq_true,b!,q_,p_] at h;obtain⟨⟨⟨⟨⟨h1,h2⟩,h3⟩,h4⟩,h5⟩,h6⟩:=h;refine⟨?_,by omega,by omega,by omega,by omega,λi hi=>K7 h6 hi⟩;rcases h1 with h1 | h1<;>omega
theorem Pp.DF (h:x.Small):(flat x.rows).length<=201800:=by
 have h0:=VQ (l:=x.rows) (m:=1009) λy hy=>by obtain⟨i,hi,rfl⟩:=LI hy;have:=h.row i hi;have:=sX (x.f i);unfold gC;omega
 have e:x.rows.length=x.n:=i6 _ _ _;have:=h.n;rw[e] at h0;have:x.n*1009<=200*1009:=Nat.mul_le_mul_right _ h.n;omega
theorem Pp.Fw (h:x.Small):(flat x.items).length<=201900:=by have h1:=sX (digits x.k);have h2:=sX x.root;have h3:=sX x.key;have h4:=sX x.to;have h5:=NJ x.rows;have h6:=Pp.DF h;have h7:=mP x.k;have:=h.root;have:=h.key;have:=h.to;simp only[Pp.items,Sc,Se,numOf];omega
set_option maxHeartbeats 4000000 in
theorem Oh (x:Pp)(z:Bool)(o c:Nat)(key:Option Nat):ay (iX (U4 x) 31 az [x.sv (.bE 0 1 z o 0 x.n c)] [ko z o c x key] (Dq x)):=by
 refine ay.mS (aeX x z o c key) (by delta Bk Fk;exact rfl) ?_;cases hx:x.ok with
 | false =>refine⟨by simp,λ_=>⟨(λh=>by cases h),λ_ _=>rfl⟩,λh=>by cases h⟩
 | true =>
   have hs:=Pp.Df hx;have hl:=Pp.Fw hs;have hr:=Pp.DF hs;have hh:=sj 192 (flat x.items).length;have hh2:=sj 192 (flat x.rows).length;have hrow:x.rows.length=x.n:=i6 _ _ _;obtain⟨h1,h2,h3,h4,h5,h6⟩:=hs;have hk:x.k%18446744073709551616=x.k:=by omega
   simp only[hk,O,Int.toNat_natCast,c6,c5,and_self,true_and,and_true,Bool.not_true,Bool.false_eq_true,Bool.true_eq_false,false_imp_iff,forall_const];refine⟨by omega,⟨(0,x.n),⟨b_ _,b_ _⟩,rfl,⟨rfl,rfl⟩,Sx.aa.empty rfl,aa.refl _,aa.refl _⟩,λy hy=>⟨λhk=> ?_,λhk=> ?_⟩⟩
   ·simp only[p_] at hk;have hk':y.1<x.n:=by omega
    have b1:=h6 y.1 hk';have hle:=hy.le;refine⟨by omega,hk',by omega,by omega,λc1 hc=>⟨by omega,(y.1+1,c1),⟨Sm (_k:=0) hy (by omega) hc,by show x.n-(y.1+1)<x.n-y.1;omega⟩,by simp,⟨rfl,rfl⟩,?_,aa.refl _,aa.refl _⟩⟩;have:=V4 (_n:=x.n) (F:=gC x.f) (k:=y.1) (v:=aq (x.f y.1)) rfl (c:=c1) (c':=c1) rfl;rw[c5] at this;exact this
   ·simp only[q_] at hk;have e:y.1=x.n:=by have:=hy.le;omega
    have hc:=hy.cap;rw[e] at hc ⊢;have e1:dJ (gC x.f) 0 x.n=x.rows:=rfl;have e2:cat (bA 192 (flat x.rows).length) (flat x.rows)=cU x.rows:=rfl;have e3:flat [aq (digits x.k),aq x.root,aq x.key,aq x.to,cU x.rows]=flat x.items:=rfl;have e4:cat (bA 192 (flat x.items).length) (flat x.items)=x.put:=rfl;rw[e1,e2,e3,e4,hrow];generalize hL:(flat x.items).length=L at *;generalize M ((65536:Int)<(x.put.length:Int))=b at *;refine⟨by omega,by omega,by omega,by omega,by omega,by omega,by omega,by omega,by omega,by omega,?_⟩;cases b with
    | true=>exact⟨λ_=>⟨λ_ _=>rfl,(λh=>by cases h)⟩,(λh=>by cases h)⟩
    | false=>exact⟨(λh=>by cases h),λ_=>⟨(λh=>by cases h),λ_ _=>rfl⟩⟩
def sG (vs:List SV)(l:List Seen):Option (Prop×cK):=match nT vs l with
 | some (x,_)=>H (True,Dq x)
 | none=>I
theorem ID:ax J 31 (bT MC sG):=by
 refine gd (n:=20) Tryz.func31 (by kernel_rfl) (by kernel_rfl) ?_;intro vs l q a h hq;unfold sG at h;split at h
 ·rename_i x r hx;obtain⟨z,o,c,key⟩:=r;cases h;obtain⟨e1,e2⟩:=vP hx;rw[e1,e2];exact⟨_,adJ x,rfl,λb=>by cases b<;>first | exact rfl | (intro b;cases b<;>exact rfl),Oh x z o c key⟩
 ·cases h
noncomputable def WR:List (FuncId×PT):=(31,bT MC sG)::NK
theorem SO:bp J (λf=>aD f WR):=.cons ID (bS _ _) FI
def aU (s:f_)(j:Nat):f_:=aj (af s) j
def j7 (t:f_):Int:=num (af t)
theorem tW {n:Int}(h0:0<=n)(h:n<18446744073709551616):lT (numOf n)=A/\cw (numOf n)=A/\dn (numOf n)=G/\aF (numOf n)=[]/\j7 (numOf n)=n:=by obtain⟨h1,h2⟩:=VT h0 h;obtain⟨g1,g2,g3,_⟩:=wR.1 h1;exact⟨h1,g1,g2,g3,by unfold j7 numOf;rw[h2,B4 h0 h]⟩
theorem jo {b:f_}(h:b.length<=1048576):cw (aq b)=A/\dn (aq b)=G/\aF (aq b)=[]/\af (aq b)=b:=by obtain⟨h1,h2,h3⟩:=Yu h;have:=(sW h []).2.2.1;rw[cy] at this;exact⟨h1,h2,h3,this⟩
structure pR (t:f_)(l:List f_):Prop where
 b:cw t=A
 li:dn t=A
 r:aF t=[]
 i:af t=flat l
 ib:dD (af t)=A
 n:aA (af t)=l.length
 at': ∀(k:Nat) (v:f_),l[k]?=H v->aj (af t) k=v
def Whole (y:f_):Prop:=cw y=A/\aF y=[]
theorem CU {l:List f_}(h: ∀ y∈ l,Whole y)(hl:(flat l).length<=1048576):pR (cU l) l:=by obtain⟨h1,h2,h3,h4⟩:=KD hl [];rw[cy] at h1 h2 h3 h4;have e:bA 192 (flat l).length++flat l=cU l:=rfl;rw[e] at h1 h2 h3 h4;obtain⟨g1,g2,g3⟩:=vp l h;exact⟨h1,h2,h4,h3,by rw[h3];exact g1,by rw[h3];exact g2,λk v hk=>by rw[h3];exact g3 k v hk⟩
theorem pR.whole {t:f_}{l:List f_}(h:pR t l):Whole t:=⟨h.b,h.r⟩
theorem Le {n:Int}(h0:0<=n)(h:n<18446744073709551616):Whole (numOf n):=⟨(tW h0 h).2.1,(tW h0 h).2.2.2.1⟩
theorem mh {b:f_}(h:b.length<=1048576):Whole (aq b):=⟨(jo h).1,(jo h).2.2.1⟩
end
namespace Sx
open Go
noncomputable section
def ig (E:Nat->Nat):SV->Deferred
 | .func fn a b=>{target:=.fn fn (SV.vals E b).toArray,args:=(SV.vals E a).toArray}
 | _=>{target:=.collected 0,args:=#[]}
theorem El {E':Nat->Nat}(h: ∀ k,k<nx->E' k=E k)(hw:d.wf nx=A):ig E' d=ig E d:=by
 cases d<;>try rfl
 simp only[SV.wf,V] at hw;simp only[ig,SV.fY h _ hw.1,SV.fY h _ hw.2]
def Hr (σ:Operand->Option SV):Op->Option SV
 | .defer c=>(match c.callee,c.args.toList with
   | .value f,[]=>(match σ f with
     | some (.func (.func g) a b)=>H (.func (.func g) a b)
     | _=>I)
   | _,_=>I)
 | _=>I
def aaq:Op->Bool
 | .defer _=>A
 | _=>G
theorem JO {σ:Operand->Option SV}{ρ:Operand->Value}(hr:Reads E σ ρ){o:Oper}(h:Hr σ o.op=H d)(w:World) :
  (execOp ρ o).run P w=.ok (.defer (ig E d)) w:=by
 obtain⟨dst,op,type,pos,after,guard⟩:=o;unfold Hr at h;simp only at h;split at h
 ·rename_i c;split at h
  ·rename_i f hc hargs;split at h
   ·rename_i g a b hf;cases h;have hf:=hr f _ hf;have ha:c.args=#[]:=by cases c with | mk callee args at'=>simp only at hargs;exact Array.ext' (by simpa using hargs)
    simp only[execOp,resolve,hc,hf,SV.val,Deferred.ofValue,ha,Sem.run_bind,Sem.run_pure,Result.andThen_ok,ig];simp
   ·cases h
  ·cases h
 ·cases h
def aT.pre (Γ:aT):aT:={Γ with tail:=[],rf:=G}
def aT.dfr (Γ:aT)(d:Deferred):aT:={Γ with tail:=[d],rf:=A}
theorem aT.HW (Γ:aT):Γ.le Γ.pre:=⟨rfl,rfl,O _,λ_ _=>rfl,λ_ h=>h⟩
theorem aT.aea (Γ:aT)(d:Deferred):Γ.le (Γ.dfr d):=⟨rfl,rfl,O _,λ_ _=>rfl,λ_ h=>h⟩
theorem aJ.acz {E m nx w}(h:aJ Γ E m nx w):aJ Γ.pre E m nx w:=⟨h.hJ,h.iw,h.lt,h.iT,h.ext,h.cx,h.kp⟩
theorem aJ.YD {E m nx w}(h:aJ Γ.pre E m nx w):aJ Γ E m nx w:=⟨h.hJ,h.iw,h.lt,h.iT,h.ext,h.cx,h.kp⟩
theorem aJ.af2 {d:Deferred}{E m nx w}(h:aJ Γ E m nx w):aJ (Γ.dfr d) E m nx w:=⟨h.hJ,h.iw,h.lt,h.iT,h.ext,h.cx,h.kp⟩
theorem aJ.af3 {d:Deferred}{E m nx w}(h:aJ (Γ.dfr d) E m nx w):aJ Γ E m nx w:=⟨h.hJ,h.iw,h.lt,h.iT,h.ext,h.cx,h.kp⟩
def CL (ops:Array Oper):Bool:=match ops[ops.size-1]? with
 | some o=>aaq o.op&&o.guard.isNone&&o.dst.isNone
 | none=>G
def sxD (P:Program)(C:de)(env:Env)(aW:ny)(n:Nat):Code->Option SV->(Option SV->XP)->(Option SV->XK)->St->VC
 | c,H d,X,K,st=>sx P C env aW n c G (X (H d)) (K (H d)) st
 | .seq a b,I,X,K,st=>sxD P C env aW n a I X (λd e st'=>match e with
    | .normal=>sxD P C env aW n b d X K st'
    | e=>K d e st') st
 | .region id ops drawn,I,X,K,st=>(match drawn,CL ops with
    | false,A=>jn P (C.k6 env wq) ops (List.range (ops.size-1)) (λst'=>match ops[ops.size-1]? with
       | some o=>(match Hr (ev st'.tmps) o.op with
         | some d=>(match d.wf st'.nx with
           | true=>K (H d) .normal st'
           | false=>.fail "a key out of bounds")
         | none=>.fail "what is deferred is not known")
       | none=>.fail "no operation") st
    | _,_=>sx P C env aW n (.region id ops drawn) A (X I) (K I) st)
 | c,I,X,K,st=>sx P C env aW n c A (X I) (K I) st
def GN (K:Option SV->XK)(X:Option SV->XP)(Γ:aT)(E:Nat->Nat)(nx:Nat)(e:Exit)(a:Act)(w:World):Prop :=ie (K I) (X I) Γ.pre E nx e a w∨∃ d E1 nx1,d.wf nx1=A/\nx<=nx1/\(∀ k,k<nx->E1 k=E k)/\ie (K (H d)) (X (H d)) (Γ.dfr (ig E1 d)) E1 nx1 e a w
theorem DM {P:Program}{Γ:aT}{ro:Option Nat}{KP:PK}{call:nA->PT}(hcall: ∀ c,mJ P Γ KP c (call c)){ops:Array Oper}{Q:Exit->Act->World->Prop}{K:St->VC}{l':List Nat}{E0:Nat->Nat}{rj:Nat}{T0:List (Option SV)}(hT0:dz rj T0=A)
  (hP: ∀ e a w,cP E0 (unsure ops T0) a->l7 KP Γ E0 rj e a w->Q e a w) :
  ∀(l:List Nat) {st:St} {E:Nat->Nat} {a:Act} {w:World},(jn P call ops l K st).holds->Sat Γ E st a w->cP E0 (unsure ops T0) a->(∀ k,k<rj->E k=E0 k)->rj<=st.nx->
   (∀ a w,jg K Γ E st.nx a w->wpOpsIn (Fr ro) 0 P ops Q l' a w)->wpOpsIn (Fr ro) 0 P ops Q (l++l') a w
 | [],st,E,a,w,h,hs,_,_,_,hQ=>hQ _ _ ⟨E,st,λ_ _=>rfl,O _,hs,h⟩
 | j::r,st,E,a,w,h,hs,hF,hE0,hn0,hQ=>by
   rw[List.cons_append,wpOpsIn_cons];unfold wpOpIn;simp only[jn] at h;cases ho:ops[j]? with
   | none=>rw[ho] at h;exact h.elim
   | some o =>
     rw[ho] at h;simp only;have hmem:o∈ ops.toList:=by rw[← Array.getElem?_toList] at ho;exact List.mem_of_getElem? ho
     have hstep:=qO (ro:=ro) hcall h hs Q (λe w hb=>hP e a w hF (hb.weaken hE0 hn0));have go: ∀ a' w',((∃ r,a'=a.put o.dst r)/\jg (jn P call ops r K) Γ E st.nx a' w')->wpOpsIn (Fr ro) 0 P ops Q (r++l') a' w':=by rintro a' w' ⟨⟨rr,ha⟩,E',st',g1,g2,g3,g4⟩;refine DM hcall hT0 hP r g4 g3 (ha▸ cP.wh hF hmem rr) (λk hk=>(g1 k (Y hk hn0)).trans (hE0 k hk)) (S hn0 g2) λa'' w'' hb=>hQ a'' w'' ?_;obtain⟨E'',st'',k1,k2,k3,k4⟩:=hb;exact⟨E'',st'',λk hk=>(k1 k (Y hk g2)).trans (g1 k hk),S g2 k2,k3,k4⟩
     split
     ·rename_i hw;rw[r_ hw] at hstep;exact Oper.wpIn_mono go hstep
     ·rename_i hw;rw[s_ hw] at hstep;exact⟨rF ro,go _ _ ⟨⟨_,rfl⟩,hstep⟩⟩
section
variable {P : Program} {C : de} {env : Env} {aW : ny} {n : Nat}
theorem Yr (c:Code)(d:SV)(X:Option SV->XP)(K:Option SV->XK)(st:St):sxD P C env aW n c (H d) X K st=sx P C env aW n c G (X (H d)) (K (H d)) st:=by cases c<;>rfl
theorem Ov (h:0<n):List.range n=List.range (n-1)++[n-1]:=by
 obtain⟨k,rfl⟩: ∃ k,n=k+1:=⟨n-1,by omega⟩
 simp[List.range_succ]
theorem TN (hmix:P.follows .mixedOrders=A)(hC:dg P C)(hem: ∀ p∈ env,aQ p.2)(hek: ∀ p∈ env,∀ KP,mJ P Γ KP (.yield p.1) p.2): ∀(c:Code) (X:Option SV->XP) (K:Option SV->XK) (st:St) (E:Nat->Nat) (a:Act) (w:World),
  (sxD P C env aW n c I X K st).holds->Sat Γ.pre E st a w->c.wpIn (Fr I) 0 P (GN K X Γ E st.nx) a w:=by
 have plain: ∀(c:Code) (X:Option SV->XP) (K:Option SV->XK) (st:St) (E:Nat->Nat) (a:Act) (w:World),
   (sx P C env aW n c A (X I) (K I) st).holds->Sat Γ.pre E st a w->c.wpIn (Fr I) 0 P (GN K X Γ E st.nx) a w:=λc X K st E a w h hs =>
  wpIn_mono (xY hmix hC hem c A I (λ_=>rfl) Γ.pre (λh=>by cases h) (λp hp KP=>(hek p hp KP).mono Γ.HW) _ _ st E a w h hs) λe a w h=>.inl h
 intro c;induction c with
 | seq x y ihx ihy =>
   intro X K st E a w h hs;simp only[sxD] at h;refine wpIn_seq (wpIn_mono (ihx _ _ st E a w h hs) ?_);rintro e a1 w1 ((⟨ex,rfl,E1,st1,g1,g2,g3,g4⟩ | hp) | ⟨d,E1,nx1,hd,hn1,hE1,(⟨ex,rfl,E2,st1,g1,g2,g3,g4⟩ | hp)⟩)
   ·cases ex with
    | normal =>
      refine wpIn_mono (ihy _ _ st1 E1 a1 w1 g4 g3) λe a2 w2 hb=> ?_;rcases hb with hb | ⟨d,E2,nx2,hd,hn,hE,hb⟩
      ·exact .inl (hb.weaken g1 g2)
      ·exact .inr ⟨d,E2,nx2,hd,S g2 hn,λk hk=>(hE k (Y hk g2)).trans (g1 k hk),hb⟩
    | exit id=>exact .inl (.inl ⟨.exit id,rfl,E1,st1,g1,g2,g3,g4⟩)
    | ret=>exact .inl (.inl ⟨.ret,rfl,E1,st1,g1,g2,g3,g4⟩)
   ·have hp':=hp;obtain⟨v,E1,st1,rfl,_⟩:=hp';exact .inl (.inr hp)
   ·cases ex with
    | normal =>simp only at g4;rw[Yr] at g4;refine wpIn_mono (xY hmix hC hem y G I (λ_=>rfl) _ (λ_=>rfl) (λp hp KP=>(hek p hp KP).mono (Γ.aea _)) _ _ st1 E2 a1 w1 g4 g3) λe a2 w2 hb=> ?_;exact .inr ⟨d,E1,nx1,hd,hn1,hE1,hb.weaken g1 g2⟩
    | exit id=>exact .inr ⟨d,E1,nx1,hd,hn1,hE1,.inl ⟨.exit id,rfl,E2,st1,g1,g2,g3,g4⟩⟩
    | ret=>exact .inr ⟨d,E1,nx1,hd,hn1,hE1,.inl ⟨.ret,rfl,E2,st1,g1,g2,g3,g4⟩⟩
   ·have hp':=hp;obtain⟨v,E1',st1,rfl,_⟩:=hp';exact .inr ⟨d,E1,nx1,hd,hn1,hE1,.inr hp⟩
 | region id ops drawn =>
   intro X K st E a w h hs;simp only[sxD] at h;split at h
   ·rename_i hl;unfold CL at hl;cases hlast:ops[ops.size-1]? with
    | none=>rw[hlast] at hl;cases hl
    | some o =>
      rw[hlast] at hl;simp only[V,Option.isNone_iff_eq_none] at hl;obtain⟨⟨_,hguard⟩,hdst⟩:=hl;have hsz:0<ops.size:=by have:=(Array.getElem?_eq_some_iff.1 hlast).1;omega
      refine wpIn_region ?_;rw[Ov hsz];refine DM (KP:=wq) (hC.ok Γ.pre env hem (λp hp KP=>(hek p hp KP).mono Γ.HW) wq) hs.wt (λe a w _ hb=> ?_) _ h hs hs.tm.unsure (λ_ _=>rfl) (O _) λa1 w1 hb=> ?_
      ·obtain⟨ch,_,_,_,_,_,_,_,_,_,_,_,hno⟩:=hb;exact hno.elim
      ·obtain⟨E1,st1,g1,g2,g3,g4⟩:=hb;rw[hlast] at g4;simp only at g4;split at g4
       ·rename_i d hd;split at g4
        ·rename_i hdw;have hrun:=JO (P:=P) (o:=o) g3.tm.reads hd w1;rw[wpOpsIn_cons];unfold wpOpIn;rw[hlast];simp only;have hw:W o (yielded ops a1.tmps)=true:=by unfold W;rw[hguard]
         rw[r_ hw];refine⟨rF I,?_⟩;have hs2:o.semAt (Fr I).round a1.eval=execOp a1.eval o:=rfl;rw[hs2,hrun,Oper.uponIn_defer,hdst];show GN _ _ _ _ _ _ _ _;refine .inr ⟨d,E1,st1.nx,hdw,g2,g1,.inl ⟨.normal,rfl,E1,st1,λ_ _=>rfl,O _,⟨⟨g3.tm.size,g3.tm.val⟩,g3.wt,?_,g3.mm.YD.af2⟩,g4⟩⟩;obtain⟨Ds,d1,d2,d3,d4⟩:=g3.df;have hnil:=d4 rfl;subst hnil;refine⟨[],?_,List.nodup_nil,(λD hD=>by cases hD),λ_=>rfl⟩;simp only[Act.put,d1,List.map_nil,List.nil_append,aT.pre,aT.dfr]
        ·exact g4.elim
       ·exact g4.elim
   ·exact plain _ _ _ st E a w h hs
 | skip=>intro X K st E a w h hs;exact plain _ _ _ st E a w h hs
 | label l=>intro X K st E a w h hs;exact plain _ _ _ st E a w h hs
 | exit id=>intro X K st E a w h hs;exact plain _ _ _ st E a w h hs
 | ret=>intro X K st E a w h hs;exact plain _ _ _ st E a w h hs
 | cond c x y=>intro X K st E a w h hs;exact plain _ _ _ st E a w h hs
 | block id b=>intro X K st E a w h hs;exact plain _ _ _ st E a w h hs
 | loop b=>intro X K st E a w h hs;exact plain _ _ _ st E a w h hs
 | rangeFunc g ps a b=>intro X K st E a w h hs;exact plain _ _ _ st E a w h hs
 | scope b=>intro X K st E a w h hs;exact plain _ _ _ st E a w h hs
 | goto l=>intro X K st E a w h hs;exact plain _ _ _ st E a w h hs
 | refuse r=>intro X K st E a w h hs;exact plain _ _ _ st E a w h hs
def yL:Op->Bool
 | .call c=>(match c.callee,c.args.toList with
   | .builtin .recover,[]=>A
   | _,_=>G)
 | _=>G
def xD (P:Program)(ops:Array Oper):List Nat->(St->VC)->St->VC
 | [],K,st=>K st
 | j::r,K,st=>(match ops[j]? with
   | some o=>(match ey P o.op,o.guard,qk ops j with
     | true,I,G=>qop P (λk=>st.m.get k) (ev st.tmps) o.op (λv=>Tg G o.dst v st.tmps st.m st.nx (xD P ops r K))
     | _,_,_=>.fail "an operation in a closure's first region")
   | none=>.fail "no operation")
def recVal:Option SV->SV
 | some v=>v
 | none=>.aC
def LA (ops:Array Oper):Option (Option Nat):=match ops[0]? with
 | some o=>(match yL o.op,o.guard with
   | true,I=>H o.dst
   | _,_=>I)
 | none=>I
def wH (P:Program)(fn:Func)(K:Mem->Nat->VC):XK:=λe st=>match e with
 | .exit _=>.fail "a jump out of a function"
 | _=>(match fV P st fn.results.toList with
   | some _=>K st.m st.nx
   | none=>.fail "a result that is not known")
def OL (P:Program)(C:de)(env:Env)(aW:ny)(n:Nat)(fn:Func)(mode:Option SV)(K:Mem->Nat->VC)(st:St):Code->VC
 | .seq (.region id ops G) rest=>(match LA ops with
   | some dst=>xD P ops (b7 1 (ops.size-1)) (λst=>sx P C env aW n rest A Bt (wH P fn K) st) ⟨b8 st.tmps dst (H (recVal mode)),st.m,st.nx⟩
   | none=>(match mode with
     | none=>sx P C env aW n (.seq (.region id ops G) rest) A Bt (wH P fn K) st
     | some _=>.fail "a panic that is not recovered from"))
 | c=>(match mode with
   | none=>sx P C env aW n c A Bt (wH P fn K) st
   | some _=>.fail "a panic that is not recovered from")
def xK (P:Program)(cfg:fD)(C:de)(env:Env)(n:Nat)(d:SV)(mode:Option SV)(m:Mem)(nx:Nat)(K:Mem->Nat->VC):VC:=match d with
 | .func (.func g) first captured=>(match cfg.fns g with
   | some fn=>(match fn.body with
     | some body=>OL P C env (cfg.aW g) n fn mode K ⟨(first++captured).map H++cD (fn.ntmps-(first++captured).length) I,m,nx⟩ body
     | none=>.fail "a closure without a body")
   | none=>.fail "a closure that is not known")
 | _=>.fail "a closure that is not known"
def C7 (E:Nat->Nat):Option SV->FrameMode
 | none=>.returning
 | some v=>.panicking [{v:=v.val E,recovered:=G}]
def BE (K:Mem->Nat->VC)(Γ:aT)(E:Nat->Nat)(nx:Nat)(w:World):Prop:=∃ E' m' nx',(∀ k,k<nx->E' k=E k)/\nx<=nx'/\aJ Γ E' m' nx' w/\(K m' nx').holds
theorem Ap {e:Exit}{a:Act}{c₀:Frame}{cs:List Frame}{u:FrameMode}(hu:settle u=.returning)(_hc: ∃ c1:Frame,c1={c₀ with mode:=u})
  (h:ie (wH P fn K) Bt Γ.pre E nx e a w) :
  bodyPostS P fn c₀ cs (λe u' w'=>∃ v,e=.returned v/\settle u'=.returning/\BE K Γ E nx w') e a ({c₀ with mode:=u}::cs) w:=by
 rcases h with ⟨ex,rfl,E1,st1,g1,g2,g3,g4⟩ | hp
 rotate_left
 ·exact hp.none.elim
 have hnil:a.defers=[]:=by obtain⟨Ds,d1,d2,d3,d4⟩:=g3.df;have:=d4 rfl;subst this;exact d1
 have main:(match fV P st1 fn.results.toList with
   | some _=>K st1.m st1.nx
   | none=>VC.fail "a result that is not known").holds->a.defers=[]/\∃ u',({c₀ with mode:=u}::cs)={c₀ with mode:=u'}::cs/\∃ v,(results fn a.tmps).run P w=.ok v w/\∃ v',Ending.returned v=.returned v'/\settle u'=.returning/\BE K Γ E nx w:=by
  intro h;cases hr:fV P st1 fn.results.toList with
  | none=>rw[hr] at h;exact h.elim
  | some vs =>rw[hr] at h;exact⟨hnil,u,rfl,_,sN g3.tm g3.mm hr,_,rfl,hu,E1,st1.m,st1.nx,g1,g2,g3.mm.YD,h⟩
 cases ex with
 | exit id=>exact g4.elim
 | normal=>exact main g4
 | ret=>exact main g4
theorem LB {o:Oper}(h:yL o.op=A)(ρ:Operand->Value)(w:World):(execOp ρ o).run P w=.ok .recover w:=by
 obtain⟨dst,op,type,pos,after,guard⟩:=o;unfold yL at h;simp only at h;split at h
 ·rename_i c;split at h
  ·rename_i hc ha;have ha:c.args=#[]:=by cases c with | mk callee args at'=>simp only at ha;exact Array.ext' (by simpa using ha)
   simp only[execOp,resolve,hc,Sem.run_bind,Sem.run_pure,Result.andThen_ok,invoke];rfl
  ·cases h
 ·cases h
theorem sI {Γ:aT}{ops:Array Oper}{K:St->VC}{cs:List Frame}{Q:Exit->Act->List Frame->World->Prop}: ∀(l:List Nat) (st:St) (E:Nat->Nat) (a:Act) (w:World),(xD P ops l K st).holds->Sat Γ E st a w->
  (∀ E' st' a',(∀ k,k<st.nx->E' k=E k)->st.nx<=st'.nx->Sat Γ E' st' a' w->(K st').holds->Q .normal a' cs w)->wpOpsSIn N 0 P ops Q l a cs w
 | [],st,E,a,w,h,hs,hQ=>hQ E st a (λ_ _=>rfl) (O _) hs h
 | j::r,st,E,a,w,h,hs,hQ=>by
   simp only[xD] at h;simp only[wpOpsSIn];cases ho:ops[j]? with
   | none=>rw[ho] at h;exact h.elim
   | some o =>
     rw[ho] at h;simp only at h ⊢;split at h
     ·rename_i hq hg _;obtain⟨obl,sv,h1,h2⟩:=IM (P:=P) (look:=λk=>st.m.get k) (σ:=ev st.tmps) o;obtain⟨hobl,hk⟩:=(h1 _).1 h;obtain⟨rv,hrun,hv⟩:=h2 E w a.eval ⟨hs.mm.oB,hs.mm.Cl,hs.mm.hJ⟩ hs.tm.reads hobl;have hw:W o (yielded ops a.tmps)=true:=by unfold W;rw[hg]
      refine⟨λ_ _=>trivial,?_⟩;rw[r_ hw,hrun];simp only;obtain⟨E1,st1,g1,g2,g3,g4⟩:=vR hk hs.tm hs.wt hs.df hs.mm hv;exact sI r st1 E1 _ w g4 g3 λE' st' a' k1 k2 k3 k4=>hQ E' st' a' (λk hk=>(k1 k (Y hk g2)).trans (g1 k hk)) (S g2 k2) k3 k4
     ·exact h.elim
theorem Lz (h:0<n):List.range n=0::b7 1 (n-1):=by
 obtain⟨k,rfl⟩: ∃ k,n=k+1:=⟨n-1,by omega⟩
 rw[List.range_eq_range',List.range'_succ];simp
theorem IZ (hmix:P.follows .mixedOrders=A)(hC:dg P C)(hem: ∀ p∈ env,aQ p.2)(hek: ∀ p∈ env,∀ KP,mJ P Γ KP (.yield p.1) p.2){mode:Option SV}{st:St}{body:Code}{a:Act}
  (h:(OL P C env aW n fn mode K st body).holds) (hs:Sat Γ.pre E st a w) (hmw: ∀ v,mode=H v->v.wf st.nx=A) {c₀:Frame} (cs:List Frame) (hu:c₀.mode=C7 E mode) :
  body.wpSIn N 0 P (bodyPostS P fn c₀ cs (λe u' w'=>∃ v,e=.returned v/\settle u'=.returning/\BE K Γ E st.nx w')) a (c₀::cs) w:=by
 have plain: ∀(c:Code),(sx P C env aW n c A Bt (wH P fn K) st).holds->c₀.mode=.returning->c.wpSIn N 0 P (bodyPostS P fn c₀ cs (λe u' w'=>∃ v,e=.returned v/\settle u'=.returning/\BE K Γ E st.nx w')) a (c₀::cs) w:=by
  intro c h hr;refine wpSIn_of_wpIn rfl (wpIn_mono (xY hmix hC hem c A I (λ_=>rfl) Γ.pre (λh=>by cases h) (λp hp KP=>(hek p hp KP).mono Γ.HW) _ _ st E a w h hs) λe a w hb=> ?_);have:=Ap (c₀:=c₀) (cs:=cs) (u:=.returning) rfl ⟨_,rfl⟩ hb;have he:({c₀ with mode:=.returning}:Frame)=c₀:=by rw[← hr]
  rw[he] at this;exact this
 unfold OL at h;split at h
 ·rename_i id ops rest;split at h
  ·rename_i dst hf;unfold LA at hf;cases h0:ops[0]? with
   | none=>rw[h0] at hf;cases hf
   | some o =>
     rw[h0] at hf;simp only at hf;split at hf
     ·rename_i hrec hg;cases hf;have hsz:0<ops.size:=(Array.getElem?_eq_some_iff.1 h0).1;refine wpSIn_seq (wpSIn_region ?_);rw[Lz hsz];simp only[wpOpsSIn,h0];have hw:W o (yielded ops a.tmps)=true:=by unfold W;rw[hg]
      refine⟨λ_ _=>trivial,?_⟩;rw[r_ hw,LB hrec];simp only
      have key: ∀(rv:Value) (cs1:List Frame) (u:FrameMode),rv=(recVal mode).val E->cs1={c₀ with mode:=u}::cs->settle u=.returning->
        wpOpsSIn N 0 P ops (Exit.thenS (rest.wpSIn N 0 P (bodyPostS P fn c₀ cs (λe u' w'=>∃ v,e=.returned v/\settle u'=.returning/\BE K Γ E st.nx w'))) (bodyPostS P fn c₀ cs (λe u' w'=>∃ v,e=.returned v/\settle u'=.returning/\BE K Γ E st.nx w')))
         (b7 1 (ops.size-1)) (a.put o.dst rv) cs1 w:=by
       intro rv cs1 u hrv hcs1 hst;subst hcs1
       have hs1:Sat Γ.pre E ⟨b8 st.tmps o.dst (H (recVal mode)),st.m,st.nx⟩ (a.put o.dst rv) w :=
        ⟨hs.tm.put (λv hv=>by cases hv;exact hrv),j5 hs.wt (λv hv=>by
         cases hv;cases mode with
         | none=>rfl
         | some v=>exact hmw v rfl),by cases o.dst<;>exact hs.df,hs.mm⟩
       refine sI _ _ E _ w h hs1 λE' st' a' k1 k2 k3 k4=> ?_;show rest.wpSIn _ _ _ _ _ _ _;refine wpSIn_of_wpIn rfl (wpIn_mono (xY hmix hC hem rest A I (λ_=>rfl) Γ.pre (λh=>by cases h) (λp hp KP=>(hek p hp KP).mono Γ.HW) _ _ st' E' a' w k4 k3) λe a w hb=> ?_);exact Ap (c₀:=c₀) (cs:=cs) (u:=u) hst ⟨_,rfl⟩ (hb.weaken k1 k2)
      cases mode with
      | none =>
        have hu:c₀.mode=.returning:=hu;have:recoverD (c₀::cs)=none:=by simp[recoverD,hu]
        rw[this];exact key _ _ .returning rfl (by rw[← hu]) rfl
      | some v =>
        have hu:c₀.mode=.panicking [{v:=v.val E,recovered:=G}]:=hu;have:recoverD (c₀::cs)=H (v.val E,{c₀ with mode:=.panicking [{v:=v.val E,recovered:=A}]}::cs):=by simp[recoverD,hu]
        rw[this];exact key _ _ _ rfl rfl (by simp[settle])
     ·cases hf
  ·split at h
   ·exact plain _ h hu
   ·exact h.elim
 ·split at h
  ·exact plain _ h hu
  ·exact h.elim
theorem OJ (hg:Good P cfg)(hC:dg P C)(hem: ∀ p∈ env,aQ p.2)(hek: ∀ p∈ env,∀ KP,mJ P Γ KP (.yield p.1) p.2){mode:Option SV}{m:Mem}
  (h:(xK P cfg C env n d mode m nx K).holds) (hs:aJ Γ E m nx w) (hd:d.wf nx=A) (hmw: ∀ v,mode=H v->v.wf nx=A) :
  ∃ fv cap f args,(ig E d).target=.fn fv cap/\(invoke (ig E d).target (ig E d).args).run P w=.ok (.enter f args) w/\
    CallsDIn N 0 P f args (C7 E mode) w (λe u' w'=>∃ v,e=.returned v/\settle u'=.returning/\BE K Γ E nx w'):=by
 unfold xK at h;split at h
 ·rename_i g first captured
  split at h
  ·rename_i fn hfn;split at h
   ·rename_i body hb;obtain⟨hf,hname⟩:=hg.fns g fn hfn;refine⟨.func g,_,g,(SV.vals E (first++captured)).toArray,rfl,?_,?_⟩
    ·simp only[ig,invoke];rw[show(SV.vals E first).toArray++(SV.vals E captured).toArray=(SV.vals E (first++captured)).toArray by rw[lP];simp only[List.append_toArray]]
     exact gH hf hname hb _ _
    ·refine callsDIn_of_wpSIn hf hb trivial λc₀ cs hu=> ?_;simp only[SV.wf,V] at hd;exact IZ hg.mix hC hem hek h (aJ.start (Δ:=Γ.pre) hs.acz rfl (e8 hd.1 hd.2) fn.ntmps) hmw cs hu
   ·exact h.elim
  ·exact h.elim
 ·exact h.elim
def Ya (P:Program)(cfg:fD)(C:de)(env:Env)(aW:ny)(n:Nat)(fn:Func):PT:=λargs m nx K =>
 match fn.body with
 | some body=>sxD P C env aW n body I (λd v st=>match d with
    | some d=>(match v.wf st.nx with
      | true=>xK P cfg C env n d (H v) st.m st.nx (λm' nx'=>match fV P ⟨st.tmps,m',nx'⟩ fn.results.toList with
        | some vs=>pG nx (nj vs) m' nx' K
        | none=>.fail "a result that is not known")
      | false=>.fail "a key out of bounds")
    | none=>.fail "a panic") (λd e st=>match e with
    | .exit _=>.fail "a jump out of a function"
    | _=>(match d with
      | some d=>xK P cfg C env n d I st.m st.nx (λm' nx'=>match fV P ⟨st.tmps,m',nx'⟩ fn.results.toList with
        | some vs=>pG nx (nj vs) m' nx' K
        | none=>.fail "a result that is not known")
      | none=>(match fV P st fn.results.toList with
        | some vs=>pG nx (nj vs) st.m st.nx K
        | none=>.fail "a result that is not known")))
    ⟨args.map H++cD (fn.ntmps-args.length) I,m,nx⟩
 | none=>.fail "a function without a body"
theorem uP {fn:Func}{Γ:aT}{E:Nat->Nat}{m:Mem}{nx:Nat}{tmps:Array Value}{R:Ending->World->Prop}{u:FrameMode}{tl:List Deferred}(hu:u≠.run)
  (fin: ∀ w,aJ Γ E m nx w->LeavesInM N 0 P fn tmps R tl u w): ∀(Ds:List Nat) (w:World),Ds.Nodup->
  (∀ D∈ Ds,w.heap[D]?=H (.deferred (H []))/\D∉ Γ.keep/\Γ.w0.heap.size<=D)->aJ Γ E m nx w->LeavesInM N 0 P fn tmps R (Ds.map y8++tl) u w
 | [],w,_,_,hm=>fin w hm
 | D::Ds,w,hnd,hD,hm=>by obtain⟨h1,h2,h3⟩:=hD D (by simp);rw[List.nodup_cons] at hnd;refine⟨hu,.inl ⟨D,_,rfl,run_takeDeferred h1,uP hu fin Ds _ hnd.2 (λD' hD'=> ?_) (hm.shut h1 h2 h3 _)⟩⟩;obtain⟨g1,g2⟩:=hD D' (by simp[hD']);exact⟨by rw[World.putObj_heap_other (λe=>hnd.1 (by rw[← e];exact hD'))];exact g1,g2⟩
theorem aa9 (hg:Good P cfg)(hC:dg P C)(hem: ∀ p∈ env,aQ p.2)(hek: ∀ p∈ env,∀ KP,mJ P Γ KP (.yield p.1) p.2){f:FuncId}(hf:P.funcs[f]?=H fn)
  (hname:(fn.name== "runtime.NumGoroutine")=G):mJ P Γ wq (.fn f) (Ya P cfg C env aW n fn):=by
 intro Δ hle args m nx K h hwf hargs E w hs;have hek2: ∀ p∈ env,∀ KP,mJ P Δ KP (.yield p.1) p.2:=λp hp KP=>(hek p hp KP).mono hle;unfold Ya at h;split at h
 ·rename_i body hb;simp only[nA.sem];rw[gH hf hname hb];simp only[Out];refine callsIn_wide.1 (callsIn_of_wp_marks (F:=N) (n:=0) hf hb trivial ?_);refine wpIn_mono (TN hg.mix hC hem hek2 body _ _ _ E _ w h (aJ.start (Δ:=Δ.pre) hs.acz rfl hargs _)) (λe a' w' hq=> ?_)
  have fin: ∀(E':Nat->Nat) (T:List (Option SV)) (m':Mem) (nx':Nat) (a:Act) (w:World),(match fV P ⟨T,m',nx'⟩ fn.results.toList with
     | some vs=>pG nx (nj vs) m' nx' K
     | none=>VC.fail "a result that is not known").holds->cP E' T a->(∀ k,k<nx->E' k=E k)->nx<=nx'->aJ Δ E' m' nx' w->
    LeavesInM N 0 P fn a.tmps (λe w'=>(∃ v,e=.returned v/\bx (lift K) Δ E nx v w')∨∃ ch,e=.panicked ch/\iS wq Δ E nx ch w') [] .returning w:=by
   intro E' T m' nx' a w h ht hE hn hm;cases hr:fV P ⟨T,m',nx'⟩ fn.results.toList with
   | none=>rw[hr] at h;exact h.elim
   | some vs =>rw[hr] at h;show ∃ v,_/\_;exact⟨_,sN (st:=⟨T,m',nx'⟩) ht hm hr,.inl ⟨_,rfl,qH h hm hs.cx.1 hE hn⟩⟩
  have clos: ∀(d:SV) (E1:Nat->Nat) (nx1:Nat) (E2:Nat->Nat) (st:St) (mode:Option SV) (a:Act) (w:World),d.wf nx1=A->nx<=nx1->(∀ k,k<nx->E1 k=E k)->(∀ k,k<nx1->E2 k=E1 k)->nx1<=st.nx->
    Sat (Δ.dfr (ig E1 d)) E2 st a w->(∀ v,mode=H v->v.wf st.nx=A)->
    (xK P cfg C env n d mode st.m st.nx (λm' nx'=>match fV P ⟨st.tmps,m',nx'⟩ fn.results.toList with
      | some vs=>pG nx (nj vs) m' nx' K
      | none=>.fail "a result that is not known")).holds->
    LeavesInM N 0 P fn a.tmps (λe w'=>(∃ v,e=.returned v/\bx (lift K) Δ E nx v w')∨∃ ch,e=.panicked ch/\iS wq Δ E nx ch w') a.defers (C7 E2 mode) w:=by
   intro d E1 nx1 E2 st mode a w hd hn1 hE1 hE2 hn2 hsat hmw hrun;obtain⟨Ds,d1,d2,d3,d4⟩:=hsat.df;rw[d1];have hum:C7 E2 mode≠.run:=by cases mode<;>simp[C7]
   refine uP (tl:=[ig E1 d]) hum (λw hm=> ?_) Ds w d2 d3 hsat.mm;rw[show ig E1 d=ig E2 d from(El hE2 hd).symm]
   obtain⟨fv,cap,g,args',h1,h2,h3⟩:=OJ hg hC hem (Γ:=Δ) hek2 hrun hm.af3 (SV.iq hn2 _ hd) hmw;refine⟨hum,.inr ⟨(λh=>by cases h),fv,cap,g,args',h1,h2,λ_ _=>trivial,?_⟩⟩;refine⟨h3.1,λc cs hc hr=> ?_⟩;obtain⟨e,u',w',fr,hR,hcome,hk,hfn,hgo⟩:=h3.2 c cs hc hr;obtain⟨v,rfl,hset,E3,m3,nx3,q1,q2,q3,q4⟩:=hR;refine⟨.returned v,u',w',fr,?_,hcome,hk,hfn,hgo⟩;simp only;rw[hset];exact fin E3 st.tmps m3 nx3 a w' q4 (hsat.tm.congr hsat.wt q1) (λk hk=>(q1 k (Y hk (S hn1 hn2))).trans ((hE2 k (Y hk hn1)).trans (hE1 k hk))) (S hn1 (S hn2 q2)) q3
  rcases hq with ((⟨ex,rfl,E1,st1,g1,g2,g3,g4⟩ | hp) | ⟨d,E1,nx1,hd,hn1,hE1,(⟨ex,rfl,E2,st1,g1,g2,g3,g4⟩ | ⟨v,E2,st1,rfl,gw,g1,g2,g3,g4⟩)⟩)
  ·have hnil:a'.defers=[]:=by obtain⟨Ds,d1,d2,d3,d4⟩:=g3.df;have:=d4 rfl;subst this;exact d1
   have go:(match fV P st1 fn.results.toList with
     | some vs=>pG nx (nj vs) st1.m st1.nx K
     | none=>VC.fail "a result that is not known").holds->LeavesInM N 0 P fn a'.tmps _ a'.defers .returning w':=λh=>by
    rw[hnil];exact fin E1 st1.tmps st1.m st1.nx a' w' h g3.tm g1 g2 g3.mm.YD
   cases ex with
   | exit id=>exact g4.elim
   | normal=>exact go g4
   | ret=>exact go g4
  ·obtain⟨v,E1,st1,rfl,_,_,_,_,hno⟩:=hp;exact hno.elim
  ·cases ex with
   | exit id=>exact g4.elim
   | normal=>exact clos d E1 nx1 E2 st1 I a' w' hd hn1 hE1 g1 g2 g3 (λv hv=>by cases hv) g4
   | ret=>exact clos d E1 nx1 E2 st1 I a' w' hd hn1 hE1 g1 g2 g3 (λv hv=>by cases hv) g4
  ·simp only at g4;rw[gw] at g4;exact clos d E1 nx1 E2 st1 (H v) a' w' hd hn1 hE1 g1 g2 g3 (λu hu=>by cases hu;exact gw) g4
 ·exact h.elim
end
end
end Sx
namespace Sx
open Go
theorem A2 (hg:Good P cfg){f:FuncId}(hf:P.funcs[f]?=H fn) (hn:(fn.name== "runtime.NumGoroutine")=G) (hb:fn.body.isSome=A) {args:List SV} {m:Mem}  {K:SV->Mem->Nat->VC}
  {C:de} (hC:dg P C) (h:ay (Ya P cfg C [] (cfg.aW f) cfg.rounds fn args m nx K)) (hm:Mem.wf nx m=A) (ha:SV.fH nx args=A)    (hs:aJ Γ E m nx w) :
  Calls P f (SV.vals E args).toArray w λe w'=>∃ v,e=.returned v/\bx (lift K) Γ E nx v w':=by
 have:=aa9 hg hC (env:=[]) (λp hp=>by cases hp) (Γ:=Γ) (λp hp=>by cases hp) (aW:=cfg.aW f) (n:=cfg.rounds) hf hn Γ Γ.le_refl args m nx K h.out hm ha E w hs;obtain⟨body,hb⟩:=Option.isSome_iff_exists.1 hb;simp only[nA.sem] at this;rw[gH hf hn hb] at this;refine Calls.mono this ?_;rintro e w' (h | ⟨ch,_,_,_,_,_,_,_,_,_,_,hno⟩)
 ·exact h
 ·exact hno.elim
theorem ZN {f:FuncId}(hf:P.funcs[f]?=H fn) (hn:(fn.name== "runtime.NumGoroutine")=G) (hb:fn.body.isSome=A) {spec:List SV->Option (Prop×cK)}
  (h: ∀ args p a,spec args=H (p,a)->p->∃ cfg C,Good P cfg/\dg P C/\SV.fH 0 args=A/\a.Ok/\ay (Ya P cfg C [] (cfg.aW f) cfg.rounds fn args [] 0 (λv m _=>a.fit v m))):ax P f (bY spec):=by
 intro args m nx K hk hwf hargs Γ E w hs;unfold bY at hk;split at hk
 ·rename_i p a hr;obtain⟨hp,hk⟩:=hk;obtain⟨cfg,C,hg,hC,h1,h2,h3⟩:=h _ _ _ hr hp;have hc:=A2 hg hf hn hb hC h3 rfl h1 (aJ.none w hs.Cl);rw[SV.mI h1 (λ_=>0) E,kO] at hc;refine fN hf hn hb (hc.mono ?_);rintro e w' ⟨v,rfl,E',sv,m',nx',_,_,g3,g4,g5⟩;refine⟨v,rfl,?_⟩;cases sv with
  | none=>exact g5.elim
  | some u=>rw[g3 u rfl];exact cK.told hs hwf g4 h2 g5 hk
 ·exact hk.elim
end Sx
namespace Sx
open Go
noncomputable section
def Eb (C:de)(ex:List (FuncId×(PK->PT))):de:=⟨λenv KP c=>match c with
    | .fn f=>(match ex.find? (λe=>ag e.1 f)with
      | some e=>e.2 KP
      | none=>C.k6 env KP (.fn f))
    | c=>C.k6 env KP c,C.bd⟩
structure Ad (P:Program)(f:FuncId)(g:PK->PT):Prop where
 ok: ∀ KP Γ,mJ P Γ KP (.fn f) (g KP)
 mono: ∀ KP,aQ (g KP)
 o6: ∀ KP KP':PK,(∀ v m nx,(KP v m nx).holds->(KP' v m nx).holds)->∀ args m nx K,(g KP args m nx K).holds->(g KP' args m nx K).holds
theorem Ec {C:de}(hC:dg P C){ex:List (FuncId×(PK->PT))}(he: ∀ e∈ ex,Ad P e.1 e.2):dg P (Eb C ex):=by
 refine⟨λenv hem KP c=> ?_,λenv hem KP KP' hK c args m nx K h=> ?_,λΓ env hem hek KP c=> ?_,hC.bd⟩
 ·unfold Eb;cases c with
  | yield k=>exact hC.mono env hem KP _
  | panic=>exact hC.mono env hem KP _
  | fn f =>
    simp only;split
    ·rename_i e hf;exact(he e (bf hf)).mono KP
    ·exact hC.mono env hem KP _
 ·unfold Eb at h ⊢;cases c with
  | yield k=>exact hC.o6 env hem KP KP' hK _ _ _ _ _ h
  | panic=>exact hC.o6 env hem KP KP' hK _ _ _ _ _ h
  | fn f =>
    simp only at h ⊢;cases hf:ex.find? (λe=>ag e.1 f)with
    | some e=>rw[hf] at h;exact(he e (bf hf)).o6 KP KP' hK _ _ _ _ h
    | none=>rw[hf] at h;exact hC.o6 env hem KP KP' hK _ _ _ _ _ h
 ·unfold Eb;cases c with
  | yield k=>exact hC.ok Γ env hem hek KP _
  | panic=>exact hC.ok Γ env hem hek KP _
  | fn f =>
    simp only;cases hf:ex.find? (λe=>ag e.1 f)with
    | some e =>have h1:=List.find?_some hf;have h2:e.1=f:=Nat.eq_of_beq_eq_true h1;rw[← h2];exact(he e (bf hf)).ok KP Γ
    | none=>exact hC.ok Γ env hem hek KP _
def vO (KP:PK):SV->Mem->Nat->VC:=λv m nx=>match v.wf nx with
 | true=>KP v m nx
 | false=>.fail "a key out of bounds"
def uS (spec:List SV->Option (Prop×Bool×cK×cK)):PK->PT:=λKP args m nx K=>match spec (args.map AS)with
 | some (p,b,a,q)=>.and (.atom p) (Sx.fork b λb=>match b with
   | true=>a.vc m nx K
   | false=>q.vc m nx (vO KP))
 | none=>.fail "arguments that nothing is said of"
theorem Lj {KP KP':PK}(hK: ∀ v m nx,(KP v m nx).holds->(KP' v m nx).holds): ∀ v m nx,(vO KP v m nx).holds->(vO KP' v m nx).holds:=by
 intro v m nx h;unfold vO at h ⊢;split at h
 ·exact hK _ _ _ h
 ·exact h
theorem bx.toP {KP:PK}{v:Value}(h:bx (lift (vO KP)) Γ E nx v w):iS KP Γ E nx [{v:=v,recovered:=G}] w:=by
 obtain⟨E',sv,m',nx',h1,h2,h3,h4,h5⟩:=h;cases sv with
 | none=>exact h5.elim
 | some x =>
   have h5:(vO KP x m' nx').holds:=h5;unfold vO at h5;split at h5
   ·rename_i hw;exact⟨E',x,m',nx',h1,h2,by rw[h3 x rfl],hw,h4,h5⟩
   ·exact h5.elim
theorem Ob {f:FuncId}(hf:P.funcs[f]?=H fn) (hn:(fn.name== "runtime.NumGoroutine")=G) (_hb:fn.body.isSome=A) {spec:List SV->Option (Prop×Bool×cK×cK)}
  (h: ∀ args p b a q,spec args=H (p,b,a,q)->p->∃ C aW n,dg P C/\P.follows .mixedOrders=A/\SV.fH 0 args=A/\a.Ok/\q.Ok/\
    ay (fE P C [] (λv m _=>.and (.atom (b=G)) (q.fit v m)) aW n fn args [] 0 (λv m _=>.and (.atom (b=A)) (a.fit v m)))):Ad P f (uS spec):=by
 refine⟨λKP Γ0=> ?_,λKP args m nx K K' hK hh=> ?_,λKP KP' hK args m nx K hh=> ?_⟩
 ·intro Γ _ args m nx K hk hwf hargs E w hs;unfold uS at hk;split at hk
  ·rename_i p b a q hr;obtain⟨hp,hk⟩:=hk;obtain⟨C,aW,n,hC,hmix,h1,h2,hq,h3⟩:=h _ _ _ _ _ hr hp;have hk:=bP.1 hk;have hc:=DH hmix hC (env:=[]) (λp hp=>by cases hp) (Γ:=aT.at w (λ_=>False) hs.Cl (λ_ _ h=>h)) (λp hp=>by cases hp) (aW:=aW) (n:=n) hf hn _ (aT.le_refl _) _ [] 0 _ h3.out rfl h1 (λ_=>0) w (aJ.none w hs.Cl);simp only[nA.sem] at hc ⊢;rw[SV.mI h1 (λ_=>0) E,kO] at hc;refine hc.mono (λv w' hh=> ?_) (λch w' hh=> ?_)
   ·obtain⟨E',sv,m',nx',_,_,g3,g4,g5⟩:=hh;cases sv with
    | none=>exact g5.elim
    | some u =>obtain⟨gb,g5⟩:=g5;have gb:b=true:=gb;subst gb;rw[g3 u rfl];exact cK.told hs hwf g4 h2 g5 hk
   ·obtain⟨E',u,m',nx',_,_,g3,gw,g4,gb,g5⟩:=hh;have gb:b=false:=gb;subst gb;rw[g3];exact(cK.told hs hwf g4 hq g5 hk).toP
  ·exact hk.elim
 ·unfold uS at hh ⊢;split at hh
  ·rename_i p b a q hr;refine⟨hh.1,bP.2 ?_⟩;have:=bP.1 hh.2;cases b
   ·exact this
   ·exact cK.qS hK this
  ·exact hh
 ·unfold uS at hh ⊢;split at hh
  ·rename_i p b a q hr;refine⟨hh.1,bP.2 ?_⟩;have:=bP.1 hh.2;cases b
   ·exact cK.qS (Lj hK) this
   ·exact this
  ·exact hh
end
end Sx
section
open Go Sx
set_option maxRecDepth 20000
def dL (s:f_):Pp:=⟨j7 (aU s 0),af (aU s 1),af (aU s 2),af (aU s 3),aA (af (aU s 4)),λi=>af (aj (af (aU s 4)) i)⟩
def cr (s:f_):Bool:=(dL s).fits&&M ((dL s).put=s)
def Iv:SV:=.agg [.int .i64 A 0,.str A [],.str A [],.str A [],.aO]
def Au (s:f_):cK:=.fork (cr s) λb=>match b with
 | true=>.all Nat λc=>.req (aA (af (aU s 4))<=c) (.new (λk=>.aN [(dL s).sv (.aX k 1 A 0 (aA (af (aU s 4))) c),.int .i64 A 0]) (.rows A (aA (af (aU s 4))) [.str (dL s).f] G c 9))
 | false=>.ret (.aN [Iv,.int .i64 A 2])
def abN (st:St)(t:Nat):Nat:=match slot st.tmps t with
 | some (.ptr k _ _)=>k
 | _=>0
def nG:cK:=.all Int λat'=>.new (λk=>.iface 253 (.ptr k A 0)) (.cells [.int .i64 G at',.iface 30 (.int .i64 A 2)] 2 255)
theorem vm:nG.Ok:=λ_=>⟨rfl,rfl,λk=>by simp[SV.wf,c4],λE E' k k' h=>by simp only[SV.val,h rfl]⟩
noncomputable def IY (C:de)(aW:ny)(fn:Func)(args:List SV)(b:Bool)(a q:cK):VC :=fE J C [] (λv m _=>.and (.atom (b=G)) (q.fit v m)) aW 100 fn args [] 0 (λv m _=>.and (.atom (b=A)) (a.fit v m))
def cB (t:f_)(l:Bool):Bool:=cw t&&M (aF t=[])&&(dn t==l)
noncomputable def JG:fD:={cv with cT:=λf=>aD f WR}
theorem Co:Sx.Good J JG:=.of bR SO bq
noncomputable def BQ:de:=calling J JG 20
theorem TZ (n:Int)(t:f_)(l:Bool):VC.holds (IY BQ [] ct [.int .i64 G n,.str G t,.bool G l] (cB t l) (.ret (.str G (af t))) nG)=((t.length<9223372036854775808/\Bk (cw t) (Fk (aF t=[]) (Bk (!dn t==l) (cB t l=G/\∃(a:Int),aa (SB.cells [SV.int .i64 G n,SV.iface 30 (SV.int .i64 A 2)] 2 255) (SB.cells [SV.int .i64 G a,SV.iface 30 (SV.int .i64 A 2)] 2 255)/\ah (SV.iface 253 (SV.ptr 0 A 0)) (SV.iface 253 (SV.ptr 0 A 0))) (cB t l=A/\ah (SV.str G (af t)) (SV.str G (af t)))) (cB t l=G/\∃(b:Int),aa (SB.cells [SV.int .i64 G n,SV.iface 30 (SV.int .i64 A 2)] 2 255) (SB.cells [SV.int .i64 G b,SV.iface 30 (SV.int .i64 A 2)] 2 255)/\ah (SV.iface 253 (SV.ptr 0 A 0)) (SV.iface 253 (SV.ptr 0 A 0)))) (cB t l=G/\∃(c:Int),aa (SB.cells [SV.int .i64 G n,SV.iface 30 (SV.int .i64 A 2)] 2 255) (SB.cells [SV.int .i64 G c,SV.iface 30 (SV.int .i64 A 2)] 2 255)/\ah (SV.iface 253 (SV.ptr 0 A 0)) (SV.iface 253 (SV.ptr 0 A 0))))):=by kernel_rfl
theorem jb {n:Int}: ∃(x:Int),aa (SB.cells [SV.int Z G n,SV.iface 30 (SV.int Z A (2:Int))] (2:Nat) 255) (SB.cells [SV.int Z G x,SV.iface 30 (SV.int Z A (2:Int))] (2:Nat) 255)/\
  ah (SV.iface 253 (SV.ptr (0:Nat) A (0:Nat))) (SV.iface 253 (SV.ptr (0:Nat) A (0:Nat))):=⟨n,aa.refl _,λ_=>rfl⟩
def vC:List SV->Option (Prop×Bool×cK×cK)
 | [.int .i64 G _,.str G t,.bool G l]=>H (t.length<9223372036854775808,cB t l,.ret (.str G (af t)),nG)
 | _=>I
theorem SA:Ad J 125 (uS vC):=by
 refine Ob Tryz.func125 (by kernel_rfl) (by kernel_rfl) ?_;intro args p b a q h hp;unfold vC at h;split at h
 ·rename_i n t l;injection h with h;injection h with h1 h;injection h with h2 h;injection h with h3 h4;subst h1;subst h2;subst h3;subst h4;refine⟨BQ,[],100,oH Co 20,bR,rfl,rfl,vm,ay.mS (TZ n t l) (by delta Bk Fk;exact rfl) ?_⟩;refine⟨hp,λh1=>⟨λh2=>⟨λh3=>⟨?_,jb⟩,λh3=>⟨?_,λ_=>rfl⟩⟩,λh2=>⟨?_,jb⟩⟩,λh1=>⟨?_,jb⟩⟩
  all_goals (unfold cB;simp_all)
 ·cases h
noncomputable def adb:List (FuncId×(PK->PT)):=[(125,uS vC)]
theorem Qc: ∀ e∈ adb,Ad J e.1 e.2:=λe he=>by
 rcases List.mem_cons.1 he with rfl | he
 ·exact SA
 ·cases he
noncomputable def MP:de:=Eb BQ adb
theorem RM:dg J MP:=Ec (oH Co 20) Qc
def fO (s:f_):Bool:=cB s A&&dD (af s)
def QN (s:f_):cK:=.all Nat λc=>.req (aA (af s)<=c) (.new (λk=>.aX k 1 A 0 (aA (af s)) c) (.rows A (aA (af s)) [.str (aj (af s))] G c 9))
theorem YS (n:Int)(s:f_):VC.holds (IY MP [] cl [.int .i64 G n,.str G s] (fO s) (QN s) nG)=((s.length<9223372036854775808/\Bk (cB s A) ((af s).length<1099511627776/\Bk (dD (af s)) (∀(a:Nat),aA (af s)<=a->fO s=A/\∃(b:Nat),aA (af s)<=b/\aa (SB.rows A (aA (af s)) [av.str (aj (af s))] G a 9) (SB.rows A (aA (af s)) [av.str (aj (af s))] G b 9)/\ah (SV.aX 0 1 A 0 (aA (af s)) a) (SV.aX 0 1 A 0 (aA (af s)) b)) (fO s=G/\∃(c:Int),aa (SB.cells [SV.int .i64 G n,SV.iface 30 (SV.int .i64 A 2)] 2 255) (SB.cells [SV.int .i64 G c,SV.iface 30 (SV.int .i64 A 2)] 2 255)/\ah (SV.iface 253 (SV.ptr 0 A 0)) (SV.iface 253 (SV.ptr 0 A 0)))) (∀(d:Int),fO s=G/\∃(e:Int),aa (SB.cells [SV.int .i64 G d,SV.iface 30 (SV.int .i64 A 2)] 2 255) (SB.cells [SV.int .i64 G e,SV.iface 30 (SV.int .i64 A 2)] 2 255)/\ah (SV.iface 253 (SV.ptr 0 A 0)) (SV.iface 253 (SV.ptr 0 A 0))))):=by kernel_rfl
def vQ:List SV->Option (Prop×Bool×cK×cK)
 | [.int .i64 G _,.str G s]=>H (s.length<1099511627776,fO s,QN s,nG)
 | _=>I
theorem Tf:Ad J 123 (uS vQ):=by
 refine Ob Tryz.func123 (by kernel_rfl) (by kernel_rfl) ?_;intro args p b a q h hp;unfold vQ at h;split at h
 ·rename_i n s;injection h with h;injection h with h1 h;injection h with h2 h;injection h with h3 h4;subst h1;subst h2;subst h3;subst h4;have hle:=oM s;refine⟨MP,[],100,RM,bR,rfl,(λc=>⟨rfl,rfl,λk=>by simp[SV.wf,c4],λE E' k k' h=>by simp only[SV.val,SB.no] at h ⊢;cases hz:ag (aA (af s)) 0<;>simp_all⟩),vm,ay.mS (YS n s) (by delta Bk;exact rfl) ?_⟩
  refine⟨by omega,λh1=>⟨by omega,λh2=>λx hx=>⟨?_,x,hx,aa.refl _,λ_=>rfl⟩,λh2=>⟨?_,jb⟩⟩,λh1 x=>⟨?_,jb⟩⟩
  all_goals (unfold fO;simp_all)
 ·cases h
noncomputable def ade:List (FuncId×(PK->PT)):=(123,uS vQ)::adb
theorem Qd: ∀ e∈ ade,Ad J e.1 e.2:=λe he=>by
 rcases List.mem_cons.1 he with rfl | he
 ·exact Tf
 ·exact Qc e he
noncomputable def G7:de:=Eb BQ ade
theorem RN:dg J G7:=Ec (oH Co 20) Qd
noncomputable def Ws (s:f_):aY :=
 {α:=Unit,pre:=λ_ _=>True,kH:=λ_ _=>0,fresh:=1,slots:=λst _=>[(6,.ptr st.nx A 0)],
  mem:=λst _=>[(st.nx,.cells [.int .i64 G (j7 (aU s 0)),.str G (af (aU s 1)),.str G (af (aU s 2)),.str G (af (aU s 3)),.aO] 5 63)]}
noncomputable def Ux (s:f_):aY :=
 {α:=Nat×Nat,pre:=λ_ x=>va (aA (af (aU s 4))) x,kH:=λ_ x=>aA (af (aU s 4))-x.1,fresh:=1,slots:=λ_ x=>[(54,.int .i64 G x.1)],
  mem:=λst x=>[(abN st 6,.cells [.int .i64 G (j7 (aU s 0)),.str G (af (aU s 1)),.str G (af (aU s 2)),.str G (af (aU s 3)),.aX st.nx 1 A 0 x.1 x.2] 5 63),(st.nx,.rows A x.1 [.str (dL s).f] G x.2 9)]}
noncomputable def BI (s:f_):ny:=[(8,always (Ux s)),(1006,always (Ws s))]
def Oi (s:f_):cK:=.all Nat λc=>.req (aA (af (aU s 4))<=c) (.new (λk=>(dL s).sv (.aX k 1 A 0 (aA (af (aU s 4))) c)) (.rows A (aA (af (aU s 4))) [.str (dL s).f] G c 9))
end
end Go.Proofs.YtoibaecagklkaaaGreatDoor
