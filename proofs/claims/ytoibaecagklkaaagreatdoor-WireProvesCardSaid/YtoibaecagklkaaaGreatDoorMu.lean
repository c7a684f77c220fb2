/- A part of the proof. -/
import Derived.Test.YtoibaecagklkaaaGreatDoorMt
open Bool renaming and_eq_true->cD,false->F,noConfusion->a_,true->C
open Go.IntKind renaming i64->J
open Go.Operand renaming tmp->V
open Go.Proofs.Tryz renaming f45->a!,f46->bf,f63->b5,prog->O
open Int renaming one_pos->c5,toNat_natCast->b6
open List renaming all_eq_true->c6,append_nil->c7,cons_ne_nil->b9,getD_eq_getElem?_getD->Q,getElem?_eq_getElem->W,getElem_mem->Z,length_map->c_,length_take->c!,mem_cons->d_,mem_cons_self->d!,mem_range->ag,range->ec
open Nat renaming beq->S,ble->M,blt->an,blt_eq->aC,eq_of_beq_eq_true->aN,le_add_right->ei,le_of_ble_eq_true->ej,le_refl->T,le_trans->b_,lt_of_lt_of_le->aO,mul_le_mul->ek,one_pos->en,succ_pos->ep,zero_add->b!,zero_le->cl
open Option renaming none->L,some->I
namespace Go.Proofs.YtoibaecagklkaaaGreatDoor
open Go Sx
variable {l t:List Rw}{N i k k' m n:Nat}{D:Nat->Bool}{us:Nat->Int}{f:Nat->f_}{r s:Rw}{ty:TypeId}{Γ:aT}
section
open Go Sx
set_option maxRecDepth 20000
theorem af4 (x:AdG):dB (.s 0 (.n (.s 0 .k) (.s 0 (.n .k (.n (.s 4 (.n .k (.s 0 (.n .k (.s 0 (.m 3 (.s 1 (.n (.s 0 (.n .k (.n .k .t))) (.n (.s 1 (.n (.s 1 (.n .k (.n .k .t))) .t)) (.n (.s 0 (.n .k (.n .k .t))) (.n (.s 1 (.n (.s 0 (.n (.s 0 (.n .k (.n .k .t))) (.n (.s 1 (.n (.s 4 (.n .k (.n .k .t))) .t)) (.s 1 (.n .k (.n .k .t)))))) .t)) (.n (.s 3 (.n .k (.s 0 .k))) .t)))))))))))) .t))))) (runM UM 46 bf RB x) ((∃(i:RdG),(i.n<=1000/\∀(w:Nat),w<i.n->(i.f w).length<=1000)/\(x.n=i.n/\x.c=i.c)/\aa (SB.rows C x.n [av.str x.f] C (x.c*1) 9) (SB.rows C i.n [av.str i.f] C (i.c*1) 9)/\Bk (decide (0<i.n)&&rq i.n i.f) (∀(a:Pv),j8 i.f i.n a.A a.g->((0:Int)<=(0:Int)/\0<(x.n:Int))/\0<x.n/\(True/\Xu [x.f 0])/\∃(b:Zu),(b.n<=1000/\j8 b.f b.n b.A b.g/\aP b.f b.n b.root=C/\Clo b.n b.f)/\aK (flat [x.f 0])=b.root/\x.room=b.room/\aa (SB.fmap (aP i.f i.n) (aE.aM (pF 1 (su 0 [((0:Nat),fA x.room 1),((1:Nat),SB.map [] 0),((2:Nat),SB.rows C x.n [av.str x.f] C (x.c*1) 9)] (SB.rows C i.n [av.str i.f] C (i.c*1) 9) (SB.rows C x.n [av.str x.f] C (x.c*1) 9) [((0:Nat),(2:Nat))]) 3) (aE.ref 2 a.g)) L) (SB.fmap (aP b.f b.n) (aE.ref 3 b.g) L)/\aa (SB.eD a.A.D [av.str a.A.dm,av.b7 6 1 C a.A.fb a.A.nb a.A.cb,av.int J a.A.us,av.int J a.A.hd] 4 133 F) (SB.eD b.A.D [av.str b.A.dm,av.b7 4 1 C b.A.fb b.A.nb b.A.cb,av.int J b.A.us,av.int J b.A.hd] 4 133 C)/\aa (SB.dQ a.A.D2 a.A.n2 [cg.str a.A.rf] F) (SB.dQ b.A.D2 b.A.n2 [cg.str b.A.rf] C)/\∀(d:List f_×Nat),lR b.n b.f b.root d.1 d.1.length/\d.1.length<=d.2->((-9223372036854775808:Int)<=b.room-(↑(0:Nat):Int)/\b.room-(↑(0:Nat):Int)<=9223372036854775807)/\Fk (b.room-(↑(0:Nat):Int)<(d.1.length:Int)) (∃(B:uZ),rz x.n x.f (aK (x.f 0)) B/\False) ((∃(v:Nat),v<=d.1.length/\0=(v:Int)/\aa (SB.map [] 0) (SB.fmap (vw (fun(E:Nat)=>d.1.getD E []) v) (aE.ref 5 b.g) L))/\∀(j:Nat),j<=d.1.length->Fk ((j:Int)<(d.1.length:Int)) ((0<=(j:Int)/\(j:Int)<(d.1.length:Int))/\0+(j:Int).toNat<d.1.length/\Bk (aP b.f b.n (d.1.getD (0+(j:Int).toNat) [])) (I6 ((j:Int)+1)/\∃(u:Nat),(u<=d.1.length/\d.1.length-u<d.1.length-j)/\(j:Int)+1=(u:Int)/\aa (SB.fmap (dZ (vw (fun(G:Nat)=>d.1.getD G []) j) (d.1.getD (0+(j:Int).toNat) [])) (aE.ref 5 (xO b.g (d.1.getD (0+(j:Int).toNat) []) (b.g (d.1.getD (0+(j:Int).toNat) [])))) L) (SB.fmap (vw (fun(H:Nat)=>d.1.getD H []) u) (aE.ref 5 b.g) L)) False) ((∃(p:Nat×(Nat->Int)),(p.1<=d.1.length/\wu a.A.D p.2 (16*p.1))/\0=(p.1:Int)/\aa (SB.eD a.A.D [av.str a.A.dm,av.b7 6 1 C a.A.fb a.A.nb a.A.cb,av.int J a.A.us,av.int J a.A.hd] 4 133 F) (SB.eD a.A.D [av.str a.A.dm,av.b7 6 1 C a.A.fb a.A.nb a.A.cb,av.int J p.2,av.int J a.A.hd] 4 133 F))/\∀(e:Nat×(Nat->Int)),e.1<=d.1.length/\wu a.A.D e.2 (16*e.1)->Fk ((e.1:Int)<(d.1.length:Int)) ((0<=(e.1:Int)/\(e.1:Int)<(d.1.length:Int))/\0+(e.1:Int).toNat<d.1.length/\Bk (aP b.f b.n (d.1.getD (0+(e.1:Int).toNat) [])) (a.A.D (b.g (d.1.getD (0+(e.1:Int).toNat) []))=C/\(∃(q:Nat×(Nat->Int)),((q.1:Int)<=(↑(a.A.nb (b.g (d.1.getD (0+(e.1:Int).toNat) []))):Int)/\wu a.A.D q.2 (16*(e.1:Int).toNat+q.1))/\0=(q.1:Int)/\aa (SB.eD a.A.D [av.str a.A.dm,av.b7 6 1 C a.A.fb a.A.nb a.A.cb,av.int J e.2,av.int J a.A.hd] 4 133 F) (SB.eD a.A.D [av.str a.A.dm,av.b7 6 1 C a.A.fb a.A.nb a.A.cb,av.int J q.2,av.int J a.A.hd] 4 133 F))/\∀(h:Nat×(Nat->Int)),(h.1:Int)<=(↑(a.A.nb (b.g (d.1.getD (0+(e.1:Int).toNat) []))):Int)/\wu a.A.D h.2 (16*(e.1:Int).toNat+h.1)->Fk ((h.1:Int)<(↑(a.A.nb (b.g (d.1.getD (0+(e.1:Int).toNat) []))):Int)) ((0<=(h.1:Int)/\(h.1:Int)<(↑(a.A.nb (b.g (d.1.getD (0+(e.1:Int).toNat) []))):Int))/\(a.A.D2 (a.A.fb (b.g (d.1.getD (0+(e.1:Int).toNat) [])))=C/\0+(h.1:Int).toNat<a.A.n2 (a.A.fb (b.g (d.1.getD (0+(e.1:Int).toNat) []))))/\(vw (fun(I:Nat)=>d.1.getD I []) j (a.A.rf (a.A.fb (b.g (d.1.getD (0+(e.1:Int).toNat) []))) (0+(h.1:Int).toNat))=C->a.A.D (b.g (a.A.rf (a.A.fb (b.g (d.1.getD (0+(e.1:Int).toNat) []))) (0+(h.1:Int).toNat)))=C/\I6 (h.2 (b.g (a.A.rf (a.A.fb (b.g (d.1.getD (0+(e.1:Int).toNat) []))) (0+(h.1:Int).toNat)))+1)/\a.A.D (b.g (a.A.rf (a.A.fb (b.g (d.1.getD (0+(e.1:Int).toNat) []))) (0+(h.1:Int).toNat)))=C/\I6 ((h.1:Int)+1)/\∃(l:Nat×(Nat->Int)),(((l.1:Int)<=(↑(a.A.nb (b.g (d.1.getD (0+(e.1:Int).toNat) []))):Int)/\wu a.A.D l.2 (16*(e.1:Int).toNat+l.1))/\(↑(a.A.nb (b.g (d.1.getD (0+(e.1:Int).toNat) []))):Int).toNat-l.1<(↑(a.A.nb (b.g (d.1.getD (0+(e.1:Int).toNat) []))):Int).toNat-h.1)/\(h.1:Int)+1=(l.1:Int)/\aa (SB.eD a.A.D [av.str a.A.dm,av.b7 6 1 C a.A.fb a.A.nb a.A.cb,av.int J fun(y:Nat)=>if y=b.g (a.A.rf (a.A.fb (b.g (d.1.getD (0+(e.1:Int).toNat) []))) (0+(h.1:Int).toNat))then h.2 (b.g (a.A.rf (a.A.fb (b.g (d.1.getD (0+(e.1:Int).toNat) []))) (0+(h.1:Int).toNat)))+1 else h.2 y,av.int J a.A.hd] 4 133 F) (SB.eD a.A.D [av.str a.A.dm,av.b7 6 1 C a.A.fb a.A.nb a.A.cb,av.int J l.2,av.int J a.A.hd] 4 133 F))/\(vw (fun(K:Nat)=>d.1.getD K []) j (a.A.rf (a.A.fb (b.g (d.1.getD (0+(e.1:Int).toNat) []))) (0+(h.1:Int).toNat))=F->False)) (I6 ((e.1:Int)+1)/\∃(o:Nat×(Nat->Int)),((o.1<=d.1.length/\wu a.A.D o.2 (16*o.1))/\d.1.length-o.1<d.1.length-e.1)/\(e.1:Int)+1=(o.1:Int)/\aa (SB.eD a.A.D [av.str a.A.dm,av.b7 6 1 C a.A.fb a.A.nb a.A.cb,av.int J h.2,av.int J a.A.hd] 4 133 F) (SB.eD a.A.D [av.str a.A.dm,av.b7 6 1 C a.A.fb a.A.nb a.A.cb,av.int J o.2,av.int J a.A.hd] 4 133 F))) False) ((vw (fun(M:Nat)=>d.1.getD M []) j (aK (flat [x.f 0]))=C->a.A.D (b.g (aK (flat [x.f 0])))=C/\I6 (a.A.hd (b.g (aK (flat [x.f 0])))+1)/\a.A.D (b.g (aK (flat [x.f 0])))=C/\∃(r:uZ),rz x.n x.f (aK (x.f 0)) r/\aK (flat [x.f 0])=aK (x.f 0)/\aa (SB.cells [SV.int .i64 F b.room,SV.map 1] 2 126) (fA x.room 1)/\aa (SB.fmap (vw (fun(N:Nat)=>d.1.getD N []) j) (aE.ref 5 b.g) L) (SB.fmap (cY r.Fr) (aE.ref 3 r.g) L)/\aa (SB.eD a.A.D [av.str a.A.dm,av.b7 6 1 C a.A.fb a.A.nb a.A.cb,av.int J e.2,av.int J fun(z:Nat)=>if z=b.g (aK (flat [x.f 0]))then a.A.hd (b.g (aK (flat [x.f 0])))+1 else a.A.hd z] 4 133 F) (SB.eD r.A.D [av.str r.A.dm] 4 133 F))/\(vw (fun(O:Nat)=>d.1.getD O []) j (aK (flat [x.f 0]))=F->False))))) (∃(P:uZ),rz x.n x.f (aK (x.f 0)) P/\False))):=⟨by kernel_rfl,by kernel_rfl⟩
theorem Sn (e:Nat->f_)(i:Nat)(h:f_):dZ (vw e i) (e i) h=vw e (i+1) h:=by unfold dZ vw;rw[List.range_succ,List.any_append,List.any_cons,List.any_nil,Bool.or_false];congr 1;exact decide_eq_decide.2 ⟨Eq.symm,Eq.symm⟩
theorem V5 (Fr:List f_)(h:f_):vw (λq=>Fr.getD q []) Fr.length h=cY Fr h:=by
 unfold vw cY;rw[Bool.eq_iff_iff,List.any_eq_true,p_];constructor
 ·rintro⟨q,hq,e⟩;rw[ag] at hq;rw[p_] at e;rw[← e];show Fr.getD q []∈ Fr;rw[Q,W hq];exact Z hq
 ·intro hm;obtain⟨q,hq,e⟩:=List.getElem_of_mem hm;refine⟨q,ag.2 hq,n_ ?_⟩;show Fr.getD q []=h;rw[Q,W hq];exact e
theorem TB (g:f_->Nat)(s t:f_):xO g s (g s) t=g t:=by
 unfold xO;by_cases e:t=s
 ·rw[n_ e,e];rfl
 ·rw[o_ e];rfl
theorem wu.le {b b':Nat}(h:wu D us b)(hb:b<=b'):wu D us b':=⟨λa ha=>by have:=h.all a ha;omega⟩
theorem wu.up {b:Nat}(h:wu D us b){a:Nat}(ha:D a=C):wu D (λj=>if j=a then us a+1 else us j) (b+1):=⟨λj hj=>by
 have h1:=h.all a ha;have h2:=h.all j hj;show 0<=(if j=a then us a+1 else us j)/\(if j=a then us a+1 else us j)<=_
 by_cases e:j=a
 ·rw[r_ e];omega
 ·rw[s_ e];omega⟩
theorem rT (f:Nat->f_): ∀(n i:Nat),i<n->aP f n (aK (f i))=C
 | 0,_,h=>absurd h (Nat.not_lt_zero _)
 | n+1,i,h=>by
   by_cases e:i=n
   ·subst e;simp[aP]
   ·have:=rT f n i (by omega);simp[aP,this]
theorem Z8 {n:Nat->Nat}{az:List cg}:aa (.dQ D n az F) (.dQ D n az C) :=⟨rfl,λ_ _ ha=>⟨ha,λ_ _ h=>h,λ_=>rfl⟩⟩
theorem rL {Fr:List f_}(h:i<Fr.length):Fr.getD i []∈ Fr:=by rw[Q,W h];exact Z h
theorem Ns {dm:Nat->f_}{fb nb cb:Nat->Nat}{hd:Nat->Int}{ro:Bool}:aa (.eD D [.str dm,.b7 k 1 C fb nb cb,.int .i64 us,.int .i64 hd] 4 133 F) (.eD D [.str dm,.b7 k' 1 C fb nb cb,.int .i64 us,.int .i64 hd] 4 133 ro):=by
 refine M9 rfl (T _) λb hb k c1 c2 h1 h2 E=> ?_
 match k,h1,h2 with
 | 0,h1,h2=>injection h1 with h1;injection h2 with h2;subst h1;subst h2;rfl
 | 1,h1,h2=>injection h1 with h1;injection h2 with h2;subst h1;subst h2;rfl
 | 2,h1,h2=>injection h1 with h1;injection h2 with h2;subst h1;subst h2;rfl
 | 3,h1,h2=>injection h1 with h1;injection h2 with h2;subst h1;subst h2;rfl
 | k+4,h1,_=>simp at h1
theorem Nr {A:It}{c2 c3 c4:av}:aa (.eD A.D [.str A.dm,c2,c3,c4] 4 133 F) A.bare:=by
 refine M9 rfl (by show 1<=4;omega) λb hb k c1 c2 h1 h2 E=> ?_
 match k,h1,h2 with
 | 0,h1,h2=>injection h1 with h1;injection h2 with h2;subst h1;subst h2;rfl
 | k+1,_,h2=>simp at h2
theorem RC (x:AdG)(hx:RB.pre x):ay (runM UM 46 bf RB x):=by
 refine ay.A5 (af4 x) (by delta Bk Fk;exact rfl) ?_;obtain⟨h0,hn,hroom,hmax,hlen,hread,hclo⟩:=hx;have hgood:(decide (0<x.n)&&rq x.n x.f)=true:=by rw[n_ h0,hread];rfl
 have ef:flat [x.f 0]=x.f 0:=by unfold flat;simp
 simp only[b6,b!,true_and,p_,q_,ef];refine⟨⟨x.n,x.f,x.c⟩,⟨hn,hlen⟩,⟨rfl,rfl⟩,aa.refl _,λ_ y hG=> ?_,λh=>by rw[hgood] at h;cases h⟩;have hroot:aP x.f x.n (aK (x.f 0))=true:=rT _ _ _ h0;have hl0:=hlen 0 h0;refine⟨⟨Int.le_refl _,by omega⟩,h0,⟨by rw[ef];show(x.f 0).length<_;omega,by show 1<_;decide⟩,⟨x.n,x.f,y.A,y.g,x.room,aK (x.f 0)⟩,⟨hn,hG,hroot,hclo⟩,rfl,rfl,aa.fmap (λ_=>rfl) (λ_=>rfl),Ns,Z8,λz ⟨hB,hzc⟩=> ?_⟩;have hL:=hB.len;dsimp only at hL hB ⊢;refine⟨⟨by omega,by omega⟩,λh=>absurd h (by omega),λ_=>⟨⟨0,cl _,rfl,aa.Fl λ_=>rfl⟩,λi hi=>⟨λhlt=> ?_,λhge=> ?_⟩⟩⟩
 ·have hlt':i<z.1.length:=by omega
  have hd:=hB.dom _ (rL hlt');refine⟨⟨by omega,hlt⟩,hlt',λ_=>⟨⟨by omega,by omega⟩,i+1,⟨by omega,by omega⟩,by omega,aa.fmap (λh=>Sn (λq=>z.1.getD q []) i h) λh=> ?_⟩,λh=>by rw[hd] at h;cases h⟩;exact congrArg (λv=>(aE.ref 5 λ_=>v).val h) (TB y.g _ h)
 ·obtain rfl:i=z.1.length:=by omega
  have hE: ∀ h,vw (λq=>z.1.getD q []) z.1.length h=cY z.1 h:=V5 _;refine⟨⟨(0,y.A.us),⟨cl _,⟨λa ha=>by have:=hG.us a ha;dsimp only;omega⟩⟩,rfl,aa.refl _⟩,λw ⟨hw,hU⟩=>⟨λhlt=> ?_,λhge2=> ?_⟩⟩
  ·have hlt':w.1<z.1.length:=by omega
   have hd:=hB.dom _ (rL hlt');have hT:y.A.dm (y.g (z.1.getD w.1 []))=rC x.n x.f (z.1.getD w.1 []):=hG.dm _ hd;have hnb:y.A.nb (y.g (z.1.getD w.1 []))=gM (rC x.n x.f (z.1.getD w.1 [])):=(hG.nb _ hd).trans (congrArg gM hT);have h16:gM (rC x.n x.f (z.1.getD w.1 []))<=16:=wU _ 16;refine⟨⟨by omega,hlt⟩,hlt',λ_=>⟨hG.dom _ hd,⟨(0,w.2),⟨by dsimp only;omega,hU⟩,rfl,aa.refl _⟩,λv ⟨hv,hV⟩=>⟨λhj=> ?_,λhj=> ?_⟩⟩,λh=>by rw[hd] at h;cases h⟩
   ·have hj':v.1<y.A.nb (y.g (z.1.getD w.1 [])):=by omega
    obtain⟨r1,r2,r3⟩:=hG.row _ hd (by omega);have hr:y.A.rf (y.A.fb (y.g (z.1.getD w.1 []))) v.1=fk (rC x.n x.f (z.1.getD w.1 [])) v.1:=by rw[r3 v.1 hj',hT]
    have hin:fk (rC x.n x.f (z.1.getD w.1 [])) v.1∈ z.1:=hB.clo w.1 hlt' hlt' v.1 (by omega);have ha:=hG.dom _ (hB.dom _ hin);rw[hr];have hb:=hV.all _ ha;refine⟨⟨by omega,hj⟩,⟨r1,by omega⟩,λ_=>⟨ha,⟨by omega,by omega⟩,ha,⟨by omega,by omega⟩,(v.1+1,λj=>if j=y.g (fk (rC x.n x.f (z.1.getD w.1 [])) v.1)then v.2 (y.g (fk (rC x.n x.f (z.1.getD w.1 [])) v.1))+1 else v.2 j),⟨⟨by dsimp only;omega,hV.up ha⟩,by dsimp only;omega⟩,by dsimp only;omega,aa.refl _⟩,λh=>by rw[hE,cY,n_ hin] at h;cases h⟩
   ·exact⟨⟨by omega,by omega⟩,(w.1+1,v.2),⟨⟨by dsimp only;omega,hV.le (by dsimp only;omega)⟩,by dsimp only;omega⟩,by dsimp only;omega,aa.refl _⟩
  ·have hz:=hG.us _ (hG.dom _ hroot);exact⟨λ_=>⟨hG.dom _ hroot,⟨by omega,by omega⟩,hG.dom _ hroot,⟨z.1,y.A,y.g⟩,⟨hB,λh hh=>hG.dom _ (hB.dom h hh),λh hh=>hG.dm _ (hB.dom h hh)⟩,aa.refl _,aa.fmap hE λ_=>rfl,Nr⟩,λh=>by rw[hE,cY,n_ hB.root] at h;cases h⟩
theorem acH:ax O 46 (cM RB) :=fT (n:=20) Tryz.func46 (by kernel_rfl) (by kernel_rfl) RB λx hx=>⟨_,adk,rfl,RC x hx⟩
structure ago (n:Nat)(t:Nat->Bool)(i:Nat):Prop where
 up:n6 n t i
 le:i<=46
def acp (z:Bool)(o c n:Nat)(f:Nat->f_)(key:Option Nat):Seen:=⟨key,z,o,n,c,[.str f]⟩
def shT:List AZ:=[.of (.slice dP)]
def ZO (f:Nat->f_)(i k:Nat):Bool:=!(decide (aK (f k)=aK (f i))&& !decide (f k=f i))
def apR (f:Nat->f_)(i:Nat):Bool:=(ec i).all (ZO f i)
def fu (n:Nat)(f:Nat->f_):Bool:=(ec n).all (apR f)
def Wa (f:Nat->f_)(i c:Nat):SB:=.rows C i [.str λq=>aK (f q)] F (c*1) 9
noncomputable def acN (n:Nat)(f:Nat->f_):aY :={α:=Nat×Nat,pre:=λ_ y=>dr n (apR f) y.1/\y.1<=y.2,kH:=λ_ y=>n-y.1,fresh:=1,slots:=λst y=>[(4,.int .i64 F y.1),(3,.aX st.nx 1 C 0 y.1 y.2)],mem:=λst y=>[(st.nx,Wa f y.1 y.2)]}
noncomputable def acO (i:Nat)(f:Nat->f_):aY :={α:=Nat,pre:=λ_ k=>dr i (ZO f i) k,kH:=λ_ k=>i-k,fresh:=0,slots:=λ_ k=>[(6,.int .i64 F k)],mem:=λ_ _=>[]}
noncomputable def UN (n:Nat)(f:Nat->f_):fD:={cv with cT:=λf=>aD f gy,aW:=λh=>if h=45 then [(3,always (acN n f)),(7,λst=>match slot st.tmps 4 with
 | some (.int _ _ i)=>I (one (acO i.toNat f))
 | _=>L)] else []}
theorem adl (n:Nat)(f:Nat->f_):Sx.Good O (UN n f):=.of bR dj bq
theorem abl (n:Nat)(f:Nat->f_)(z:Bool)(o c:Nat)(key:Option Nat):dB (.n (.s 0 (.n .k (.n .k .t))) (.n (.s 2 (.n (.s 0 (.n .k .t)) (.n (.s 1 (.n (.s 6 (.n .k .t)) (.s 1 (.n .k .t)))) (.s 3 (.n .k (.n (.s 0 .k) (.s 0 (.n .k .t)))))))) .t)) (iX (UN n f) 45 a! [.bE 0 1 z o 0 n c] [acp z o c n f key] (.ret (.bool F (fu n f)))) (((∃(e:Nat×Nat),(dr n (apR f) e.1/\e.1<=e.2)/\0=(e.1:Int)/\e.1=0/\(Wa f e.1 e.2).no=C)/\∀(a:Nat×Nat),dr n (apR f) a.1/\a.1<=a.2->Fk ((a.1:Int)<(n:Int)) ((0<=(a.1:Int)/\(a.1:Int)<(n:Int))/\(o=o/\0+(a.1:Int).toNat<n)/\(True/\Xu [f (0+(a.1:Int).toNat)])/\(∃(l:Nat),dr (a.1:Int).toNat (ZO f (a.1:Int).toNat) l/\0=(l:Int))/\∀(b:Nat),dr (a.1:Int).toNat (ZO f (a.1:Int).toNat) b->Fk ((b:Int)<(a.1:Int)) ((0<=(b:Int)/\(b:Int)<(a.1:Int))/\0+(b:Int).toNat<a.1/\Fk (aK (f (0+(b:Int).toNat))=aK (flat [f (0+(a.1:Int).toNat)])) ((0<=(b:Int)/\(b:Int)<(n:Int))/\(o=o/\0+(b:Int).toNat<n)/\(0<=(a.1:Int)/\(a.1:Int)<(n:Int))/\(o=o/\0+(a.1:Int).toNat<n)/\Bk (!decide (f (0+(b:Int).toNat)=f (0+(a.1:Int).toNat))) (ah (SV.bool C F) (SV.bool F (fu n f))) (I6 ((b:Int)+1)/\∃(g:Nat),(dr (a.1:Int).toNat (ZO f (a.1:Int).toNat) g/\(a.1:Int).toNat-g<(a.1:Int).toNat-b)/\(b:Int)+1=(g:Int))) (I6 ((b:Int)+1)/\∃(h:Nat),(dr (a.1:Int).toNat (ZO f (a.1:Int).toNat) h/\(a.1:Int).toNat-h<(a.1:Int).toNat-b)/\(b:Int)+1=(h:Int))) ((0+a.1<=a.1/\True/\2*(a.1+1)*16<=(281474976710656:Nat)/\a.1+1<(9223372036854775808:Nat))/\∀(i:Nat),a.1+1<=i->I6 ((a.1:Int)+1)/\∃(d:Nat×Nat),((dr n (apR f) d.1/\d.1<=d.2)/\n-d.1<n-a.1)/\(a.1:Int)+1=(d.1:Int)/\(a.1+1=d.1/\i=d.2)/\aa (SB.rows C (a.1+1) [av.str λj=>if j<a.1 then aK (f j)else ck [aK (flat [f (0+(a.1:Int).toNat)])] (j-a.1)] F (i*1) 9) (SB.rows C d.1 [av.str λm=>aK (f m)] F (d.2*1) 9))) (ah (SV.bool C C) (SV.bool F (fu n f))))):=⟨by kernel_rfl,by kernel_rfl⟩
theorem Jw (h:fu n f=C)(hi:i<n)(hk:k<i)(e:aK (f k)=aK (f i)):f k=f i:=by have h1:=c6.1 h i (ag.2 hi);have h2:=c6.1 h1 k (ag.2 hk);unfold ZO at h2;rw[n_ e,Bool.true_and,Bool.not_not] at h2;exact l_ h2
theorem vg (h:fu n f=C)(hi:i<n)(hk:k<n)(e:aK (f k)=aK (f i)):f k=f i:=by
 rcases Nat.lt_trichotomy k i with g | g | g
 ·exact Jw h hi g e
 ·rw[g]
 ·exact(Jw h hk g e.symm).symm
theorem Ys (h:fu n f=C)(hi:i<n):rC n f (aK (f i))=f i:=by obtain⟨h1,h2,h3⟩:=iu f n _ (rT f n i hi);exact vg h hi (by omega) h3
theorem Jv (n:Nat)(f:Nat->f_)(hn:n<=100000)(hf: ∀ i,i<n->(f i).length<1099511627776)(z:Bool)(o c:Nat)(key:Option Nat):ay (iX (UN n f) 45 a! [.bE 0 1 z o 0 n c] [acp z o c n f key] (.ret (.bool F (fu n f)))):=by
 refine ay.A5 (abl n f z o c key) (by delta Bk Fk;exact rfl) ?_;have ef: ∀ i,flat [f i]=f i:=λi=>by unfold flat;simp
 simp only[b6,b!,true_and,p_,q_,Bool.not_eq_true',Bool.not_eq_false',ef];refine⟨⟨(0,0),⟨dr.zero _ _,T _⟩,rfl,rfl,rfl⟩,λx ⟨h1,h2⟩=>⟨λh=> ?_,λh=>gk (h1.done h).symm⟩⟩;obtain⟨i,c⟩:=x;dsimp only at h1 h2 h ⊢;have hlt:i<n:=by omega
 have hi:=hf i hlt;refine⟨⟨by omega,h⟩,hlt,⟨by rw[ef];exact Nat.lt_trans hi (by decide),by show 1<_;decide⟩,⟨0,dr.zero _ _,rfl⟩,λk hk=>⟨λhj=> ?_,λhj=> ?_⟩⟩
 ·have hlt2:k<i:=by omega
  have hkn:k<n:=by omega
  refine⟨⟨by omega,hj⟩,hlt2,λhe=>⟨⟨by omega,by omega⟩,hkn,⟨by omega,h⟩,hlt,λhne=>gk ?_,λhse=>⟨⟨by omega,by omega⟩,k+1,⟨hk.next hj ?_,by omega⟩,by omega⟩⟩,λhne=>⟨⟨by omega,by omega⟩,k+1,⟨hk.next hj ?_,by omega⟩,by omega⟩⟩
  ·cases ha:fu n f with
   | false=>rfl
   | true=>exact absurd (vg ha hlt hkn he) hne
  ·unfold ZO;rw[n_ hse,Bool.not_true,Bool.and_false];rfl
  ·unfold ZO;rw[o_ hne,Bool.false_and];rfl
 ·refine⟨⟨T _,by omega,by omega⟩,λc' hc'=>⟨⟨by omega,by omega⟩,(i+1,c'),⟨⟨h1.next h (hk.done hj),hc'⟩,by dsimp only;omega⟩,by dsimp only;omega,⟨rfl,rfl⟩,?_⟩⟩
  refine kW rfl rfl rfl λk c1 c2 e1 e2 q hq E=> ?_
  match k,e1,e2 with
  | 0,e1,e2 =>
    injection e1 with e1;injection e2 with e2;subst e1;subst e2;simp only[av.at,SV.val];by_cases hqi:q<i
    ·rw[r_ hqi]
    ·obtain rfl:q=i:=by omega
     rw[s_ hqi,Nat.sub_self];rfl
  | k+1,e1,_=>simp at e1
def yq (vs:List SV)(l:List Seen):Option (Prop×cK):=match vs,l with
 | [_],[⟨_,_,_,n,_,[.str f]⟩]=>I (n<=100000/\(∀ i,i<n->(f i).length<1099511627776),.ret (.bool F (fu n f)))
 | _,_=>L
theorem UA:ax O 45 (bT shT yq):=by
 refine gd (n:=20) (fn:=a!) Tryz.func45 (by kernel_rfl) (by kernel_rfl) ?_;intro vs l q a h hq;unfold yq at h;split at h
 ·rename_i v key z o n c f;cases h;exact⟨_,adl n f,rfl,rfl,Jv n f hq.1 hq.2 z o c key⟩
 ·cases h
theorem abm (m:Nat)(x:List Rw×Nat):dB (.n (.s 0 (.n (.s 0 (.n .k (.s 0 .k))) (.s 0 (.n .k (.s 0 .k))))) (.n (.s 4 (.n (.s 0 (.n .k (.s 0 .k))) (.s 0 (.n .k (.s 0 .k))))) (.s 5 (.n (.s 11 (.n (.s 0 .k) (.s 0 (.n .k (.s 1 (.n .k (.s 3 (.n (.s 0 (.n .k (.s 0 .k))) (.s 0 (.n .k (.s 0 .k))))))))))) (.n (.s 0 (.n .k (.s 1 (.n .k (.s 2 (.n .k .t)))))) (.n (.s 0 (.n (.s 0 .k) (.s 1 (.m 2 (.s 4 (.n (.s 0 .k) (.s 0 (.n .k (.s 1 (.n (.s 0 .k) (.s 0 (.m 3 (.s 4 (.n .k (.s 1 (.n (.s 0 .k) (.s 0 (.m 3 (.n .k .t))))))))))))))))))) (.s 1 (.n (.s 2 (.n (.s 0 (.n .k (.s 0 .k))) (.s 0 (.n .k (.s 0 .k))))) (.s 0 (.n (.s 0 (.n .k (.s 0 .k))) (.s 0 (.n .k (.s 0 .k))))))))))))) (runM (PE m x.1) 63 b5 (yA (m+1)) x) ((λR0:Nat->(Nat×kY)->SV=>((λR1:Nat->(Nat×kY)->(uE)->SV=>((λR2:Nat->(Nat×kY)->SV=>((λw:(List Rw×Nat×Nat)->SB=>((Fk ((x.1.length:Int)=0) (Fits {k:=(0:Int),p:=[],v:=[],r:=fun(g4:Nat)=>(c9 (λ_=>[]) []).getD g4 []:Nd}/\(aZ {k:=(0:Int),p:=[],v:=[],r:=fun(g5:Nat)=>(c9 (λ_=>[]) []).getD g5 []:Nd}=C->∀(a4:Nat),∃(y:Nat×Pd),Told y.2 (m+1+(1:Nat)) y.1 (cX (m+1) x.1)/\a4=y.1/\aa (SB.eD (fun(g6:Nat)=>g6.beq a4) [av.str fun(_u155:Nat)=>cZ {k:=(0:Int),p:=[],v:=[],r:=fun(g7:Nat)=>(c9 (λ_=>[]) []).getD g7 []:Nd},av.b7 0 1 C (fun(_u153:Nat)=>(0:Nat)) (fun(_u152:Nat)=>(0:Nat)) fun(_u151:Nat)=>(0:Nat)] 2 165 F) (y.2.parts 2)/\∀(g8:Nat),¬SB.gB 0 (y.2.lists 1) g8)/\(aZ {k:=(0:Int),p:=[],v:=[],r:=fun(g9:Nat)=>(c9 (λ_=>[]) []).getD g9 []:Nd}=F->∀(a5:Nat),∃(z:Nat×Pd),Told z.2 (m+1+(1:Nat)) z.1 (cX (m+1) x.1)/\a5=z.1/\aa (SB.eD (fun(g_:Nat)=>g_.beq a5) [av.str fun(_u145:Nat)=>[],av.b7 0 1 C (fun(_u144:Nat)=>(0:Nat)) (fun(_u143:Nat)=>(0:Nat)) fun(_u142:Nat)=>(0:Nat)] 2 165 F) (z.2.parts 2)/\∀(h0:Nat),¬SB.gB 0 (z.2.lists 1) h0)) (Fk ((x.1.length:Int)=1) (((0:Int)<=(0:Int)/\0<(x.1.length:Int))/\0<x.1.length/\((0:Int)<=(0:Int)/\0<(x.1.length:Int))/\0<x.1.length/\Fits {k:=(1:Int),p:=(x.1.getD 0 ([],[])).1,v:=(x.1.getD 0 ([],[])).2,r:=fun(h1:Nat)=>(c9 (λ_=>[]) []).getD h1 []:Nd}/\(aZ {k:=(1:Int),p:=(x.1.getD 0 ([],[])).1,v:=(x.1.getD 0 ([],[])).2,r:=fun(h2:Nat)=>(c9 (λ_=>[]) []).getD h2 []:Nd}=C->∀(a6:Nat),∃(A:Nat×Pd),Told A.2 (m+1+(1:Nat)) A.1 (cX (m+1) x.1)/\a6=A.1/\aa (SB.eD (fun(h3:Nat)=>h3.beq a6) [av.str fun(_u135:Nat)=>cZ {k:=(1:Int),p:=(x.1.getD 0 ([],[])).1,v:=(x.1.getD 0 ([],[])).2,r:=fun(h4:Nat)=>(c9 (λ_=>[]) []).getD h4 []:Nd},av.b7 0 1 C (fun(_u133:Nat)=>(0:Nat)) (fun(_u132:Nat)=>(0:Nat)) fun(_u131:Nat)=>(0:Nat)] 2 165 F) (A.2.parts 2)/\∀(h5:Nat),¬SB.gB 0 (A.2.lists 1) h5)/\(aZ {k:=(1:Int),p:=(x.1.getD 0 ([],[])).1,v:=(x.1.getD 0 ([],[])).2,r:=fun(h6:Nat)=>(c9 (λ_=>[]) []).getD h6 []:Nd}=F->∀(a7:Nat),∃(E:Nat×Pd),Told E.2 (m+1+(1:Nat)) E.1 (cX (m+1) x.1)/\a7=E.1/\aa (SB.eD (fun(h7:Nat)=>h7.beq a7) [av.str fun(_u125:Nat)=>[],av.b7 0 1 C (fun(_u124:Nat)=>(0:Nat)) (fun(_u123:Nat)=>(0:Nat)) fun(_u122:Nat)=>(0:Nat)] 2 165 F) (E.2.parts 2)/\∀(h8:Nat),¬SB.gB 0 (E.2.lists 1) h8)) (((0:Int)<=(0:Int)/\0<(x.1.length:Int))/\0<x.1.length/\I6 ((x.1.length:Int)-1)/\(0<=(x.1.length:Int)-1/\(x.1.length:Int)-1<(x.1.length:Int))/\0+((x.1.length:Int)-1).toNat<x.1.length/\(x.1.getD 0 ([],[])).1.length<9223372036854775807/\Fk (0<(↑(bL (x.1.getD 0 ([],[])).1 (x.1.getD (0+((x.1.length:Int)-1).toNat) ([],[])).1):Int)) (((0:Int)<=(0:Int)/\0<(x.1.length:Int))/\0<x.1.length/\I6 ((x.1.length:Int)-1)/\(0<=(x.1.length:Int)-1/\(x.1.length:Int)-1<(x.1.length:Int))/\0+((x.1.length:Int)-1).toNat<x.1.length/\(x.1.getD 0 ([],[])).1.length<9223372036854775807/\((0:Int)<=(0:Int)/\0<(x.1.length:Int))/\0<x.1.length/\((0:Int)<=(0:Int)/\0<=(↑(bL (x.1.getD 0 ([],[])).1 (x.1.getD (0+((x.1.length:Int)-1).toNat) ([],[])).1):Int)/\(↑(bL (x.1.getD 0 ([],[])).1 (x.1.getD (0+((x.1.length:Int)-1).toNat) ([],[])).1):Int)<=(↑(x.1.getD 0 ([],[])).1.length:Int))/\(((F=F/\0+x.1.length<=x.1.length)/\True/\True)/\0<=(↑(bL (x.1.getD 0 ([],[])).1 (x.1.getD (0+((x.1.length:Int)-1).toNat) ([],[])).1):Int)/\x.1.length<=1000/\∀(a8:Nat),a8<x.1.length->(↑(bL (x.1.getD 0 ([],[])).1 (x.1.getD (0+((x.1.length:Int)-1).toNat) ([],[])).1):Int).toNat<=(x.1.getD a8 ([],[])).1.length)/\∀(O:Nat),(cm (↑(bL (x.1.getD 0 ([],[])).1 (x.1.getD (0+((x.1.length:Int)-1).toNat) ([],[])).1):Int).toNat (aB x.1.length (fun(h9:Nat)=>(x.1.getD h9 ([],[])).1) fun(h_:Nat)=>(x.1.getD h_ ([],[])).2)).length<=O->∃(h:uE),(cc m h.l/\h.l.length<=1000/\m<=13/\h.nb<=h.cb/\(h.B++nC m h.l).length<=100000/\kZ h.P (m+1) h.nb h.f h.B)/\((cm (↑(bL (x.1.getD 0 ([],[])).1 (x.1.getD (0+((x.1.length:Int)-1).toNat) ([],[])).1):Int).toNat (aB x.1.length (fun(i0:Nat)=>(x.1.getD i0 ([],[])).1) fun(i1:Nat)=>(x.1.getD i1 ([],[])).2)).length=h.l.length/\O=h.c)/\aa (SB.rows F (cm (↑(bL (x.1.getD 0 ([],[])).1 (x.1.getD (0+((x.1.length:Int)-1).toNat) ([],[])).1):Int).toNat (aB x.1.length (fun(i2:Nat)=>(x.1.getD i2 ([],[])).1) fun(i3:Nat)=>(x.1.getD i3 ([],[])).2)).length [bU (cm (↑(bL (x.1.getD 0 ([],[])).1 (x.1.getD (0+((x.1.length:Int)-1).toNat) ([],[])).1):Int).toNat (aB x.1.length (fun(i4:Nat)=>(x.1.getD i4 ([],[])).1) fun(i5:Nat)=>(x.1.getD i5 ([],[])).2)),bV (cm (↑(bL (x.1.getD 0 ([],[])).1 (x.1.getD (0+((x.1.length:Int)-1).toNat) ([],[])).1):Int).toNat (aB x.1.length (fun(i6:Nat)=>(x.1.getD i6 ([],[])).1) fun(i7:Nat)=>(x.1.getD i7 ([],[])).2))] F (O*2) 174) (SB.rows F h.l.length [bU h.l,bV h.l] C (h.c*2) 174)/\h.nb=0/\(SB.rows C h.nb [av.ref 3 h.f] F (h.cb*1) 106).no=C/\(∀(i8:Nat),¬SB.gB 0 (h.P.parts 4) i8)/\(∀(i9:Nat),¬SB.gB 0 (h.P.lists 3) i9)/\∀(e:kY),e.nb<=e.cb/\kZ e.P (m+1) e.nb e.f (h.B++nC m h.l)->Fits {k:=(2:Int),p:=bX (x.1.getD 0 ([],[])).1 L (I (V 81)) 0 (↑(bL (x.1.getD 0 ([],[])).1 (x.1.getD (0+((x.1.length:Int)-1).toNat) ([],[])).1):Int),v:=[],r:=fun(i_:Nat)=>(jl m h.l::K15 (λ_=>[]) []).getD i_ []:Nd}/\(aZ {k:=(2:Int),p:=bX (x.1.getD 0 ([],[])).1 L (I (V 81)) 0 (↑(bL (x.1.getD 0 ([],[])).1 (x.1.getD (0+((x.1.length:Int)-1).toNat) ([],[])).1):Int),v:=[],r:=fun(j0:Nat)=>(jl m h.l::K15 (λ_=>[]) []).getD j0 []:Nd}=C->∀(Q:Nat),(∀(a9:Nat),e.P.D2 a9=C->(a9.beq Q&& !(C&&e.nb.beq 0))=F)->∀(R:Nat),(∀(a_:Nat),e.P.D a_=C->a_.beq R=F)->∃(G:Nat×Pd),Told G.2 (m+1+(1:Nat)) G.1 (cX (m+1) x.1)/\R=G.1/\aa (SB.eD (fun(b0:Nat)=>e.P.D b0||b0.beq R) [av.str λb1=>bif e.P.D b1 then e.P.dm b1 else cZ {k:=(2:Int),p:=bX (x.1.getD 0 ([],[])).1 L (I (V 81)) 0 (↑(bL (x.1.getD 0 ([],[])).1 (x.1.getD (0+((x.1.length:Int)-1).toNat) ([],[])).1):Int),v:=[],r:=fun(j1:Nat)=>(jl m h.l::K15 (λ_=>[]) []).getD j1 []:Nd},av.b7 (bif(id (bif(id 8).beq 9 then(8:Nat)else id 8)).beq 1 then(7:Nat)else id (bif(id 8).beq 9 then(8:Nat)else id 8)) 1 C (fun(b2:Nat)=>bif e.P.D b2 then e.P.fb b2 else Q) (fun(b3:Nat)=>bif e.P.D b3 then e.P.nb b3 else e.nb) fun(b4:Nat)=>bif e.P.D b4 then e.P.cb b4 else e.cb] 2 165 F) (G.2.parts 2)/\aa (SB.dQ (fun(b6:Nat)=>e.P.D2 b6||b6.beq Q&& !(C&&e.nb.beq 0)) (fun(b8:Nat)=>bif e.P.D2 b8 then e.P.n2 b8 else e.nb) [cg.ref (bif(id (bif(id 7).beq 9 then(8:Nat)else id 7)).beq 1 then(7:Nat)else id (bif(id 7).beq 9 then(8:Nat)else id 7)) fun(b i:Nat)=>bif e.P.D2 b then e.P.g b i else e.f i] F) (G.2.lists 1))/\(aZ {k:=(2:Int),p:=bX (x.1.getD 0 ([],[])).1 L (I (V 81)) 0 (↑(bL (x.1.getD 0 ([],[])).1 (x.1.getD (0+((x.1.length:Int)-1).toNat) ([],[])).1):Int),v:=[],r:=fun(j2:Nat)=>(jl m h.l::K15 (λ_=>[]) []).getD j2 []:Nd}=F->∀(S:Nat),(∀(b9:Nat),e.P.D2 b9=C->(b9.beq S&& !(C&&e.nb.beq 0))=F)->∀(T:Nat),(∀(b_:Nat),e.P.D b_=C->b_.beq T=F)->∃(H:Nat×Pd),Told H.2 (m+1+(1:Nat)) H.1 (cX (m+1) x.1)/\T=H.1/\aa (SB.eD (fun(c0:Nat)=>e.P.D c0||c0.beq T) [av.str λc1=>bif e.P.D c1 then e.P.dm c1 else [],av.b7 (bif(id (bif(id 8).beq 9 then(8:Nat)else id 8)).beq 1 then(7:Nat)else id (bif(id 8).beq 9 then(8:Nat)else id 8)) 1 C (fun(c2:Nat)=>bif e.P.D c2 then e.P.fb c2 else S) (fun(c3:Nat)=>bif e.P.D c3 then e.P.nb c3 else e.nb) fun(c4:Nat)=>bif e.P.D c4 then e.P.cb c4 else e.cb] 2 165 F) (H.2.parts 2)/\aa (SB.dQ (fun(c5:Nat)=>e.P.D2 c5||c5.beq S&& !(C&&e.nb.beq 0)) (fun(c6:Nat)=>bif e.P.D2 c6 then e.P.n2 c6 else e.nb) [cg.ref (bif(id (bif(id 7).beq 9 then(8:Nat)else id 7)).beq 1 then(7:Nat)else id (bif(id 7).beq 9 then(8:Nat)else id 7)) fun(b i:Nat)=>bif e.P.D2 b then e.P.g b i else e.f i] F) (H.2.lists 1))) ((∃(u:Nat×kY),(u.1<=16/\u.2.nb<=u.2.cb/\kZ u.2.P (m+1) u.2.nb u.2.f (gi m x.1 u.1))/\0=(u.1:Int)/\u.2.nb=0/\(SB.rows C u.2.nb [av.ref ((4:Nat)) u.2.f] F (u.2.cb*1) 106).no=C/\(∀(j3:Nat),¬SB.gB 0 (u.2.P.parts ((5:Nat))) j3)/\(∀(j4:Nat),¬SB.gB 0 (u.2.P.lists ((4:Nat))) j4)/\aa (SB.cells (SV.int .i64 C 3::SV.str C []::SV.str C []::Jo) 19 138) (SB.cells (SV.int .i64 F 3::SV.str F []::SV.str F []::c9 (λi=>R0 i u) []) 19 138))/\∀(a:Nat×kY),a.1<=16/\a.2.nb<=a.2.cb/\kZ a.2.P (m+1) a.2.nb a.2.f (gi m x.1 a.1)->Fk ((a.1:Int)<16) (∃(d:List Rw×Nat×Nat),d.1.length<=1000/\(x.1.length=d.1.length/\x.2=d.2.1)/\aa (SB.rows F x.1.length [bU x.1,bV x.1] C (x.2*2) 174) (SB.rows F d.1.length [bU d.1,bV d.1] C (d.2.1*2) 174)/\aa (SB.cells [SV.int .i64 F (a.1:Int)] 1 3) (w d)/\∀(j5:Nat),(bI d.2.2 d.1).length<=j5->I (w d)=I (SB.cells [SV.int .i64 F (a.1:Int)] 1 3)/\(((C=C/\0+(bI d.2.2 d.1).length<=(bI d.2.2 d.1).length)/\True/\True)/\(0:Int)<=(1:Int)/\(bI d.2.2 d.1).length<=1000/\∀(c7:Nat),c7<(bI d.2.2 d.1).length->1<=((bI d.2.2 d.1).getD c7 ([],[])).1.length)/\∀(U:Nat),(cm 1 (aB (bI d.2.2 d.1).length (fun(j6:Nat)=>((bI d.2.2 d.1).getD j6 ([],[])).1) fun(j7:Nat)=>((bI d.2.2 d.1).getD j7 ([],[])).2)).length<=U->I (w d)=I (w d)/\∃(j:uE),(cc m j.l/\j.l.length<=1000/\m<=13/\j.nb<=j.cb/\(j.B++nC m j.l).length<=100000/\kZ j.P (m+1) j.nb j.f j.B)/\((cm 1 (aB (bI d.2.2 d.1).length (fun(j8:Nat)=>((bI d.2.2 d.1).getD j8 ([],[])).1) fun(j9:Nat)=>((bI d.2.2 d.1).getD j9 ([],[])).2)).length=j.l.length/\U=j.c)/\aa (SB.rows F (cm 1 (aB (bI d.2.2 d.1).length (fun(j_:Nat)=>((bI d.2.2 d.1).getD j_ ([],[])).1) fun(k0:Nat)=>((bI d.2.2 d.1).getD k0 ([],[])).2)).length [bU (cm 1 (aB (bI d.2.2 d.1).length (fun(k1:Nat)=>((bI d.2.2 d.1).getD k1 ([],[])).1) fun(k2:Nat)=>((bI d.2.2 d.1).getD k2 ([],[])).2)),bV (cm 1 (aB (bI d.2.2 d.1).length (fun(k3:Nat)=>((bI d.2.2 d.1).getD k3 ([],[])).1) fun(k4:Nat)=>((bI d.2.2 d.1).getD k4 ([],[])).2))] F (U*2) 174) (SB.rows F j.l.length [bU j.l,bV j.l] C (j.c*2) 174)/\(a.2.nb=j.nb/\a.2.cb=j.cb)/\aa (SB.rows C a.2.nb [av.ref ((4:Nat)) a.2.f] F (a.2.cb*1) 106) (SB.rows C j.nb [av.ref 3 j.f] F (j.cb*1) 106)/\aa (SB.eD a.2.P.D [av.str a.2.P.dm,av.b7 ((5:Nat)) 1 C a.2.P.fb a.2.P.nb a.2.P.cb] 2 165 F) (j.P.parts 4)/\aa (SB.dQ a.2.P.D2 a.2.P.n2 [cg.ref ((4:Nat)) a.2.P.g] F) (j.P.lists 3)/\∀(q:kY),q.nb<=q.cb/\kZ q.P (m+1) q.nb q.f (j.B++nC m j.l)->I (w d)=I (w d)/\(0<=(a.1:Int)/\(a.1:Int)<16)/\(a.1:Int).toNat<16/\I6 ((a.1:Int)+1)/\∃(o:Nat×kY),((o.1<=16/\o.2.nb<=o.2.cb/\kZ o.2.P (m+1) o.2.nb o.2.f (gi m x.1 o.1))/\16-o.1<16-a.1)/\(a.1:Int)+1=(o.1:Int)/\(q.nb=o.2.nb/\q.cb=o.2.cb)/\aa (SB.rows C q.nb [av.ref 4 q.f] F (q.cb*1) 106) (SB.rows C o.2.nb [av.ref ((4:Nat)) o.2.f] F (o.2.cb*1) 106)/\aa (SB.eD q.P.D [av.str q.P.dm,av.b7 5 1 C q.P.fb q.P.nb q.P.cb] 2 165 F) (o.2.P.parts ((5:Nat)))/\aa (SB.dQ q.P.D2 q.P.n2 [cg.ref 4 q.P.g] F) (o.2.P.lists ((4:Nat)))/\aa (SB.cells (SV.int .i64 F 3::SV.str F []::SV.str F []::c9 (λi=>R1 i a j) []) 19 138) (SB.cells (SV.int .i64 F 3::SV.str F []::SV.str F []::c9 (λi=>R2 i o) []) 19 138)) (((0:Int)<=(0:Int)/\0<(x.1.length:Int))/\0<x.1.length/\Fk ((x.1.getD 0 ([],[])).1=[]) (((0:Int)<=(0:Int)/\0<(x.1.length:Int))/\0<x.1.length/\Fits {k:=(3:Int),p:=[],v:=(x.1.getD 0 ([],[])).2,r:=fun(k5:Nat)=>(c9 (lH m x.1 a.1) []).getD k5 []:Nd}/\(aZ {k:=(3:Int),p:=[],v:=(x.1.getD 0 ([],[])).2,r:=fun(k6:Nat)=>(c9 (lH m x.1 a.1) []).getD k6 []:Nd}=C->∀(W:Nat),(∀(c8:Nat),a.2.P.D2 c8=C->(c8.beq W&& !(C&&a.2.nb.beq 0))=F)->∀(X:Nat),(∀(c_:Nat),a.2.P.D c_=C->c_.beq X=F)->∃(J:Nat×Pd),Told J.2 (m+1+(1:Nat)) J.1 (cX (m+1) x.1)/\X=J.1/\aa (SB.eD (fun(d0:Nat)=>a.2.P.D d0||d0.beq X) [av.str λd1=>bif a.2.P.D d1 then a.2.P.dm d1 else cZ {k:=(3:Int),p:=[],v:=(x.1.getD 0 ([],[])).2,r:=fun(k7:Nat)=>(c9 (lH m x.1 a.1) []).getD k7 []:Nd},av.b7 (bif(id (bif(id ((5:Nat))).beq ((3:Nat))then(5:Nat)else id ((5:Nat)))).beq 1 then(4:Nat)else id (bif(id ((5:Nat))).beq ((3:Nat))then(5:Nat)else id ((5:Nat)))) 1 C (fun(d2:Nat)=>bif a.2.P.D d2 then a.2.P.fb d2 else W) (fun(d3:Nat)=>bif a.2.P.D d3 then a.2.P.nb d3 else a.2.nb) fun(d4:Nat)=>bif a.2.P.D d4 then a.2.P.cb d4 else a.2.cb] 2 165 F) (J.2.parts 2)/\aa (SB.dQ (fun(d5:Nat)=>a.2.P.D2 d5||d5.beq W&& !(C&&a.2.nb.beq 0)) (fun(d6:Nat)=>bif a.2.P.D2 d6 then a.2.P.n2 d6 else a.2.nb) [cg.ref (bif(id (bif(id ((4:Nat))).beq ((3:Nat))then(5:Nat)else id ((4:Nat)))).beq 1 then(4:Nat)else id (bif(id ((4:Nat))).beq ((3:Nat))then(5:Nat)else id ((4:Nat)))) fun(b i:Nat)=>bif a.2.P.D2 b then a.2.P.g b i else a.2.f i] F) (J.2.lists 1))/\(aZ {k:=(3:Int),p:=[],v:=(x.1.getD 0 ([],[])).2,r:=fun(k8:Nat)=>(c9 (lH m x.1 a.1) []).getD k8 []:Nd}=F->∀(Y:Nat),(∀(d7:Nat),a.2.P.D2 d7=C->(d7.beq Y&& !(C&&a.2.nb.beq 0))=F)->∀(Z:Nat),(∀(d8:Nat),a.2.P.D d8=C->d8.beq Z=F)->∃(K:Nat×Pd),Told K.2 (m+1+(1:Nat)) K.1 (cX (m+1) x.1)/\Z=K.1/\aa (SB.eD (fun(d9:Nat)=>a.2.P.D d9||d9.beq Z) [av.str λd_=>bif a.2.P.D d_ then a.2.P.dm d_ else [],av.b7 (bif(id (bif(id ((5:Nat))).beq ((3:Nat))then(5:Nat)else id ((5:Nat)))).beq 1 then(4:Nat)else id (bif(id ((5:Nat))).beq ((3:Nat))then(5:Nat)else id ((5:Nat)))) 1 C (fun(e0:Nat)=>bif a.2.P.D e0 then a.2.P.fb e0 else Y) (fun(e1:Nat)=>bif a.2.P.D e1 then a.2.P.nb e1 else a.2.nb) fun(e2:Nat)=>bif a.2.P.D e2 then a.2.P.cb e2 else a.2.cb] 2 165 F) (K.2.parts 2)/\aa (SB.dQ (fun(e3:Nat)=>a.2.P.D2 e3||e3.beq Y&& !(C&&a.2.nb.beq 0)) (fun(e4:Nat)=>bif a.2.P.D2 e4 then a.2.P.n2 e4 else a.2.nb) [cg.ref (bif(id (bif(id ((4:Nat))).beq ((3:Nat))then(5:Nat)else id ((4:Nat)))).beq 1 then(4:Nat)else id (bif(id ((4:Nat))).beq ((3:Nat))then(5:Nat)else id ((4:Nat)))) fun(b i:Nat)=>bif a.2.P.D2 b then a.2.P.g b i else a.2.f i] F) (K.2.lists 1))) (Fits {k:=(3:Int),p:=[],v:=[],r:=fun(k9:Nat)=>(c9 (lH m x.1 a.1) []).getD k9 []:Nd}/\(aZ {k:=(3:Int),p:=[],v:=[],r:=fun(k_:Nat)=>(c9 (lH m x.1 a.1) []).getD k_ []:Nd}=C->∀(a0:Nat),(∀(e5:Nat),a.2.P.D2 e5=C->(e5.beq a0&& !(C&&a.2.nb.beq 0))=F)->∀(a1:Nat),(∀(e6:Nat),a.2.P.D e6=C->e6.beq a1=F)->∃(M:Nat×Pd),Told M.2 (m+1+(1:Nat)) M.1 (cX (m+1) x.1)/\a1=M.1/\aa (SB.eD (fun(e7:Nat)=>a.2.P.D e7||e7.beq a1) [av.str λe8=>bif a.2.P.D e8 then a.2.P.dm e8 else cZ {k:=(3:Int),p:=[],v:=[],r:=fun(l0:Nat)=>(c9 (lH m x.1 a.1) []).getD l0 []:Nd},av.b7 (bif(id (bif(id ((5:Nat))).beq ((3:Nat))then(5:Nat)else id ((5:Nat)))).beq 1 then(4:Nat)else id (bif(id ((5:Nat))).beq ((3:Nat))then(5:Nat)else id ((5:Nat)))) 1 C (fun(e9:Nat)=>bif a.2.P.D e9 then a.2.P.fb e9 else a0) (fun(e_:Nat)=>bif a.2.P.D e_ then a.2.P.nb e_ else a.2.nb) fun(f0:Nat)=>bif a.2.P.D f0 then a.2.P.cb f0 else a.2.cb] 2 165 F) (M.2.parts 2)/\aa (SB.dQ (fun(f1:Nat)=>a.2.P.D2 f1||f1.beq a0&& !(C&&a.2.nb.beq 0)) (fun(f2:Nat)=>bif a.2.P.D2 f2 then a.2.P.n2 f2 else a.2.nb) [cg.ref (bif(id (bif(id ((4:Nat))).beq ((3:Nat))then(5:Nat)else id ((4:Nat)))).beq 1 then(4:Nat)else id (bif(id ((4:Nat))).beq ((3:Nat))then(5:Nat)else id ((4:Nat)))) fun(b i:Nat)=>bif a.2.P.D2 b then a.2.P.g b i else a.2.f i] F) (M.2.lists 1))/\(aZ {k:=(3:Int),p:=[],v:=[],r:=fun(l1:Nat)=>(c9 (lH m x.1 a.1) []).getD l1 []:Nd}=F->∀(a2:Nat),(∀(f3:Nat),a.2.P.D2 f3=C->(f3.beq a2&& !(C&&a.2.nb.beq 0))=F)->∀(u9:Nat),(∀(u8:Nat),a.2.P.D u8=C->u8.beq u9=F)->∃(N:Nat×Pd),Told N.2 (m+1+(1:Nat)) N.1 (cX (m+1) x.1)/\u9=N.1/\aa (SB.eD (fun(u6:Nat)=>a.2.P.D u6||u6.beq u9) [av.str λu5=>bif a.2.P.D u5 then a.2.P.dm u5 else [],av.b7 (bif(id (bif(id ((5:Nat))).beq ((3:Nat))then(5:Nat)else id ((5:Nat)))).beq 1 then(4:Nat)else id (bif(id ((5:Nat))).beq ((3:Nat))then(5:Nat)else id ((5:Nat)))) 1 C (fun(u4:Nat)=>bif a.2.P.D u4 then a.2.P.fb u4 else a2) (fun(u3:Nat)=>bif a.2.P.D u3 then a.2.P.nb u3 else a.2.nb) fun(u2:Nat)=>bif a.2.P.D u2 then a.2.P.cb u2 else a.2.cb] 2 165 F) (N.2.parts 2)/\aa (SB.dQ (fun(u1:Nat)=>a.2.P.D2 u1||u1.beq a2&& !(C&&a.2.nb.beq 0)) (fun(u0:Nat)=>bif a.2.P.D2 u0 then a.2.P.n2 u0 else a.2.nb) [cg.ref (bif(id (bif(id ((4:Nat))).beq ((3:Nat))then(5:Nat)else id ((4:Nat)))).beq 1 then(4:Nat)else id (bif(id ((4:Nat))).beq ((3:Nat))then(5:Nat)else id ((4:Nat)))) fun(b i:Nat)=>bif a.2.P.D2 b then a.2.P.g b i else a.2.f i] F) (N.2.lists 1)))))))))) (fun(d:List Rw×Nat×Nat)=>(SB.cells [SV.int .i64 F (d.2.2:Int)] 1 3)))) (fun(n0:Nat) (o:Nat×kY)=>SV.str F (lH m x.1 o.1 n0)))) (fun(n0:Nat) (a:Nat×kY) (j:uE)=>SV.str F (if(a.1:Int).toNat=n0 then jl m j.l else lH m x.1 a.1 n0)))) (fun(n0:Nat) (u:Nat×kY)=>SV.str F (lH m x.1 u.1 n0))):=⟨by kernel_rfl,by kernel_rfl⟩
theorem wP (hm:m<=12)(h:cc (m+1) l):Fits (bF (m+1) l):=λj hj=>by
 rw[p4 m l hj];split
 ·decide
 ·rename_i hk;have:=LC (p6 (m:=m) (by omega) (fL h j) hk);omega
theorem Z0 (hk:0<bL r.1 ((s::t).getLastD r).1):bF (m+1) (r::s::t)=⟨2,r.1.take (bL r.1 ((s::t).getLastD r).1),[],bN (jl m (cm (bL r.1 ((s::t).getLastD r).1) (r::s::t)))⟩:=by show fP _ (r::s::t)=_;unfold fP;dsimp only;rw[r_ hk,cq,r_ hk,r_ rfl];rfl
theorem MU (hk: ¬ 0<bL r.1 ((s::t).getLastD r).1):bF (m+1) (r::s::t)=⟨3,[],if r.1=[] then r.2 else [],dK (lH m (r::s::t) 16)⟩:=by show fP _ (r::s::t)=_;unfold fP;dsimp only;rw[s_ hk];rfl
theorem RJ (hk:0<bL r.1 ((s::t).getLastD r).1):cR (m+1) (r::s::t)=nC m (cm (bL r.1 ((s::t).getLastD r).1) (r::s::t)):=by
 rw[oF];have: ∀ i,gi m (r::s::t) (i+1)=nC m (cm (bL r.1 ((s::t).getLastD r).1) (r::s::t)):=λi=>by
  induction i with
  | zero=>rw[jh,cq,r_ hk,r_ rfl];rfl
  | succ i ih =>rw[jh,ih,cq,r_ hk,s_ (Nat.succ_ne_zero i)];show _++[]=_;rw[c7]
 exact this 15
theorem BL (h: ∀ i,aG l i=[]):cR (m+1) l=[]:=by
 rw[oF];have: ∀ i,gi m l i=[]:=λi=>by
  induction i with
  | zero=>rfl
  | succ i ih=>rw[jh,ih,h i];rfl
 exact this 16
theorem GK (P:Pd)(d:Nat)(f:Nat->Nat):kZ P d 0 f []:=⟨[],rfl,rfl,λi L' hi=>by simp at hi⟩
def Pd.none:Pd:={D:=λ_=>F,dm:=λ_=>[],fb:=λ_=>0,nb:=λ_=>0,cb:=λ_=>0,D2:=λ_=>F,n2:=λ_=>0,g:=λ_ _=>0}
theorem xx (k a:Nat): ¬ SB.gB 0 (Pd.none.parts k) a:=λh=>a_ (show F=C from h)
theorem xw (k a:Nat): ¬ SB.gB 0 (Pd.none.lists k) a:=λh=>a_ (show F=C from h)
theorem wQ {tot:Nat}{dm:Nat->f_}{fb nb cb:Nat->Nat}:aa (.eD D [.str dm,.b7 k 1 C fb nb cb] tot ty F) (.eD D [.str dm,.b7 k' 1 C fb nb cb] tot ty F) :=⟨rfl,λ_ a h=>⟨h,λE o hb=>((aa.cells (cs:=[(av.str dm).at a,(av.b7 k 1 C fb nb cb).at a]) (cs':=[(av.str dm).at a,(av.b7 k' 1 C fb nb cb).at a]) (tot:=tot) (ty:=ty) (λ_=>rfl) rfl).old rfl).2.1 E o hb,id⟩⟩
theorem BP {t:f_}(ht:t=ctext (m+1) l)(hb:cR (m+1) l=[])(a:Nat): ∃(x:Nat×Pd),Told x.2 (m+1+1) x.1 (cX (m+1) l)/\a=x.1/\
  aa (.eD (λb=>b.beq a) [.str λ_=>t,.b7 0 1 C (λ_=>0) (λ_=>0) λ_=>0] 2 165 F) (x.2.parts 2)/\∀ a,¬ SB.gB 0 (x.2.lists 1) a:=by
 refine⟨(a,Pd.leaf a t),?_,rfl,wQ,λb h=>a_ (show F=C from h)⟩
 have:=TR (m+1) a t;unfold cX;rw[hb,← ht];exact this
theorem Sg (r:Rw)(t:List Rw):(r::t).getD t.length ([],[])=t.getLastD r:=by
 rw[Q,List.getLastD_eq_getLast?,List.getLast?_eq_getElem?];cases t with
 | nil=>rfl
 | cons s t=>simp
theorem Cg {n:Nat->Nat}{g:Nat->Nat->Nat}:aa (.dQ D n [.ref k g] F) (.dQ D n [.ref k' g] F) :=
 ⟨rfl,λ_ a h=>⟨h,λE o ⟨c,ty,fr,h1,h2⟩=>⟨c,ty,fr,h1,λi j col hi hj=>by
  match j,hj with
  | 0,hj=>cases hj;have e:=h2 i 0 (cg.at a (.ref k g)) hi rfl;exact e
  | j+1,hj=>simp at hj⟩,id⟩⟩
theorem yB {a a1 nb cb k2:Nat}{t:f_}{P:Pd}{f:Nat->Nat}{B:List f_}(ht:t=ctext (m+1) l)(hb:cR (m+1) l=B)(hd2: ∀ b,P.D2 b=C->(b.beq a&& !(C&&nb.beq 0))=F)(hd: ∀ b,P.D b=C->b.beq a1=F)(h:kZ P (m+1) nb f B) :
  ∃(x:Nat×Pd),Told x.2 (m+1+1) x.1 (cX (m+1) l)/\a1=x.1/\
   aa (.eD (λb=>P.D b||b.beq a1) [.str λb=>bif P.D b then P.dm b else t,.b7 k 1 C (λb=>bif P.D b then P.fb b else a) (λb=>bif P.D b then P.nb b else nb) λb=>bif P.D b then P.cb b else cb] 2 165 F) (x.2.parts 2)/\
   aa (.dQ (λb=>P.D2 b||b.beq a&& !(C&&nb.beq 0)) (λb=>bif P.D2 b then P.n2 b else nb) [.ref k2 λb i=>bif P.D2 b then P.g b i else f i] F) (x.2.lists 1):=by
 refine⟨(a1,P.top a a1 t nb cb f),?_,rfl,wQ,Cg⟩;have:=YA (cb:=cb) (t:=t) hd hd2 h;unfold cX;rw[hb,← ht];exact this
theorem ue {z:Bool}{tot:Nat}{cs:List av}:aa (.rows z n cs F tot ty) (.rows z n cs C tot ty) :=aa.of rfl rfl λhno=>⟨hno,λE o ⟨c,fr,h1,_,h3⟩=>⟨c,fr,h1,λh=>(by cases h),h3⟩,λh=>(by cases h)⟩
theorem LJ {n' c c':Nat}{f f':Nat->Nat}(hn:n=n')(hc:c=c')(hf: ∀ i,i<n->f i=f' i):aa (.rows C n [.ref k f] F (c*1) ty) (.rows C n' [.ref k' f'] F (c'*1) ty):=by
 refine kW hn (by rw[hc]) rfl λj d d' h1 h2 i hi E=> ?_
 match j,h1,h2 with
 | 0,h1,h2 =>injection h1 with h1;injection h2 with h2;subst h1;subst h2;show(SV.ga k' (f' i) 0).val E=(SV.ga k (f i) 0).val E;rw[hf i hi];rfl
 | j+1,h1,_=>simp at h1
theorem XY (m:Nat)(l:List Rw)(i j:Nat):(if i=j then jl m (aG l i)else lH m l i j)=lH m l (i+1) j:=by
 unfold lH;by_cases h:i=j
 ·subst h;rw[r_ rfl,r_ (Nat.lt_succ_self _)]
 ·rw[s_ h];by_cases h2:j<i
  ·rw[r_ h2,r_ (by omega)]
  ·rw[s_ h2,s_ (by omega)]
theorem JD (m:Nat)(x:List Rw×Nat)(hx:(yA (m+1)).pre x):ay (runM (PE m x.1) 63 b5 (yA (m+1)) x):=by
 refine ay.A5 (abm m x) (by delta Fk;exact rfl) ?_;obtain⟨h1,h2,h3⟩:=hx;obtain⟨l,c⟩:=x;have h1:cc (m+1) l:=h1;have h2:l.length<=1000:=h2;simp only[b6,b!,true_and,p_,q_];refine⟨λh0=> ?_,λh0=>⟨λh5=> ?_,λh5=> ?_⟩⟩
 ·have hl:l=[]:=List.length_eq_zero_iff.1 (by omega);subst hl;exact⟨wP (m:=m) (l:=[]) (by omega) h1,λ_ a=>BP (m:=m) (l:=[]) rfl (BL λ_=>rfl) a,λhv=>absurd (Ee (m+1)) (by rw[show aZ (bF (m+1) [])=F from hv];decide)⟩
 ·obtain⟨r,hr⟩: ∃ r,l=[r]:=List.length_eq_one_iff.1 (by omega);subst hr;refine⟨⟨Int.le_refl 0,c5⟩,en,⟨Int.le_refl 0,c5⟩,en,wP (m:=m) (l:=[r]) (by omega) h1,λ_ a=>BP (m:=m) (l:=[r]) rfl (BL λ_=>rfl) a,λhv=> ?_⟩;have:=dw (m:=m+1) (l:=[r]) (by omega) h1 (b9 _ _);rw[show aZ (bF (m+1) [r])=F from hv] at this;cases this
 ·obtain⟨r,s,t,hl⟩: ∃ r s t,l=r::s::t:=by
   match l,h0,h5 with
   | [],h0,_=>exact absurd rfl h0
   | [_],_,h5=>exact absurd rfl h5
   | r::s::t,_,_=>exact⟨r,s,t,rfl⟩
  have hpos:0<l.length:=by rw[hl];exact ep _
  have hr:l.getD 0 ([],[])=r:=by rw[hl];rfl
  have he:l.getD ((l.length:Int)-1).toNat ([],[])=(s::t).getLastD r:=by
   have:((l.length:Int)-1).toNat=(s::t).length:=by rw[hl,List.length_cons];omega
   rw[this,hl];exact Sg r (s::t)
  have hrl:=h1.len r (by rw[hl];exact d! ..);rw[hr,he];refine⟨⟨by omega,by omega⟩,hpos,⟨by omega,by omega⟩,⟨by omega,by omega⟩,by omega,by omega,λhk=> ?_,λhk=> ?_⟩
  ·have hc:=(Bd r.1 ((s::t).getLastD r).1).1;rw[FT];have hrc: ∀ x,x∈ l->bL r.1 ((s::t).getLastD r).1<=x.1.length:=λx hx=>by have:=uc (by rw[← hl];exact h1.zG) (x:=x) (by rw[← hl];exact hx);have:=congrArg List.length this;rw[c!,c!] at this;omega
   refine⟨⟨by omega,by omega⟩,hpos,⟨by omega,by omega⟩,⟨by omega,by omega⟩,by omega,by omega,⟨by omega,by omega⟩,hpos,⟨by omega,by omega,by omega⟩,⟨?_,?_⟩,λc' hc'=> ?_⟩
   ·simp
   ·exact⟨by omega,h2,λi hi=>hrc _ (by rw[Q,W hi];exact Z hi)⟩
   ·have hkid:aG l 0=cm (bL r.1 ((s::t).getLastD r).1) l:=by rw[hl,cq,r_ (by omega),r_ rfl]
    have hR:=fL h1 0;rw[hkid] at hR;have hlen:(cm (bL r.1 ((s::t).getLastD r).1) l).length=l.length:=c_ _;have hB:=CG m (cm (bL r.1 ((s::t).getLastD r).1) l);have hB':(m+1)*l.length<=13*1000:=ek (by omega) h2;rw[hlen] at hB;refine⟨⟨_,c',0,0,λ_=>0,Pd.none,[]⟩,⟨hR,by show(cm _ l).length<=_;omega,by omega,T _,by rw[List.nil_append];show(nC m (cm _ l)).length<=_;omega,GK _ _ _⟩,⟨rfl,rfl⟩,ue,rfl,rfl,xx _,xw _,λy hy=> ?_⟩;have e:bF (m+1) l=⟨2,r.1.take (bL r.1 ((s::t).getLastD r).1),[],bN (jl m (cm (bL r.1 ((s::t).getLastD r).1) l))⟩:=by rw[hl];exact Z0 (by omega)
    have es:bX r.1 L (I (V 81)) 0 (bL r.1 ((s::t).getLastD r).1:Int)=r.1.take (bL r.1 ((s::t).getLastD r).1):=by unfold bX;simp
    have eb:cR (m+1) l=nC m (cm (bL r.1 ((s::t).getLastD r).1) l):=by rw[hl];exact RJ (by omega)
    have hv:=dw (m:=m+1) (l:=l) (by omega) h1 (by rw[hl];exact b9 _ _);have hf:=wP (m:=m) (l:=l) (by omega) h1;rw[e] at hf hv;rw[es];exact⟨hf,λ_ a hd2 a1 hd=>yB (l:=l) (congrArg cZ e).symm eb hd2 hd hy.2,λhn=>absurd (hv.symm.trans hn) (by decide)⟩
  ·refine⟨⟨(0,⟨0,0,λ_=>0,Pd.none⟩),⟨cl _,T _,GK _ _ _⟩,rfl,rfl,rfl,xx _,xw _,aa.cells (λ_=>rfl) rfl⟩,λy hy=>⟨λh=> ?_,λh=> ?_⟩⟩
   ·obtain⟨y1,y2,y3⟩:=hy;have hkid:aG l y.1=cm 1 (bI y.1 l):=by rw[hl,cq,s_ (by omega)]
    have hR:=fL h1 y.1;have hbl:=Jx m l (y.1+1);rw[jh] at hbl;rw[hkid] at hR hbl;have hB':(m+1)*l.length<=13*1000:=ek (by omega) h2;have hcl:(bI y.1 l).length<=l.length:=List.length_filter_le _ _;have hdl:(cm 1 (bI y.1 l)).length=(bI y.1 l).length:=c_ _;refine⟨(l,c,y.1),h2,⟨rfl,rfl⟩,aa.refl _,aa.refl _,λc1 hc1=>⟨rfl,⟨by simp,by decide,by show(bI y.1 l).length<=_;omega,λi hi=> ?_⟩,λc2 hc2=> ?_⟩⟩
    ·have hm:(bI y.1 l).getD i ([],[])∈ bI y.1 l:=by rw[Q,W hi];exact Z hi
     have hh:=(List.mem_filter.1 hm).2;show 1<=((bI y.1 l).getD i ([],[])).1.length;cases hp:((bI y.1 l).getD i ([],[])).1 with
     | nil=>rw[hp] at hh;cases hh
     | cons b q=>exact ep _
    ·rw[FT];refine⟨⟨cm 1 (bI y.1 l),c2,y.2.nb,y.2.cb,y.2.f,y.2.P,gi m l y.1⟩,⟨hR,by show(cm 1 _).length<=_;omega,by omega,y2,by show(gi m l y.1++nC m (cm 1 (bI y.1 l))).length<=_;omega,y3⟩,⟨rfl,rfl⟩,ue,⟨rfl,rfl⟩,LJ rfl rfl λ_ _=>rfl,wQ,Cg,λv hv=> ?_⟩;have hW:kZ v.P (m+1) v.nb v.f (gi m l (y.1+1)):=by rw[jh,hkid];exact hv.2
     refine⟨⟨by omega,by omega⟩,by omega,⟨by omega,by omega⟩,(y.1+1,v),⟨⟨by show y.1+1<=16;omega,hv.1,hW⟩,by show 16-(y.1+1)<_;omega⟩,by show(y.1:Int)+1=((y.1+1:Nat):Int);omega,⟨rfl,rfl⟩,LJ rfl rfl λ_ _=>rfl,wQ,Cg,?_⟩;rw[← hkid];simp only[XY];exact aa.cells (λ_=>rfl) rfl
   ·obtain⟨y1,y2,y3⟩:=hy;have hy:y.1=16:=by omega
    rw[hy] at y3 ⊢;have e:bF (m+1) l=⟨3,[],if r.1=[] then r.2 else [],dK (lH m l 16)⟩:=by rw[hl];exact MU (by omega)
    have hv:=dw (m:=m+1) (l:=l) (by omega) h1 (by rw[hl];exact b9 _ _);have hf:=wP (m:=m) (l:=l) (by omega) h1;rw[e] at hf hv;refine⟨⟨by omega,by omega⟩,hpos,λhn=> ?_,λhn=> ?_⟩
    ·rw[r_ hn] at e hf hv;exact⟨⟨by omega,by omega⟩,hpos,hf,λ_ a hd2 a1 hd=>yB (l:=l) (congrArg cZ e).symm (oF m l) hd2 hd y3,λhx=>absurd (hv.symm.trans hx) (by decide)⟩
    ·rw[s_ hn] at e hf hv;exact⟨hf,λ_ a hd2 a1 hd=>yB (l:=l) (congrArg cZ e).symm (oF m l) hd2 hd y3,λhx=>absurd (hv.symm.trans hx) (by decide)⟩
theorem UJ (h:ax O 101 (cM (sk m))):ax O 63 (cM (yA (m+1))) :=fT (n:=20) Tryz.func63 (by kernel_rfl) (by kernel_rfl) (yA (m+1)) λx hx=>⟨PE m x.1,adr h x.1,by rfl,JD m x hx⟩
theorem EV: ∀ m:Nat,ax O 63 (pZ m)
 | 0=>MN
 | m+1=>UJ (aan (EV m))
end
namespace Sx
open Go
noncomputable section
def iR (N nx k:Nat):Nat:=match an k N with
 | true=>k
 | false=>nx+k
structure mK where
 G:Type
 N:Nat
 H:Nat
 pre:G->Prop
 args:G->List SV
 mem:G->Mem
 val:G->SV
 B:Type
 post:G->B->Prop
 back:G->B->Mem
def FV (H:Nat):Mem->Bool
 | []=>C
 | e::r=>an e.1 H&&FV H r
theorem y9 {H:Nat}: ∀ {m:Mem} {k:Nat} {B:SB},FV H m=C->m.get k=I B->k<H
 | [],_,_,_,h=>by cases h
 | e::r,k,B,hb,h=>by
   simp only[FV,cD,aC] at hb;by_cases he:e.1=k
   ·rw[← he];exact hb.1
   ·rw[Mem.get,s_ he] at h;exact y9 hb.2 h
def ye:SV->Option Nat
 | .yield k=>I k
 | _=>L
theorem AX {v:SV}(h:ye v=I k):v=.yield k:=by
 unfold ye at h;split at h
 ·injection h with h;rw[h]
 ·cases h
def gW (base:Nat):List SV->List SV->Ren->(Ren->VC)->VC
 | [],[],aM,t=>t aM
 | h::hs,u::us,aM,t=>(match ye h,ye u with
   | some a,I b=>(match S a b,an a base with
     | true,C=>gW base hs us aM t
     | _,_=>.fail "call: another yield")
   | _,_=>sR base aM h u (λaM=>gW base hs us aM t))
 | _,_,_,_=>.fail "call: so many arguments"
theorem lW {base:Nat}: ∀ {hs us:List SV} {aM:Ren} {t:Ren->VC},(gW base hs us aM t).holds->
  ∃ ren',aM.le ren'/\(t ren').holds/\∀ ren'' (E:Nat->Nat),ren'.le ren''->SV.vals (Ren.E base ren'' E) hs=SV.vals E us
 | [],[],aM,t,h=>⟨aM,Ren.le_refl _,h,λ_ _ _=>rfl⟩
 | h::hs,u::us,aM,t,hh=>by
   simp only[gW] at hh;split at hh
   ·rename_i a b ha hb;split at hh
    ·rename_i e1 e2;obtain rfl:=aN e1;have e2:a<base:=by simpa [aC] using e2
     obtain⟨r2,g1,g2,g3⟩:=lW hh;refine⟨r2,g1,g2,λr'' E hle=> ?_⟩;rw[AX ha,AX hb];simp only[SV.vals,SV.val,g3 r'' E hle,Ren.Ac e2]
    ·exact hh.elim
   ·obtain⟨r1,h1,h2,h3⟩:=qK hh;obtain⟨r2,g1,g2,g3⟩:=lW h2;exact⟨r2,Ren.le_trans h1 g1,g2,λr'' E hle=>by simp only[SV.vals];rw[h3 r'' E (Ren.le_trans g1 hle),g3 r'' E hle]⟩
 | [],_::_,_,_,h=>h.elim
 | _::_,[],_,_,h=>h.elim
theorem nq {base:Nat}: ∀ {a b:List SV} {aM:Ren} {t t':Ren->VC},(∀ r,(t r).holds->(t' r).holds)->(gW base a b aM t).holds->(gW base a b aM t').holds
 | [],[],_,_,_,ht,h=>ht _ h
 | x::a,y::b,aM,t,t',ht,h=>by
   simp only[gW] at h ⊢;split at h
   ·split at h
    ·exact nq ht h
    ·exact h.elim
   ·exact AJ (λ_ h=>nq ht h) h
 | [],_::_,_,_,_,_,h=>h.elim
 | _::_,[],_,_,_,_,h=>h.elim
def mK.ok (c:mK)(x:c.G):Bool:=M c.N c.H&&(FV c.H (c.mem x)&&(Mem.wf c.H (c.mem x)&&SV.fH c.H (c.args x)))
def mK.rW (c:mK)(x:c.G)(nx:Nat)(K:SV->Mem->Nat->VC):VC:=.all c.B λy=>.imp (c.post x y) (match FV c.H (c.back x y)with
 | true=>K ((c.val x).Tr (iR c.N nx)) (EG (iR c.N nx) (c.back x y)) (nx+c.H)
 | false=>.fail "call: keys")
theorem mK.mz {c:mK}{x:c.G}{nx:Nat}{K K':SV->Mem->Nat->VC}(hK: ∀ v m nx,(K v m nx).holds->(K' v m nx).holds)(h:(c.rW x nx K).holds):(c.rW x nx K').holds:=by
 intro y hy;have h:=h y hy;cases hb:FV c.H (c.back x y)with
 | false=>rw[hb] at h;exact h.elim
 | true=>rw[hb] at h;exact hK _ _ _ h
def k8 (c:mK):PT:=λargs m nx K=>.ex c.G λx=>.and (.atom (c.pre x)) (match M c.N nx,c.ok x with
 | true,C=>gW c.N (c.args x) args [] λaM=>fz c.N m (c.mem x) [] aM λ_=>c.rW x nx K
 | _,_=>.fail "call: keys")
theorem vo (c:mK):aQ (k8 c):=by
 intro args m nx K K' hK h;obtain⟨x,h1,h2⟩:=h;refine⟨x,h1,?_⟩;show VC.holds _
 have h2:VC.holds (match M c.N nx,c.ok x with
  | true,C=>gW c.N (c.args x) args [] λaM=>fz c.N m (c.mem x) [] aM λ_=>c.rW x nx K
  | _,_=>.fail "call: keys"):=h2
 revert h2;cases M c.N nx with
 | false=>exact id
 | true=>cases c.ok x with
   | false=>exact id
   | true=>exact nq λaM h=>gN (λ_ h=>mK.mz hK h) h
def mK.fit (c:mK)(x:c.G):SV->Mem->Nat->VC:=λv m _=>.ex c.B λy=>.and (.atom (c.post x y)) (lJ c.N [c.val x] [v] [] λaM=>fz c.N m (c.back x y) [] aM λ_=>.tt)
section
variable {P : Program}
theorem aJ.Yy {E m nx w}(h:aJ Γ E m nx w)(hΓ:Γ.rj<=n)(hnN:n<=N){aM:Ren}{m2:Mem}(hb: ∀ kh B',m2.get kh=I B'->BD n m [] aM kh B')
  (hi: ∀ kh kh' B B' k1,m2.get kh=I B->(∃ b a,B.gB b a)->m2.get kh'=I B'->(∃ b a,B'.gB b a)->dM n aM kh=I k1->dM n aM kh'=I k1->kh=kh') (hlt: ∀ kh B',m2.get kh=I B'->kh<N) :
  aJ Γ (Ren.E n aM E) m2 N w:=by
 have hE: ∀ kh k1,dM n aM kh=I k1->Ren.E n aM E kh=E k1:=λkh k1 hr=>by simp[Ren.E,hr]
 have hg: ∀ {kh B' a},m2.get kh=I B'->B'.gB (Ren.E n aM E kh) a->∃ k1 B,dM n aM kh=I k1/\m.get k1=I B/\B.gB (E k1) a/\(∀ E1 o,bK E1 (B.el a) o->bK (Ren.E n aM E1) (B'.el a) o)/\(B'.ro=F->B.ro=F):=λ{kh B' a} hg ha=>by obtain⟨k1,B,g1,_,g3,g4,g5,g6⟩:=hb kh B' hg _ a ha;exact⟨k1,B,g1,g3,by rw[← hE kh k1 g1];exact g4,g5,g6⟩
 refine⟨λkh B' a hk ha=> ?_,λkh kh' B B' a hk ha hk' ha' hr=> ?_,hlt,λkh B' a hk ha hro=> ?_,h.ext,⟨b_ hΓ hnN,λk hk=>(Ren.Ac (aO hk hΓ)).trans (h.cx.2 k hk)⟩,h.kp⟩
 ·obtain⟨k1,X,_,q3,q4,q5,_⟩:=hg hk ha;obtain⟨o,ho,hbo⟩:=h.hJ k1 X a q3 q4;exact⟨o,ho,q5 E o hbo⟩
 ·obtain⟨k1,X,g1,g3,g5,_,g7⟩:=hg hk ha;obtain⟨k1',X',g1',g3',g5',_,g7'⟩:=hg hk' ha';have:=h.iw k1 k1' X X' a g3 g5 g3' g5' (hr.imp g7 g7');subst this;exact hi kh kh' B B' k1 hk ⟨_,_,ha⟩ hk' ⟨_,_,ha'⟩ g1 g1'
 ·obtain⟨k1,X,_,g3,g5,_,g7⟩:=hg hk ha;exact h.iT k1 X a g3 g5 (g7 hro)
theorem aJ.agp {Θ Δ:aT}{E E3:Nat->Nat}{m2:Mem}{H nx:Nat}{w':World}(h:aJ Θ E3 m2 H w')(hw0:Δ.w0=Θ.w0)(hm0:Δ.M0=Θ.M0)(hk0:Δ.keep=Θ.keep)(hΔ:Δ.rj<=nx)(hE0: ∀ k,k<Δ.rj->E k=Δ.E0 k)
  (hN:N<=nx) (hlow: ∀ k,k<N->E3 k=E k) :
  (∀ k,j9 nx E E3 (iR N nx k)=E3 k)/\aJ Δ (j9 nx E E3) (EG (iR N nx) m2) (nx+H) w':=by
 have hρ: ∀ k,j9 nx E E3 (iR N nx k)=E3 k:=λk=>by
  unfold iR j9;cases hb:an k N with
  | true =>
    have hk:k<N:=by simpa [aC] using hb
    simp only[show k<nx by omega,if_true];exact(hlow k hk).symm
  | false=>simp only[show ¬ nx+k<nx by omega,if_false,Nat.add_sub_cancel_left]
 have hget: ∀ {j X},(EG (iR N nx) m2).get j=I X->∃ k B,m2.get k=I B/\iR N nx k=j/\X=B.aM (iR N nx):=λ{j X} hj=>by
  have hj:(EG (iR N nx) m2++[]).get j=I X:=by rw[c7];exact hj
  rcases xG hj with h1 | h1
  ·exact h1
  ·cases h1
 have hfun:(λk=>j9 nx E E3 (iR N nx k))=E3:=funext hρ;refine⟨hρ,λj X a hj ha=> ?_,λj j' X X' a hj ha hj' ha' hr=> ?_,λj X hj=> ?_,λj X a hj ha hr=> ?_,by rw[hw0,hm0];exact h.ext,⟨b_ hΔ (ei _ _),λk hk=> ?_⟩,λD hD=>h.kp D (by rw[← hk0];exact hD)⟩
 ·obtain⟨k,B,g1,g2,rfl⟩:=hget hj;rw[SB.xH,← g2,hρ] at ha;obtain⟨o,ho,hbo⟩:=h.hJ k B a g1 ha;exact⟨o,ho,bK.aM (by rw[hfun];exact hbo)⟩
 ·obtain⟨k,B,g1,g2,rfl⟩:=hget hj;obtain⟨k',B',g1',g2',rfl⟩:=hget hj';rw[SB.xH,← g2,hρ] at ha;rw[SB.xH,← g2',hρ] at ha';rw[SB.Oz,SB.Oz] at hr;have:=h.iw k k' B B' a g1 ha g1' ha' hr;subst this;rw[← g2,← g2']
 ·obtain⟨k,B,g1,g2,rfl⟩:=hget hj;have:=h.lt k B g1;rw[← g2];unfold iR;split
  ·rename_i hb;have hk:k<N:=by simpa [aC] using hb
   omega
  ·omega
 ·obtain⟨k,B,g1,g2,rfl⟩:=hget hj;rw[SB.xH,← g2,hρ] at ha;rw[SB.Oz] at hr;rw[hm0,hw0];exact h.iT k B a g1 ha hr
 ·unfold j9;rw[r_ (aO hk hΔ)];exact hE0 k hk
theorem VN {c:mK}{cal:nA}{KP:PK}{run:PT}(hΓ:Γ.rj<=c.N)(hcal: ∀ E E':Nat->Nat,(∀ k,k<c.N->E' k=E k)->cal.sem E'=cal.sem E)(hrun:mJ P Γ wq cal run)
  (h: ∀ x,c.pre x->c.ok x=C->ay (run (c.args x) (c.mem x) c.H (c.fit x))):mJ P Γ KP cal (k8 c):=by
 intro Δ hle args m nx K hh hwf hargs E w hs;obtain⟨x,hpre,hh⟩:=hh;have hpre:c.pre x:=hpre
 have hh:VC.holds (match M c.N nx,c.ok x with
  | true,C=>gW c.N (c.args x) args [] λaM=>fz c.N m (c.mem x) [] aM λ_=>c.rW x nx K
  | _,_=>.fail "call: keys"):=hh
 split at hh
 ·rename_i hN hok;have hN:c.N<=nx:=ej hN;have hrh:=(h x hpre hok).out;simp only[mK.ok,cD] at hok;obtain⟨ok1,ok2,ok4,ok5⟩:=hok;have ok1:c.N<=c.H:=ej ok1;obtain⟨ren1,_,h1,hv1⟩:=lW hh;obtain⟨aM,hl2,hK,h34⟩:=fW h1;obtain⟨h3,h4⟩:=h34 aM (Ren.le_refl _);let Θ:aT:={Δ with rj:=Γ.rj}
  have hleΘ:Γ.le Θ:=⟨hle.w,hle.m,T _,hle.e,hle.keep⟩
  have hsΘ:aJ Θ E m nx w:=⟨hs.hJ,hs.iw,hs.lt,hs.iT,hs.ext,⟨b_ hle.nx hs.cx.1,λk hk=>hs.cx.2 k (aO hk hle.nx)⟩,hs.kp⟩
  have hsat:=hsΘ.Yy (n:=c.N) (N:=c.H) hΓ ok1 h3 h4 (λkh B' hg=>y9 ok2 hg);have hlow: ∀ k,k<c.N->Ren.E c.N aM E k=E k:=λk hk=>Ren.Ac hk;have hcall:=hrun Θ hleΘ _ _ _ _ hrh ok4 ok5 _ _ hsat;rw[hcal E _ hlow,hv1 aM E hl2] at hcall;refine Out.mono hcall (λr w' hr=> ?_) (λch w' hp=> ?_)
  ·obtain⟨E2,sv,m2,nx2,q1,_,q3,q4,q5⟩:=hr;cases sv with
   | none=>exact q5.elim
   | some v =>
     have q5:(c.fit x v m2 nx2).holds:=q5;obtain⟨y,hy,q5⟩:=q5;have hKy:=hK y hy;obtain⟨ren2,_,g1,gv⟩:=jV q5;split at hKy
     rotate_left
     ·exact hKy.elim
     rename_i ok3;obtain⟨ren3,gl2,_,g34⟩:=fW g1;obtain⟨g3,g4⟩:=g34 ren3 (Ren.le_refl _);have hs3:=q4.Yy (n:=c.N) (N:=c.H) hΓ ok1 g3 g4 (λkh B' hg=>y9 ok3 hg);have hlow3: ∀ k,k<c.N->Ren.E c.N ren3 E2 k=E k:=λk hk=>(Ren.Ac hk).trans ((q1 k (aO hk ok1)).trans (hlow k hk));obtain⟨hρ,hfin⟩:=hs3.agp (Δ:=Δ) (E:=E) (N:=c.N) (nx:=nx) rfl rfl rfl hs.cx.1 hs.cx.2 hN hlow3;refine⟨_,I ((c.val x).Tr (iR c.N nx)),_,_,λk hk=> ?_,ei _ _,λu hu=> ?_,hfin,hKy⟩
     ·unfold j9;rw[r_ hk]
     ·cases hu;rw[SV.LG,show(λk=>j9 nx E (Ren.E c.N ren3 E2) (iR c.N nx k))=Ren.E c.N ren3 E2 from funext hρ,q3 v rfl]
      have:=gv ren3 E2 gl2;simp only[SV.vals,List.cons.injEq,and_true] at this;exact this.symm
  ·obtain⟨_,_,_,_,_,_,_,_,_,hno⟩:=hp;exact hno.elim
 ·exact hh.elim
def recC (f:FuncId)(pt:PT):de:=⟨λenv KP c=>match c with
 | .yield k=>(match env.find k with
   | some pt=>pt
   | none=>λ_ _ _ _=>.fail "a yield that is not known")
 | .panic=>raise KP
 | .fn g=>(match S g f with
   | true=>pt
   | false=>λ_ _ _ _=>.fail "another function"),λ_=>F⟩
theorem aa6 {f:FuncId}{pt:PT}(hm:aQ pt)(h: ∀ KP,mJ P Γ KP (.fn f) pt):tf P (recC f pt) Γ.le:=by
 refine⟨λenv he KP c=> ?_,λenv he KP KP' hK c args m nx K h=> ?_,λ{Γ' Δ} h h'=>aT.le_trans h h',λΔ hle env hem he KP c=> ?_,λg hg=>by cases hg⟩
 ·cases c with
  | yield k =>
    show aQ (match env.find k with
     | some pt=>pt
     | none=>λ_ _ _ _=>.fail "a yield that is not known")
    split
    ·rename_i pt hp;exact he _ (Env.wO hp)
    ·exact λargs m nx K K' _ h=>h.elim
  | panic=>exact λargs m nx K K' _ h=>h
  | fn g =>
    show aQ (match S g f with
     | true=>pt
     | false=>λ_ _ _ _=>.fail "another function")
    split
    ·exact hm
    ·exact λargs m nx K K' _ h=>h.elim
 ·cases c with
  | yield k=>exact h
  | panic =>
    show(raise KP' args m nx K).holds;have h:(raise KP args m nx K).holds:=h;unfold raise at h ⊢;split at h
    ·split at h
     ·exact hK _ _ _ h
     ·exact h
    ·exact h
  | fn g=>exact h
 ·cases c with
  | yield k =>
    show mJ P Δ KP (.yield k) (match env.find k with
     | some pt=>pt
     | none=>λ_ _ _ _=>.fail "a yield that is not known")
    split
    ·rename_i pt hp;exact he _ (Env.wO hp) KP
    ·exact λΔ _ args m nx K h=>h.elim
  | panic=>exact Dt
  | fn g =>
    show mJ P Δ KP (.fn g) (match S g f with
     | true=>pt
     | false=>λ_ _ _ _=>.fail "another function")
    split
    ·rename_i hg;obtain rfl:=aN hg;exact(h KP).mono hle
    ·exact λΔ _ args m nx K h=>h.elim
theorem XX (hmix:P.follows .mixedOrders=C){f:FuncId}{fn:Func}(hf:P.funcs[f]?=I fn) (hname:(fn.name== "runtime.NumGoroutine")=F) {kl N:Nat} {cy:mK} {ct:Nat->mK} {Γ:aT} (hΓ:Γ.rj<=N)
  (hy: ∀ KP,mJ P Γ KP (.yield kl) (k8 cy)) (hN: ∀ d,(ct d).N=N) (h0: ∀ x,¬ (ct 0).pre x) {n:Nat}
  (h: ∀ d x,(ct (d+1)).pre x->(ct (d+1)).ok x=C->∃ aW,ay (fE P (recC f (k8 (ct d))) [(kl,k8 cy)] wq aW n fn ((ct (d+1)).args x) ((ct (d+1)).mem x) (ct (d+1)).H ((ct (d+1)).fit x))) :
  ∀ d KP,mJ P Γ KP (.fn f) (k8 (ct d))
 | 0,KP=>λΔ _ args m nx K hh=>by obtain⟨x,hpre,_⟩:=hh;exact(h0 x hpre).elim
 | d+1,KP=>by
   have ih:=XX hmix hf hname hΓ hy hN h0 h d;intro Δ hle args m nx K hh;obtain⟨x,hpre,hh⟩:=hh;have hh':=hh;have hpre':(ct (d+1)).pre x:=hpre;by_cases hok:(ct (d+1)).ok x=C
   ·obtain⟨A,hA⟩:=h d x hpre' hok;let c1:mK:={ct (d+1)with pre:=λy=>y=x}
    have hfix:mJ P Γ KP (.fn f) (k8 c1):=VN (c:=c1) (run:=fE P (recC f (k8 (ct d))) [(kl,k8 cy)] wq A n fn) (by rw[show c1.N=(ct (d+1)).N from rfl,hN];exact hΓ) (λ_ _ _=>rfl)
     (DI hmix (aa6 (vo _) ih) (λp hp=>by rcases d_.1 hp with e | hp;subst e;exact vo _;cases hp) (aT.le_refl _) (λp hp KP=>by rcases d_.1 hp with e | hp;subst e;exact hy KP;cases hp) hf hname)
     (λy hy _=>by have hy:y=x:=hy;rw[hy];exact hA)
    exact hfix Δ hle args m nx K ⟨x,rfl,hh'⟩
   ·exfalso;have hok:(ct (d+1)).ok x=false:=by simpa using hok
    have hh:VC.holds (match M (ct (d+1)).N nx,(ct (d+1)).ok x with
     | true,C=>_
     | _,_=>.fail "call: keys"):=hh
    rw[hok] at hh;cases hb:M (ct (d+1)).N nx<;>(rw[hb] at hh;exact hh)
def Qq (N:Nat)(cy ct:mK):Env->PT:=λenv args m nx K=>match env,S nx N with
 | (_,Y)::_,C=>.and (.all cy.G λx=>.imp (cy.pre x) (match cy.ok x with
   | true=>Y (cy.args x) (cy.mem x) cy.H (cy.fit x)
   | false=>.tt)) (k8 ct args m nx K)
 | _,_=>.fail "a range: keys"
theorem Nu (N:Nat)(cy ct:mK)(env:Env):aQ (Qq N cy ct env):=by
 intro args m nx K K' hK h;unfold Qq at h ⊢;split at h
 ·exact⟨h.1,vo ct _ _ _ _ _ hK h.2⟩
 ·exact h.elim
def Kj (kl N:Nat)(cy ct:Loop->mK):Env->PT:=λenv args m nx K=>match env,m.get kl with
 | (k,_)::_,I (.loop .ready L R)=>(match S k kl with
   | true=>Qq N (cy R) (ct R) env args m nx K
   | false=>.fail "a range: another key")
 | _,_=>.fail "a range: no yield"
theorem Wr (hmix:P.follows .mixedOrders=C){f:FuncId}{fn:Func}(hf:P.funcs[f]?=I fn) (hname:(fn.name== "runtime.NumGoroutine")=F) {kl D:Nat} {cy:Loop->mK} {ct:Loop->Nat->mK} (hkl:kl<N) (hcy: ∀ R,(cy R).N=N)
  (hN: ∀ R d,(ct R d).N=N) (h0: ∀ R x,¬ (ct R 0).pre x)
  (h: ∀ R d x,(ct R (d+1)).pre x->(ct R (d+1)).ok x=C->∃ aW,ay (fE P (recC f (k8 (ct R d))) [(kl,k8 (cy R))] wq aW n fn ((ct R (d+1)).args x) ((ct R (d+1)).mem x) (ct R (d+1)).H ((ct R (d+1)).fit x))) :
  GP P f (Kj kl N cy (λR=>ct R D)):=by
 refine⟨λenv he args m nx K K' hK hh=> ?_,λΓ env hem he KP Δ hle args m nx K hh hwf hargs E w hs=> ?_⟩
 ·unfold Kj at hh ⊢;split at hh
  ·split at hh
   ·exact Nu _ _ _ _ _ _ _ _ _ hK hh
   ·exact hh.elim
  ·exact hh.elim
 ·unfold Kj at hh;split at hh
  ·rename_i k Y r R _;split at hh
   ·rename_i hk;obtain rfl:=aN hk;unfold Qq at hh;split at hh
    ·rename_i k' Y' r' heq hnx;injection heq with e1 e2;injection e1 with e3 e4;subst e4;have hnx:nx=N:=aN hnx;have hΔ:Δ.rj<=N:=hnx▸ hs.cx.1;have hY: ∀ KP,mJ P Δ KP (.yield k) Y:=λKP=>(he (k,Y) (d! ..) KP).mono hle;have hy: ∀ KP,mJ P Δ KP (.yield k) (k8 (cy R)):=λKP=>VN (by rw[hcy R];exact hΔ) (λE E' hE=>funext λargs=>by
      show Instr.yield (E' k) args=Instr.yield (E k) args;rw[hE k (by rw[hcy R];exact hkl)]) (hY wq) (λx hx hok=>⟨by
      have:=hh.1 x hx;rw[hok] at this;exact this⟩)
     exact XX hmix hf hname hΔ hy (hN R) (h0 R) (h R) D KP Δ Δ.le_refl args m nx K hh.2 hwf hargs E w hs
    ·exact hh.elim
   ·exact hh.elim
  ·exact hh.elim
end
end
end Sx
end Go.Proofs.YtoibaecagklkaaaGreatDoor
