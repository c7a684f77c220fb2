/-
  Rlp: plain laws: what is put is cut again; what ends too early is not.
-/
import Derived.Test.YtoibaecagklkaaaGreatDoorMk
import Derived.Test.YtoibaecagklkaaaGreatDoorMj
open Bool renaming and_eq_true->a_,false->q,true->A
open Decidable renaming decide->C
open Go.IntKind renaming i64->c4,u8->L
open Go.LoopState renaming ready->I
open Go.Proofs.Tryz renaming f151->a!,f169->bf,f170->bH,f184->bW,f185->c5,f207->c_,f208->b7,f210->b_,f217->b!,f220->c!,f58->cl,prog->H
open Int renaming le_refl->dG,toNat_natCast->X
open List renaming append_assoc->dV,cons_append->d_,drop_append_of_le_length->S,drop_drop->d!,drop_left->ag,drop_succ_cons->V,drop_zero->ec,getElem?_cons_zero->ef,length_append->M,length_cons->N,length_drop->Q,length_nil->ct,length_pos_iff->cx,length_take->W,mem_range->cy,range->Y,take_append_drop->ek,take_append_of_le_length->Z,take_left->cR
open Nat renaming le_refl->en,not_lt_zero->an,zero_add->ep,zero_le->ay
open Option renaming none->G,some->D
open UInt8 renaming ofNat->J
namespace Go.Proofs.YtoibaecagklkaaaGreatDoor
open Go Sx
variable {l z:Bool}{base:Int}{a b d p s t:List UInt8}{i k n tot:Nat}{ty:TypeId}
section
open Go Sx
set_option maxRecDepth 20000
theorem A8 (h:n<=55):b8 base n=[J (base+n).toNat]:=if_pos h
theorem DN (h: ¬ n<=55):b8 base n=J (base+55+(digits n).length).toNat::digits n:=if_neg h
theorem NU {n:Int}(hb:base=128∨base=192)(h0:0<=n)(h:n<64)(h1:ah s 0=base+n):lead s=n/\¬ ah s 0<128/\(ah s 0<192↔base=128):=by
 unfold lead;rcases hb with rfl | rfl
 ·rw[if_pos (by omega)];omega
 ·rw[if_neg (by omega)];omega
structure tN (base:Int)(n:Nat)(s d t:List UInt8):Prop where
 eq:s=J (base+55+d.length).toNat::(d++t)
 num:num d=n
 hd:ah d 0≠0
 len:1<=d.length/\d.length<=3
theorem Xx (h: ¬ n<=55)(h2:n<=1048576)(t:List UInt8):tN base n (b8 base n++t) (digits n) t:=by have h1:=HI (n:=n) (by omega) (by omega);have h3:=cx.2 h1.1;exact⟨by rw[DN h];rfl,KV (by omega) (by omega),h1.2,by omega,FC (by omega)⟩
theorem tN.acw (hb:base=128∨base=192)(h:tN base n s d t):ah s 0=base+55+d.length/\lead s=55+d.length/\¬ ah s 0<128/\(ah s 0<192↔base=128):=by
 have hl:=h.len;have h0:ah s 0=base+55+d.length:=by rw[h.eq,i5,ofNat_toNat (by omega) (by omega)]
 obtain⟨h1,h2,h3⟩:=NU (s:=s) (base:=base) (n:=55+d.length) hb (by omega) (by omega) (by omega);exact⟨h0,h1,h2,h3⟩
theorem tN.part' (h:tN base n s d t):part s (d.length+1)=n/\ah s 1≠0:=by
 have hl:=h.len;constructor
 ·unfold part;rw[h.eq];have e:((d.length:Int)+1 - 1).toNat=d.length:=by omega
  rw[e,List.drop_one,List.tail_cons,cR];exact h.num
 ·rw[h.eq];have h2:=h.hd
  match d,hl with
  | c::d,_ =>rw[i5] at h2;rw[d_,ve];exact h2
theorem tN.cut (hb:base=128∨base=192)(hn:55<n)(hn2:n<=1048576)(h:tN base n s d t):bR s=C (n<=t.length)/\dx s=C (base=192)/\ai s=t.take n/\aF s=t.drop n:=by
 obtain⟨b0,l1,l2,l3⟩:=h.acw hb;obtain⟨p1,p2⟩:=h.part';have hl:=h.len;have e1:lead s - 54=d.length+1:=by omega
 have hs:s.length=1+d.length+t.length:=by rw[h.eq];simp;omega
 have hlen:jS s (lead s - 54)=true:=iD.2 (by rw[e1,p1];exact⟨by omega,p2,by omega,by omega⟩);rw[e1] at hlen;obtain⟨c1,c2⟩:=l9 (s:=s) l2 (by omega);refine⟨?_,?_,?_,?_⟩
 ·rw[Bool.eq_iff_iff,fB];have hne:s≠[]:=by rw[h.eq];simp
  have hL:55<lead s:=by omega
  simp only[hne,ne_eq,not_false_eq_true,l2,hL,hlen,e1,p1,true_and,false_or,not_true_eq_false,false_and,or_false,decide_eq_true_eq];omega
 ·unfold dx;rcases hb with rfl | rfl
  ·have:=l3.2 rfl;simp;omega
  ·simp;omega
 ·rw[c1,e1,p1,h.eq];have e:((d.length:Int)+1).toNat=d.length+1:=by omega
  rw[e,V,ag,X]
 ·rw[c2,e1,p1,h.eq];have e:((d.length:Int)+1+n).toNat=d.length+n+1:=by omega
  rw[e,V,← d!,ag]
theorem QL (hb:base=128∨base=192)(hn:n<=55)(h:s=J (base+n).toNat::t) :
  (bR s=A↔n<=t.length/\¬ (base=128/\n=1/\ah t 0<128))/\dx s=C (base=192)/\ai s=t.take n/\aF s=t.drop n:=by
 have h0:ah s 0=base+n:=by rw[h,i5,ofNat_toNat (by omega) (by omega)]
 obtain⟨l1,l2,l3⟩:=NU (s:=s) (base:=base) (n:=n) hb (by omega) (by omega) h0;have hs:s.length=1+t.length:=by rw[h];simp;omega
 obtain⟨c1,c2⟩:=oY (s:=s) l2 (by omega);have hb1:0<t.length->ah s 1=ah t 0:=λhp=>by
  rw[h]
  match t,hp with
  | c::t,_=>rw[ve,i5]
 refine⟨?_,?_,?_,?_⟩
 ·rw[fB];have hne:s≠[]:=by rw[h];simp
  have hL: ¬ (55:Int)<n:=by omega
  simp only[hne,ne_eq,not_false_eq_true,l2,hL,true_and,false_or,false_and,l1,l3];constructor
  ·rintro⟨a,b⟩;refine⟨by omega,fun⟨x,y,z⟩=>b ⟨x,by omega,by rw[hb1 (by omega)];exact z⟩⟩
  ·rintro⟨a,b⟩;refine⟨by omega,fun⟨x,y,z⟩=>b ⟨x,by omega,by rw[hb1 (by omega)] at z;exact z⟩⟩
 ·unfold dx;rcases hb with rfl | rfl
  ·have:=l3.2 rfl;simp;omega
  ·simp;omega
 ·rw[c1,l1,h,X];rfl
 ·rw[c2,l1,h];have e:(1+(n:Int)).toNat=n+1:=by omega
  rw[e,V]
theorem Nx {x:List UInt8}(hb:base=128∨base=192)(hx:x.length<=1048576)(h1: ¬ (base=128/\x.length=1/\ah x 0<128))(rest:List UInt8) :
  bR (b8 base x.length++x++rest)=A/\dx (b8 base x.length++x++rest)=C (base=192)/\ai (b8 base x.length++x++rest)=x/\aF (b8 base x.length++x++rest)=rest:=by
 rw[dV];by_cases hn:x.length<=55
 ·obtain⟨g1,g2,g3,g4⟩:=QL (s:=b8 base x.length++(x++rest)) (t:=x++rest) hb hn (by rw[A8 hn];rfl);refine⟨g1.2 ⟨by simp,fun⟨a,b,c⟩=>h1 ⟨a,b,?_⟩⟩,g2,by rw[g3,cR],by rw[g4,ag]⟩
  rwa [kq (dG _) (by omega)] at c
 ·obtain⟨g1,g2,g3,g4⟩:=(Xx (base:=base) hn hx (x++rest)).cut hb (by omega) hx;exact⟨by rw[g1];simp,g2,by rw[g3,cR],by rw[g4,ag]⟩
theorem CE (h:b.length=1/\ah b 0<128):aA b=b:=if_pos h
theorem J9 (hb:b.length<=1048576)(rest:List UInt8):bR (aA b++rest)=A/\dx (aA b++rest)=q/\ai (aA b++rest)=b/\aF (aA b++rest)=rest:=by
 by_cases h:b.length=1/\ah b 0<128
 ·rw[CE h]
  match b,h with
  | [c],h =>have h0:ah ([c]++rest) 0<128:=h.2;obtain⟨g1,g2,g3⟩:=lO h0;exact⟨fB.2 ⟨by simp,.inl h0⟩,g1,by rw[g2];rfl,by rw[g3];rfl⟩
 ·rw[oI h];exact Nx (base:=128) (.inl rfl) hb (λx=>h x.2) rest
end
namespace Sx
open Go
theorem Nb {P:Program}{f:FuncId}{fn:Func}(hf:P.funcs[f]?=D fn) (hn:(fn.name== "runtime.NumGoroutine")=q) (hb:fn.body.isSome=A)  {spec:List SV->Option (Prop×cO)}
  (h: ∀ args p a,spec args=D (p,a)->p->∃ cfg args',Good P cfg/\(∀ E,SV.vals E args'=SV.vals E args)/\SV.fO 0 args'=A/\a.Ok/\az (fN P (calling P cfg n) [] Aa (cfg.bD f) cfg.rounds fn args' [] 0 (λv m _=>a.fit v m))):av P f (cw spec):=by
 intro args m nx K hk hwf hargs Γ E w hs;unfold cw at hk;split at hk
 ·rename_i p a hr;obtain⟨hp,hk⟩:=hk;obtain⟨cfg,args',hg,e,h1,h2,h3⟩:=h _ _ _ hr hp;have hc:=fc hg hf hn hb h3 rfl h1 (aN.none w hs.Lb);rw[SV.sZ h1 (λ_=>0) E,e,p7] at hc;refine gy hf hn hb (hc.mono ?_);rintro e w' ⟨v,rfl,E',sv,m',nx',_,_,g3,g4,g5⟩;refine⟨v,rfl,?_⟩;cases sv with
  | none=>exact g5.elim
  | some u=>rw[g3 u rfl];exact cO.told hs hwf g4 h2 g5 hk
 ·exact hk.elim
theorem eX {P:Program}{f:FuncId}{spec:List SV->Option (Prop×SV)}(h:av P f (cw λargs=>(spec args).map λp=>(p.1,.ret p.2))):av P f (bh spec):=by
 intro args m nx K hk;refine h args m nx K ?_;unfold bh at hk;unfold cw;split at hk
 ·rename_i p r hr;simp only[hr,Option.map_some];exact hk
 ·exact hk.elim
end Sx
section
open Go Sx
set_option maxRecDepth 20000
structure c9 (n:Nat)(t:Nat->Bool)(i:Nat):Prop where
 le:i<=n
 all: ∀ j,j<i->t j=A
noncomputable def Ky (tmp n:Nat)(t:Nat->Bool):bg :={α:=Nat,pre:=λ_ i=>c9 n t i,kY:=λ_ i=>n - i,fresh:=0,slots:=λ_ i=>[(tmp,.int .i64 q i)],mem:=λ_ _=>[]}
def Gr (p:List UInt8)(i:Nat):Bool:=!decide (15<ah p i)
def ij (p:List UInt8):Bool:=(Y p.length).all (Gr p)
noncomputable def So (p:List UInt8):fQ:={cv with cQ:=λf=>aD f Bx,bD:=λf=>if f=169 then [(2,always (Ky 6 p.length (Gr p)))] else []}
theorem aat (p:List UInt8):Sx.Good H (So p):=.of bX oe bw
def kM (k:List UInt8)(j:Nat):Int:=if j% 2=0 then ah k (j / 2) / 16 else ah k (j / 2)% 16
def aj (k:List UInt8):List UInt8:=dw (kM k) 0 (2*k.length)
noncomputable def WD (k:List UInt8):bg :=
 {α:=Nat×Nat,pre:=λ_ x=>x.1<=k.length/\2*x.1<=x.2,kY:=λ_ x=>k.length - x.1,fresh:=1,slots:=λst x=>[(11,.int .i64 q x.1),(3,.bx st.nx 1 q 0 (2*x.1) x.2)],
  mem:=λst x=>[(st.nx,.rows q (2*x.1) [.int .u8 (kM k)] q x.2 5)]}
noncomputable def Sm (k:List UInt8):fQ:={cv with cQ:=λf=>aD f Bx,bD:=λf=>if f=58 then [(3,always (WD k))] else []}
theorem aar (k:List UInt8):Sx.Good H (Sm k):=.of bX oe bw
def iz (p:List UInt8)(j:Nat):Int:=bitsOf .or (ah p (2*(j:Int))*16% 256) (ah p (2*(j:Int)+1))
def bl (p:List UInt8):List UInt8:=dw (iz p) 0 (p.length / 2)
noncomputable def RI (p:List UInt8):bg :=
 {α:=Nat×(Nat->Int),pre:=λ_ x=>x.1<=p.length / 2/\∀ j,j<x.1->x.2 j=iz p j,kY:=λ_ x=>p.length / 2 - x.1,fresh:=0,slots:=λ_ x=>[(11,.int .i64 q x.1)],
  mem:=λst x=>match slot st.tmps 3 with
   | some (.bx k _ _ _ _ _)=>(match st.m.get k with
     | some (.rows z n _ ro tot ty)=>[(k,.rows z n [.int .u8 x.2] ro tot ty)]
     | _=>[])
   | _=>[]}
noncomputable def Sn (p:List UInt8):fQ:={cv with cQ:=λf=>aD f Bx,bD:=λf=>if f=170 then [(3,always (RI p))] else []}
theorem aas (p:List UInt8):Sx.Good H (Sn p):=.of bX oe bw
def gE (leaf odd:Bool):Int:=(bif leaf then 2 else 0)+(bif odd then 1 else 0)
theorem VP (p:List UInt8)(R:SV->Prop):VC.holds (eO (So p) 169 bf [.str q p] R)=(((∃(u2:Nat),c9 p.length (Gr p) u2/\0=(u2:Int)/\True)/\∀(u1:Nat),c9 p.length (Gr p) u1->(C ((u1:Int)<(p.length:Int))=A->(0<=(u1:Int)/\(u1:Int)<(p.length:Int))/\(C (15<ah p (u1:Int))=A->R (SV.bool A q))/\(C (15<ah p (u1:Int))=q->I6 ((u1:Int)+1)/\∃(u0:Nat),(c9 p.length (Gr p) u0/\p.length - u0<p.length - u1)/\(u1:Int)+1=(u0:Int)/\True))/\(C ((u1:Int)<(p.length:Int))=q->R (SV.bool A A)))):=by kernel_rfl
theorem Yw (k:List UInt8)(R:SV->Prop):VC.holds (eO (Sm k) 58 cl [.str q k] R)=((((-9223372036854775808:Int)<=2*(k.length:Int)/\2*(k.length:Int)<=9223372036854775807)/\((0:Int)<=2*(k.length:Int)/\1*(2*(k.length:Int))<=140737488355328/\2*(k.length:Int)<=9223372036854775807)/\(∃(u4:Nat×Nat),(u4.1<=k.length/\2*u4.1<=u4.2)/\0=(u4.1:Int)/\((0:Nat)=(0:Nat)/\(0:Nat)=2*u4.1/\(2*(k.length:Int)).toNat=u4.2)/\True/\aa (SB.cells [] ((2*(k.length:Int)).toNat*1) 5) (SB.rows q (2*u4.1) [ak.int L (kM k)] q u4.2 5)/\True)/\∀(u3:Nat×Nat),u3.1<=k.length/\2*u3.1<=u3.2->(C ((u3.1:Int)<(k.length:Int))=A->(0<=(u3.1:Int)/\(u3.1:Int)<(k.length:Int))/\(0<=(u3.1:Int)/\(u3.1:Int)<(k.length:Int))/\(0<=ah k (u3.1:Int)/\ah k (u3.1:Int)<=255/\(0:Int)<=(15:Int)/\(15:Int)<=(255:Int))/\((0:Nat)+2*u3.1<=2*u3.1/\True/\2*(2*u3.1+2)*1<=(281474976710656:Nat)/\2*u3.1+2<(9223372036854775808:Nat))/\u3.2=u3.2*1/\∀(u2:Nat),2*u3.1+2<=u2->((-9223372036854775808:Int)<=(u3.1:Int)+1 /\(u3.1:Int)+1<=(9223372036854775807:Int))/\∃(u1:Nat×Nat),((u1.1<=k.length/\2*u1.1<=u1.2)/\k.length - u1.1<k.length - u3.1)/\(u3.1:Int)+1=(u1.1:Int)/\((0:Nat)=(0:Nat)/\2*u3.1+2=2*u1.1/\u2=u1.2)/\True/\aa (SB.rows q (2*u3.1+2) [ak.int L fun(u0:Nat)=>if u0<2*u3.1 then kM k u0 else De [ah k (u3.1:Int) / 16,bitsOf BinOp.and (ah k (u3.1:Int)) 15] (u0 - 2*u3.1)] q (u2*1) 5) (SB.rows q (2*u1.1) [ak.int L (kM k)] q u1.2 5)/\True)/\(C ((u3.1:Int)<(k.length:Int))=q->(0:Nat)+2*u3.1<=2*u3.1/\R (SV.str q (dw (kM k) 0 (2*u3.1)))))):=by kernel_rfl
theorem VO (p:List UInt8)(R:SV->Prop):VC.holds (eO (Sn p) 170 bH [.str q p] R)=(((0<=(p.length:Int)/\(p.length:Int)<=9223372036854775807/\(0:Int)<(2:Int))/\((p.length:Int) / 2=(p.length:Int) / 2/\0<=(p.length:Int) / 2/\1*((p.length:Int) / 2)<=140737488355328/\(p.length:Int) / 2<=(9223372036854775807:Int))/\(∃(u7:Nat×(Nat->Int)),(u7.1<=p.length / 2/\∀(u6:Nat),u6<u7.1->u7.2 u6=iz p u6)/\0=(u7.1:Int)/\aa (SB.rows q ((p.length:Int) / 2).toNat [ak.int L fun(_:Nat)=>(0:Int)] q (((p.length:Int) / 2).toNat*1) 5) (SB.rows q ((p.length:Int) / 2).toNat [ak.int L u7.2] q (((p.length:Int) / 2).toNat*1) 5)/\True)/\∀(u4:Nat×(Nat->Int)),(u4.1<=p.length / 2/\∀(u3:Nat),u3<u4.1->u4.2 u3=iz p u3)->(C ((u4.1:Int)<(↑((p.length:Int) / 2).toNat:Int))=A->((-9223372036854775808:Int)<=2*(u4.1:Int)/\2*(u4.1:Int)<=9223372036854775807)/\((0:Int)<=2*(u4.1:Int)/\2*(u4.1:Int)<(p.length:Int))/\((-9223372036854775808:Int)<=2*(u4.1:Int)/\2*(u4.1:Int)<=9223372036854775807)/\((-9223372036854775808:Int)<=2*(u4.1:Int)+1 /\2*(u4.1:Int)+1<=(9223372036854775807:Int))/\((0:Int)<=2*(u4.1:Int)+1/\2*(u4.1:Int)+1<(p.length:Int))/\(0<=ah p (2*(u4.1:Int))*16% (256:Int)/\ah p (2*(u4.1:Int))*16% (256:Int)<=(255:Int)/\0<=ah p (2*(u4.1:Int)+1)/\ah p (2*(u4.1:Int)+1)<=255)/\(0<=(u4.1:Int)/\(u4.1:Int)<(↑((p.length:Int) / 2).toNat:Int))/\0+(u4.1:Int).toNat<((p.length:Int) / 2).toNat/\I6 ((u4.1:Int)+1)/\∃(u2:Nat×(Nat->Int)),((u2.1<=p.length / 2/\∀(u1:Nat),u1<u2.1->u2.2 u1=iz p u1)/\p.length / 2 - u2.1<p.length / 2 - u4.1)/\(u4.1:Int)+1=(u2.1:Int)/\aa (SB.rows q ((p.length:Int) / 2).toNat [ak.int L fun(u0:Nat)=>if u0=0+(u4.1:Int).toNat then bitsOf BinOp.or (ah p (2*(u4.1:Int))*16% (256:Int)) (ah p (2*(u4.1:Int)+1))else u4.2 u0] q (((p.length:Int) / 2).toNat*1) 5) (SB.rows q ((p.length:Int) / 2).toNat [ak.int L u2.2] q (((p.length:Int) / 2).toNat*1) 5)/\True) /\(C ((u4.1:Int)<(↑((p.length:Int) / 2).toNat:Int))=q->0+((p.length:Int) / 2).toNat<=((p.length:Int) / 2).toNat/\R (SV.str q (dw u4.2 0 ((p.length:Int) / 2).toNat))))):=by kernel_rfl
theorem Yv (a b:Bool)(R:SV->Prop):VC.holds (eO acm 220 c! [.bool q a,.bool q b] R)=(((a=A->(b=A->R (SV.int .u8 A 3))/\(b=q->(a=A->R (SV.int .u8 A 2))/\(a=q->(b=A->R (SV.int .u8 A 1))/\(b=q->R (SV.int .u8 A 0)))))/\(a=q->(a=A->R (SV.int .u8 A 2))/\(a=q->(b=A->R (SV.int .u8 A 1))/\(b=q->R (SV.int .u8 A 0)))))):=by kernel_rfl
theorem cX {a b:Bool}(h:a=b):af (.bool l a) (.bool q b):=λE=>by subst h;rfl
theorem c9.next {t:Nat->Bool}(h:c9 n t i)(hi:(i:Int)<(n:Int))(ht:t i=A):c9 n t (i+1) :=
 ⟨by omega,λj hj=>by
  by_cases e:j=i
  ·subst e;exact ht
  ·exact h.all j (by omega)⟩
theorem c9.zero (n:Nat)(t:Nat->Bool):c9 n t 0:=⟨ay _,λ_j hj=>absurd hj (an _)⟩
theorem c9.done {t:Nat->Bool}(h:c9 n t i)(hi: ¬ (i:Int)<(n:Int)):(Y n).all t=true:=by rw[List.all_eq_true];intro j hj;have:=cy.1 hj;exact h.all j (by omega)
theorem all_none {t:Nat->Bool}(hi:(i:Int)<(n:Int))(ht:t i=q):(Y n).all t=false:=by rw[List.all_eq_false];exact⟨i,cy.2 (by omega),by rw[ht];decide⟩
theorem Gw (hp:p.length<1152921504606846976):az (eO (So p) 169 bf [.str q p] (λv=>af v (.bool q (ij p)))):=by
 refine az.of_eq (VP p _) ?_;refine⟨⟨0,c9.zero _ _,rfl,trivial⟩,λx hx=>⟨λh=> ?_,λh=> ?_⟩⟩
 ·have h:(x:Int)<(p.length:Int):=of_decide_eq_true h;refine⟨by omega,λg=>cX ?_,λg=>⟨by omega,x+1,⟨hx.next h ?_,by omega⟩,by omega,trivial⟩⟩
  ·exact(all_none h (by rw[Gr,g];rfl)).symm
  ·rw[Gr,g];rfl
 ·have h: ¬ (x:Int)<(p.length:Int):=of_decide_eq_false h;exact cX (hx.done h).symm
def pM:List SV->Option (Prop×SV)
 | [.str q p]=>D (p.length<1152921504606846976,.bool q (ij p))
 | _=>G
theorem Er:av H 169 (bh pM):=by
 refine eX (dW (n:=20) (fn:=bf) Tryz.func169 (by kernel_rfl) (by kernel_rfl) ?_);intro args p a h hp;unfold pM at h;split at h
 ·injection h with h;injection h with h1 h2;subst h1;subst h2;exact⟨_,aat _,rfl,rfl,Gw hp⟩
 ·cases h
theorem ab4 {b:Int}(h0:0<=b)(h1:b<256):bitsOf .and b 15=b% 16:=by obtain⟨n,rfl⟩:=Int.eq_ofNat_of_zero_le h0;show(((n:Int).toNat &&& (15:Int).toNat:Nat):Int)=_;have:n &&& 15=n% 16:=Nat.and_two_pow_sub_one_eq_mod n 4;simp only[X];rw[show(15:Int).toNat=15 from rfl,this];omega
theorem Jz {z':Bool}{n':Nat}{f g:Nat->Int}{tot':Nat}(hz:z=z')(hn:n=n')(ht:tot=tot')(h: ∀ i,i<n->f i=g i):aa (.rows z n [.int .u8 f] q tot ty) (.rows z' n' [.int .u8 g] q tot' ty):=by
 subst hz;refine Sx.aa.EJ hn ht rfl λi k c' hi hk=>⟨.int .u8 f,?_,?_⟩
 ·match k,hk with
  | 0,_=>rfl
 ·match k,hk with
  | 0,hk =>simp only[ef,Option.some.injEq] at hk;subst hk;simp only[ak.at,h i hi]
theorem QA {tot':Nat}{ax:List ak}(h:tot=tot'):aa (.cells [] tot ty) (.rows z 0 ax q tot' ty):=by subst h;refine aa.of rfl rfl λ_=> ?_;refine⟨rfl,λE o ⟨c,fr,h1,h2,_,h4⟩=>⟨c,fr,h1,λ_=>h2,by omega,h4,λi k col hi=>absurd hi (an _)⟩,λ_=>rfl⟩
theorem LZ (k:List UInt8)(x i:Nat)(hi:i<2*x+2)(h1: ¬ i<2*x):De [ah k (x:Int) / 16,bitsOf .and (ah k (x:Int)) 15] (i - 2*x)=kM k i:=by
 have hb:=dM k (x:Int);rw[ab4 hb.1 hb.2];unfold kM;by_cases e:i=2*x
 ·subst e;have e2:2*x / 2=x:=by omega
  rw[if_pos (by omega),show((2*x:Nat):Int) / 2=(x:Int)by omega,Nat.sub_self];rfl
 ·have e:i=2*x+1:=by omega
  subst e;rw[if_neg (by omega),show((2*x+1:Nat):Int) / 2=(x:Int)by omega,show 2*x+1 - 2*x=1 by omega];rfl
theorem Ja {k:List UInt8}(hk:k.length<1099511627776):az (eO (Sm k) 58 cl [.str q k] (λv=>af v (.str q (aj k)))):=by
 refine az.of_eq (Yw k _) ?_;refine⟨by omega,by omega,⟨(0,2*k.length),⟨ay _,ay _⟩,rfl,⟨rfl,rfl,by omega⟩,trivial,QA (by omega),trivial⟩,λx hx=>⟨λh=> ?_,λh=> ?_⟩⟩
 ·have h:(x.1:Int)<(k.length:Int):=of_decide_eq_true h;have hb:=dM k (x.1:Int);refine⟨by omega,by omega,by omega,⟨by omega,trivial,by omega,by omega⟩,by omega,λc hc=>⟨by omega,(x.1+1,c),⟨⟨by show x.1+1<=_;omega,by show 2*(x.1+1)<=c;omega⟩,by show _ - (x.1+1)<_;omega⟩,by show(x.1:Int)+1=((x.1+1:Nat):Int);omega,⟨rfl,rfl,rfl⟩,trivial,Jz rfl rfl (Nat.mul_one c) λi hi=> ?_,trivial⟩⟩;by_cases h1:i<2*x.1
  ·rw[if_pos h1]
  ·rw[if_neg h1];exact LZ k x.1 i hi h1
 ·have h: ¬ (x.1:Int)<(k.length:Int):=of_decide_eq_false h;have e:x.1=k.length:=by have:=hx.1;omega
  exact⟨by omega,ic (by rw[e];rfl)⟩
def ot:List SV->Option (Prop×SV)
 | [.str q k]=>D (k.length<1099511627776,.str q (aj k))
 | _=>G
theorem BO:av H 58 (bh ot):=by
 refine eX (dW (n:=20) (fn:=cl) Tryz.func58 (by kernel_rfl) (by kernel_rfl) ?_);intro args p a h hp;unfold ot at h;split at h
 ·injection h with h;injection h with h1 h2;subst h1;subst h2;exact⟨_,aar _,rfl,rfl,Ja hp⟩
 ·cases h
theorem Gu (hp:p.length<1099511627776):az (eO (Sn p) 170 bH [.str q p] (λv=>af v (.str q (bl p)))):=by
 refine az.of_eq (VO p _) ?_;have e:((p.length:Int) / 2).toNat=p.length / 2:=by omega
 rw[e];refine⟨by omega,⟨rfl,by omega,by omega,by omega⟩,⟨(0,λ_=>0),⟨ay _,λj hj=>absurd hj (an _)⟩,rfl,aa.refl _,trivial⟩,λx hx=>⟨λh=> ?_,λh=> ?_⟩⟩
 ·have h:(x.1:Int)<((p.length / 2:Nat):Int):=of_decide_eq_true h;have b1:=dM p (2*(x.1:Int));have b2:=dM p (2*(x.1:Int)+1);refine⟨by omega,by omega,by omega,by omega,by omega,by omega,by omega,by omega,by omega,(x.1+1,λj=>if j=x.1 then iz p x.1 else x.2 j),⟨⟨by show x.1+1<=_;omega,λj hj=> ?_⟩,by show _ - (x.1+1)<_;omega⟩,by show(x.1:Int)+1=((x.1+1:Nat):Int);omega,?_,trivial⟩
  ·show(if j=x.1 then iz p x.1 else x.2 j)=iz p j
   by_cases ej:j=x.1
   ·rw[if_pos ej,ej]
   ·rw[if_neg ej];exact hx.2 j (by have:j<x.1+1:=hj;omega)
  ·refine Jz rfl rfl rfl λi hi=> ?_;simp only[ep,X];rfl
 ·have h: ¬ (x.1:Int)<((p.length / 2:Nat):Int):=of_decide_eq_false h;have e1:x.1=p.length / 2:=by have:=hx.1;omega
  refine⟨by omega,ic ?_⟩;unfold bl dw;apply List.map_congr_left;intro j hj;rw[cy] at hj;rw[ep,hx.2 j (by omega)]
def pL:List SV->Option (Prop×SV)
 | [.str q p]=>D (p.length<1099511627776,.str q (bl p))
 | _=>G
theorem Ep:av H 170 (bh pL):=by
 refine eX (dW (n:=20) (fn:=bH) Tryz.func170 (by kernel_rfl) (by kernel_rfl) ?_);intro args p a h hp;unfold pL at h;split at h
 ·injection h with h;injection h with h1 h2;subst h1;subst h2;exact⟨_,aas _,rfl,rfl,Gu hp⟩
 ·cases h
def xV:List SV->Option (Prop×SV)
 | [.bool q a,.bool q b]=>D (True,.int .u8 q (gE a b))
 | _=>G
theorem Uv:av H 220 (bh xV):=by
 refine iO acq (n:=20) (fn:=c!) Tryz.func220 (by kernel_rfl) (by kernel_rfl) ?_;intro args p r h hp;unfold xV at h;split at h
 ·rename_i a b;injection h with h;injection h with h1 h2;subst h1;subst h2;refine⟨rfl,rfl,az.of_eq (Yv a b _) ?_⟩;cases a<;>cases b<;>simp[af,SV.val,gE]
 ·cases h
noncomputable def T3:List (FuncId×PT):=(169,bh pM)::(58,bh ot)::(170,bh pL)::(220,bh xV)::Bx
theorem PI:bt H (λf=>aD f T3):=.cons Er (aS _) (.cons BO (aS _) (.cons Ep (aS _) (.cons Uv (aS _) oe)))
noncomputable def Hv:fQ:={cv with cQ:=λf=>aD f T3}
theorem To:Sx.Good H Hv:=.of bX PI bw
def dI (p:List UInt8)(leaf:Bool):List UInt8:=bl (J (gE leaf (C ((p.length:Int)% 2=1))).toNat::(bif C ((p.length:Int)% 2=1)then p else 0::p))
def UA (p:List UInt8)(leaf:Bool):cO:=.fork (ij p) λb=>match b with
 | true=>.ret (.aO [.str q (dI p leaf),.bool A A])
 | false=>.ret (.aO [.str A [],.bool A q])
def fM (s:List UInt8):Bool:=C (aj s≠[])&&C (ah (aj s) 0<=3)&&(C (ah (aj s) 0% 2=1)||decide (ah (aj s) 1=0))
def dS (s:List UInt8):Bool:=C (2<=ah (aj s) 0)
def eH (s:List UInt8):List UInt8:=if ah (aj s) 0% 2=1 then(aj s).drop 1 else(aj s).drop 2
def Uw (s:List UInt8):cO:=.fork (fM s) λb=>match b with
 | true=>.ret (.aO [.str q (eH s),.bool q (dS s),.bool A A])
 | false=>.ret (.aO [.str A [],.bool A q,.bool A q])
theorem abK (p:List UInt8)(leaf:Bool):VC.holds (gG Hv 210 b_ [.str q p,.bool q leaf] (UA p leaf))=((p.length<1152921504606846976/\((!ij p)=A->(ij p=A->af (SV.aO [SV.str A [],SV.bool A q]) (SV.aO [SV.str q (dI p leaf),SV.bool A A]))/\(ij p=q->af (SV.aO [SV.str A [],SV.bool A q]) (SV.aO [SV.str A [],SV.bool A q])))/\((!ij p)=q->(0<=(p.length:Int)/\(p.length:Int)<=9223372036854775807/\(0:Int)<(2:Int))/\True/\(0<=(p.length:Int)/\(p.length:Int)<=9223372036854775807/\(0:Int)<(2:Int))/\((!decide ((p.length:Int)% 2=(1:Int)))=A->(↑(1:Nat):Int)+1<=(9223372036854775807:Int)/\(↑(2:Nat):Int)+(p.length:Int)<=9223372036854775807/\(cat (cat [J (gE leaf (C ((p.length:Int)% 2=(1:Int)))).toNat] [(0:UInt8)]) p).length<1099511627776/\(ij p=A->af (SV.aO [SV.str q (bl (cat (cat [J (gE leaf (C ((p.length:Int)% 2=(1:Int)))).toNat] [(0:UInt8)]) p)),SV.bool A A]) (SV.aO [SV.str q (dI p leaf),SV.bool A A]))/\(ij p=q ->af (SV.aO [SV.str q (bl (cat (cat [J (gE leaf (C ((p.length:Int)% 2=(1:Int)))).toNat] [(0:UInt8)]) p)),SV.bool A A]) (SV.aO [SV.str A [],SV.bool A q])))/\((!decide ((p.length:Int)% 2=(1:Int)))=q->(↑(1:Nat):Int)+(p.length:Int)<=9223372036854775807/\(cat [J (gE leaf (C ((p.length:Int)% 2=(1:Int)))).toNat] p).length<1099511627776/\(ij p=A->af (SV.aO [SV.str q (bl (cat [J (gE leaf (C ((p.length:Int)% 2=(1:Int)))).toNat] p)),SV.bool A A]) (SV.aO [SV.str q (dI p leaf),SV.bool A A]))/\(ij p=q->af (SV.aO [SV.str q (bl (cat [J (gE leaf (C ((p.length:Int)% 2=(1:Int)))).toNat] p)),SV.bool A A]) (SV.aO [SV.str A [],SV.bool A q])))))):=by kernel_rfl
theorem abJ (s:List UInt8):VC.holds (gG Hv 217 b! [.str q s] (Uw s))=((λP0:SV=>((λP1:SV=>((λP2:List UInt8=>((λP3:List UInt8=>((s.length<1099511627776/\(C (aj s=[])=A->(fM s=A->af P0 P1)/\(fM s=q->af P0 P0))/\(C (aj s=[])=q->((0:Int)<=(0:Int)/\0<(↑(aj s).length:Int))/\(C (ah (aj s) 0=(3:Int))=A->((0:Int)<=(1:Int)/\1<=(↑(aj s).length:Int)/\(↑(aj s).length:Int)<=(↑(aj s).length:Int))/\(fM s=A->af (SV.aO [SV.str (q&&A&&q) P2,SV.bool A A,SV.bool A A]) P1)/\(fM s=q->af (SV.aO [SV.str (q&&A&&q) P2,SV.bool A A,SV.bool A A]) P0))/\(C (ah (aj s) 0=(3:Int))=q->(C (ah (aj s) 0=(2:Int))=A->((0:Int)<=(1:Int)/\1<(↑(aj s).length:Int))/\((!decide (ah (aj s) 1=(0:Int)))=A->(fM s=A->af P0 P1)/\(fM s=q->af P0 P0))/\((!decide (ah (aj s) 1=(0:Int)))=q->((0:Int)<=(2:Int)/\2<=(↑(aj s).length:Int)/\(↑(aj s).length:Int)<=(↑(aj s).length:Int))/\(fM s=A->af (SV.aO [SV.str (q&&A&&q) P3,SV.bool A A,SV.bool A A]) P1) /\(fM s=q->af (SV.aO [SV.str (q&&A&&q) P3,SV.bool A A,SV.bool A A]) P0)))/\(C (ah (aj s) 0=(2:Int))=q->(C (ah (aj s) 0=(1:Int))=A->((0:Int)<=(1:Int)/\1<=(↑(aj s).length:Int)/\(↑(aj s).length:Int)<=(↑(aj s).length:Int))/\(fM s=A->af (SV.aO [SV.str (q&&A&&q) P2,SV.bool A q,SV.bool A A]) P1)/\(fM s=q->af (SV.aO [SV.str (q&&A&&q) P2,SV.bool A q,SV.bool A A]) P0))/\(C (ah (aj s) 0=(1:Int))=q->(C (ah (aj s) 0=(0:Int))=A->((0:Int)<=(1:Int)/\1<(↑(aj s).length:Int))/\((!decide (ah (aj s) 1=(0:Int)))=A->(fM s=A->af P0 P1)/\(fM s=q->af P0 P0))/\((!decide (ah (aj s) 1=(0:Int)))=q->((0:Int)<=(2:Int)/\2<=(↑(aj s).length:Int)/\(↑(aj s).length:Int)<=(↑(aj s).length:Int))/\(fM s=A->af (SV.aO [SV.str (q&&A&&q) P3,SV.bool A q,SV.bool A A]) P1)/\(fM s=q ->af (SV.aO [SV.str (q&&A&&q) P3,SV.bool A q,SV.bool A A]) P0)))/\(C (ah (aj s) 0=(0:Int))=q->(fM s=A->af P0 P1)/\(fM s=q->af P0 P0))))))))) (bO (aj s) (D (Operand.const (Value.int c4 2))) G 2 (↑(aj s).length:Int)))) (bO (aj s) (D (Operand.const (Value.int c4 1))) G 1 (↑(aj s).length:Int)))) (SV.aO [SV.str q (eH s),SV.bool q (dS s),SV.bool A A]))) (SV.aO [SV.str A [],SV.bool A q,SV.bool A q])):=by kernel_rfl
theorem vL {i:Int}(h:i<=a.length):part (a++b) i=part a i:=by
 unfold part;by_cases h1:1<=i
 ·have hl:1<=a.length:=by omega
  rw[S hl,Z (by simp only[Q];omega)]
 ·have:(i - 1).toNat=0:=by omega
  rw[this];rfl
theorem TS {i:Int}(h2:2<=i)(h:jS a i=A):jS (a++b) i=true:=by
 obtain⟨h1,h3,h4,h5⟩:=iD.1 h;refine iD.2 ⟨by simp only[M];omega,?_,?_,?_⟩
 ·rw[kq (by omega) (by omega)];exact h3
 ·rw[vL h1];exact h4
 ·rw[vL h1];exact h5
theorem Fz (h:bR a=A)(b:List UInt8):bR (a++b)=A/\dx (a++b)=dx a/\ai (a++b)=ai a/\aF (a++b)=aF a++b:=by
 obtain⟨h0,hc⟩:=fB.1 h;have hl:=cx.2 h0;have e0:ah (a++b) 0=ah a 0:=kq (dG _) (by omega);have el:lead (a++b)=lead a:=by unfold lead;rw[e0]
 have eL:dx (a++b)=dx a:=by unfold dx;rw[e0]
 have hne:a++b≠[]:=by simp[h0]
 refine⟨?_,eL,?_⟩
 ·refine fB.2 ⟨hne,?_⟩;rw[e0,el];rcases hc with hA | ⟨hA,hB,hC,hD⟩ | ⟨hA,hB,hC,hD⟩
  ·exact .inl hA
  ·have hq:=(iD.1 hC).1;exact .inr (.inl ⟨hA,hB,TS (by omega) hC,by rw[vL hq];simp only[M];omega⟩)
  ·exact .inr (.inr ⟨hA,hB,by simp only[M];omega,fun⟨x,y,z⟩=>hD ⟨x,y,by rwa [kq (by omega) (by omega)] at z⟩⟩)
 ·rcases hc with hA | ⟨hA,hB,hC,hD⟩ | ⟨hA,hB,hC,hD⟩
  ·obtain⟨_,k2,k3⟩:=lO hA;obtain⟨_,j2,j3⟩:=lO (s:=a++b) (by rw[e0];exact hA);rw[k2,k3,j2,j3];exact⟨Z (by omega),S (by omega)⟩
  ·have hq:=(iD.1 hC).1;have hp:=sK a (lead a - 54);obtain⟨k2,k3⟩:=l9 hA hB;obtain⟨j2,j3⟩:=l9 (s:=a++b) (by rw[e0];exact hA) (by rw[el];exact hB);rw[k2,k3,j2,j3,el,vL hq];constructor
   ·rw[S (by omega),Z (by simp only[Q];omega)]
   ·rw[S (by omega)]
  ·have hn:=F3 hA;obtain⟨k2,k3⟩:=oY hA hB;obtain⟨j2,j3⟩:=oY (s:=a++b) (by rw[e0];exact hA) (by rw[el];exact hB);rw[k2,k3,j2,j3,el];have e1:(1:Int).toNat=1:=rfl;rw[e1];constructor
   ·rw[S (by omega),Z (by simp only[Q];omega)]
   ·rw[S (by omega)]
theorem Ll (h:bR a=A)(b:List UInt8):uo (a++b)=uo a:=by
 unfold uo;rw[(Fz h b).2.2.2,M,M];have:a.length+b.length - ((aF a).length+b.length)=a.length - (aF a).length:=by omega
 rw[this,Z (by omega)]
theorem Walk.app (b:List UInt8): ∀ {k:Nat},Walk a k->aZ (a++b) k=aZ a k++b
 | 0,_=>by simp only[aZ]
 | k+1,h=>by have h1:=Walk.app b (k:=k) (λj hj=>h j (by omega));simp only[aZ];rw[h1,(Fz (h k (by omega)).2 b).2.2.2]
theorem Walk.take {j:Nat}(h:Walk a k)(hj:j<=k):Walk a j:=λi hi=>h i (by omega)
theorem Walk.join (b:List UInt8)(h:Walk a k):Walk (a++b) k:=λj hj=>by rw[(h.take (j:=j) (by omega)).app b];obtain⟨h1,h2⟩:=h j hj;exact⟨by simp[h1],(Fz h2 b).1⟩
theorem Walk.item (b:List UInt8){j:Nat}(h:Walk a k)(hj:j<k):au (a++b) j=au a j:=by unfold au;rw[(h.take (j:=j) (by omega)).app b,Ll (h j hj).2]
theorem Lq (n:Nat): ∀(s:List UInt8),s.length<=n->dX s=A->Walk s (bQ s)/\aZ s (bQ s)=[]:=by
 have nil: ∀ s:List UInt8,s=[]->Walk s (bQ s)/\aZ s (bQ s)=[]:=by intro s hs;rw[hs,jQ.2];exact⟨λj hj=>absurd hj (an _),by simp only[aZ]⟩
 induction n with
 | zero=>exact λs h _=>nil s (List.length_eq_zero_iff.1 (by omega))
 | succ n ih =>
   intro s h hb;by_cases hne:s=[]
   ·exact nil s hne
   ·have hc:bR s=true:=by
     cases hc:bR s with
     | false=>rw[DS hne hc] at hb;cases hb
     | true=>rfl
    obtain⟨h1,h2⟩:=xz hne hc;have hl:=AK hc;obtain⟨h3,h4⟩:=ih (aF s) (by omega) (by rw[← h1];exact hb);rw[h2];refine⟨λj hj=> ?_,by rw[kS];exact h4⟩;cases j with
    | zero=>simp only[aZ];exact⟨hne,hc⟩
    | succ j=>rw[kS];exact h3 j (by omega)
theorem Cf (s:List UInt8)(k:Nat): ∀ j,aZ s (k+j)=aZ (aZ s k) j
 | 0=>by simp only[aZ,Nat.add_zero]
 | j+1=>by rw[← Nat.add_assoc,aZ,Cf s k j];simp only[aZ]
theorem Lp (h:dX a=A)(b:List UInt8):dX (a++b)=dX b/\bQ (a++b)=bQ a+bQ b /\
  (∀ j,j<bQ a->au (a++b) j=au a j)/\∀ j,au (a++b) (bQ a+j)=au b j:=by
 obtain⟨h1,h2⟩:=Lq a.length a (en _) h;have h3:=h1.app b;rw[h2,List.nil_append] at h3;obtain⟨h4,h5⟩:=(h1.join b).items;rw[h3] at h4 h5;refine⟨h4,by omega,λj hj=>h1.item b hj,λj=> ?_⟩;unfold au;rw[Cf,h3]
theorem UI (h:bR s=A)(h2:aF s=[]):dX s=A/\bQ s=1/\au s 0=s:=by have hne:=(fB.1 h).1;obtain⟨g1,g2⟩:=xz hne h;rw[h2] at g1 g2;refine⟨by rw[g1];exact jQ.1,by rw[g2,jQ.2],?_⟩;unfold au uo;simp only[aZ];rw[h2,ct,Nat.sub_zero,List.take_length]
theorem Pg (a:List UInt8)(r:List (List UInt8)):flat (a::r)=a++flat r:=by simp[flat]
theorem AV: ∀(l:List (List UInt8)),(∀ x∈ l,bR x=A/\aF x=[])->dX (flat l)=A/\bQ (flat l)=l.length/\∀(j:Nat) (x:List UInt8),l[j]?=D x->au (flat l) j=x
 | [],_=>⟨jQ.1,jQ.2,λj x h=>by simp at h⟩
 | a::r,h=>by
   obtain⟨h1,h2⟩:=h a (by simp);obtain⟨o1,o2,o3⟩:=UI h1 h2;obtain⟨g1,g2,g3⟩:=AV r λx hx=>h x (by simp[hx]);obtain⟨j1,j2,j3,j4⟩:=Lp o1 (flat r);rw[Pg];refine⟨by rw[j1];exact g1,by rw[j2,o2,g2,N];omega,λj x hx=> ?_⟩;cases j with
   | zero =>simp only[ef,Option.some.injEq] at hx;rw[j3 0 (by omega),o3,hx]
   | succ j =>have:=j4 j;rw[o2] at this;rw[Nat.add_comm j 1,this];exact g3 j x (by simpa using hx)
theorem Uc {l:List (List UInt8)}(hl:(flat l).length<=1048576)(rest:List UInt8) :
  bR (b8 192 (flat l).length++flat l++rest)=A/\dx (b8 192 (flat l).length++flat l++rest)=A/\ai (b8 192 (flat l).length++flat l++rest)=flat l/\aF (b8 192 (flat l).length++flat l++rest)=rest:=by
 obtain⟨h1,h2,h3,h4⟩:=Nx (.inr rfl) hl (λh=>by omega) rest;exact⟨h1,by rw[h2];rfl,h3,h4⟩
theorem KU (s:List UInt8):(aF s).length<=s.length:=by unfold aF;rw[Q];omega
theorem EG (s:List UInt8): ∀ k,(aZ s k).length<=s.length
 | 0=>by simp only[aZ];exact en _
 | k+1=>by simp only[aZ];exact Nat.le_trans (KU _) (EG s k)
theorem DR (s:List UInt8)(k:Nat):(au s k).length<=s.length:=by have:=EG s k;unfold au uo;rw[W];omega
theorem HE (s:List UInt8):(ai s).length<=s.length:=by unfold ai;simp only[W,Q];omega
def ff (l:List (List UInt8)):List UInt8:=b8 192 (flat l).length++flat l
theorem yS (c:UInt8)(t:List UInt8):ah (c::t) 1=ah t 0:=by cases t<;>rfl
def mS (l:Bool)(b:List UInt8):List UInt8:=bif l then b8 192 b.length++b else aA b
theorem toNat_eq {a b:UInt8}(h:a.toNat=b.toNat):a=b:=UInt8.toNat_inj.1 h
theorem Fm (h:s≠[]): ∃ b t,s=b::t/\ah s 0=(b.toNat:Int):=by
 cases s with
 | nil=>exact absurd rfl h
 | cons b t=>exact⟨b,t,rfl,rfl⟩
theorem HF (h:bR s=A):mS (dx s) (ai s)++aF s=s:=by
 obtain⟨h0,h⟩:=fB.1 h;obtain⟨b,t,rfl,hb⟩:=Fm h0;have hb8:=b.toNat_lt;rcases h with hA | ⟨hA,hL,hB,hP⟩ | ⟨hA,hL,hP,hN⟩
 ·obtain⟨k1,k2,k3⟩:=lO hA;rw[k1,k2,k3];simp only[mS,cond_false,List.take_succ_cons,List.take_zero,V,ec];rw[CE ⟨rfl,by rw[hb] at hA;exact hA⟩];rfl
 ·obtain⟨k1,k2⟩:=l9 hA hL;obtain⟨g1,g2,g3,g4⟩:=iD.1 hB;have hl:=g1;simp only[N] at hl g1 hP;have hlead:lead (b::t)<64/\0<=lead (b::t):=by unfold lead;split<;>omega
  have hpn:=sK (b::t) (lead (b::t) - 54);have elen:(ai (b::t)).length=(part (b::t) (lead (b::t) - 54)).toNat:=by rw[k1];simp only[W,Q,N];omega
  have hd:digits (part (b::t) (lead (b::t) - 54))=t.take (lead (b::t) - 55).toNat:=by
   have e:part (b::t) (lead (b::t) - 54)=num (t.take (lead (b::t) - 55).toNat):=by unfold part;simp only[V,ec];congr 2;omega
   rw[e];refine Pa (by simp only[W];omega) (.inr ?_);intro h;apply g2;rw[yS];have:ah (t.take (lead (b::t) - 55).toNat) 0=ah t 0:=by
    obtain⟨m,hm⟩: ∃ m,(lead (b::t) - 55).toNat=m+1:=⟨(lead (b::t) - 55).toNat - 1,by omega⟩
    rw[hm];cases t<;>rfl
   rw[← this];exact h
  have hhead: ∀ base:Int,lead (b::t)=ah (b::t) 0 - base->0<=base->b8 base (ai (b::t)).length=b::t.take (lead (b::t) - 55).toNat:=by
   intro base hbase hb0;rw[DN (by rw[elen];omega),elen,show(((part (b::t) (lead (b::t) - 54)).toNat:Nat):Int)=part (b::t) (lead (b::t) - 54)by omega,hd];congr 1;apply toNat_eq;have:(base+55+((t.take (lead (b::t) - 55).toNat).length:Int)).toNat=b.toNat:=by rw[hb] at hbase;simp only[W];omega
   rw[this];simp
  have hcat: ∀ base:Int,lead (b::t)=ah (b::t) 0 - base->0<=base->b8 base (ai (b::t)).length++ai (b::t)++aF (b::t)=b::t:=by
   intro base hbase hb0;rw[hhead base hbase hb0,k1,k2,dV];have e1:(lead (b::t) - 54).toNat=(lead (b::t) - 55).toNat+1:=by omega
   have e2:(lead (b::t) - 54+part (b::t) (lead (b::t) - 54)).toNat=(lead (b::t) - 55).toNat+1+(part (b::t) (lead (b::t) - 54)).toNat:=by omega
   rw[e1,e2];generalize (lead (b::t) - 55).toNat=k;generalize (part (b::t) (lead (b::t) - 54)).toNat=p;rw[show k+1+p=(k+p)+1 by omega];simp only[V,d_];rw[← d!,ek,ek]
  by_cases hC:ah (b::t) 0<192
  ·have e3:dx (b::t)=false:=by simp[dx];omega
   rw[e3,mS,cond_false,oI (by rw[elen];omega)];exact hcat 128 (zZ hC) (by omega)
  ·have e3:dx (b::t)=true:=by simp[dx];omega
   rw[e3,mS,cond_true];exact hcat 192 (zY hC) (by omega)
 ·obtain⟨k1,k2⟩:=oY hA hL;simp only[N] at hP;have hlead:=F3 hA;have elen:(ai (b::t)).length=(lead (b::t)).toNat:=by rw[k1];simp only[W,Q,N];omega
  have ein:ai (b::t)=t.take (lead (b::t)).toNat:=by rw[k1];rfl
  have hcat: ∀ base:Int,lead (b::t)=ah (b::t) 0 - base->0<=base->b8 base (ai (b::t)).length++ai (b::t)++aF (b::t)=b::t:=by
   intro base hbase hb0;rw[A8 (by rw[elen];omega),elen,ein,k2];have:(base+((lead (b::t)).toNat:Int)).toNat=b.toNat:=by rw[hb] at hbase;omega
   rw[this,show(1+lead (b::t)).toNat=(lead (b::t)).toNat+1 by omega];simp
  by_cases hC:ah (b::t) 0<192
  ·have e3:dx (b::t)=false:=by simp[dx];omega
   rw[e3,mS,cond_false,oI ?_]
   ·exact hcat 128 (zZ hC) (by omega)
   ·rintro⟨h1,h2⟩;rw[elen] at h1;apply hN;refine⟨hC,by omega,?_⟩;rw[yS];rw[ein,h1] at h2;cases t with
    | nil=>exact h2
    | cons c u=>exact h2
  ·have e3:dx (b::t)=true:=by simp[dx];omega
   rw[e3,mS,cond_true];exact hcat 192 (zY hC) (by omega)
theorem tu (f:Nat->Int)(i n:Nat):(dw f i n).length=n:=by simp[dw]
theorem ow (k:List UInt8):(aj k).length=2*k.length:=tu _ _ _
theorem BU (p:List UInt8):(bl p).length=p.length / 2:=tu _ _ _
theorem ES {l1 l2 x:Bool}(h:a=b):af (.aO [.str l a,.bool l1 x]) (.aO [.str q b,.bool l2 x]):=λE=>by subst h;rfl
theorem L4 (leaf:Bool)(hp:p.length<1073741824):az (gG Hv 210 b_ [.str q p,.bool q leaf] (UA p leaf)):=by
 refine az.of_eq (abK p leaf) ?_;cases ij p with
 | false=>exact⟨by omega,λ_=>⟨(λh=>by cases h),λ_ _=>rfl⟩,λh=>by cases h⟩
 | true =>
   refine⟨by omega,(λh=>by cases h),λ_=>⟨by omega,trivial,by omega,λh=> ?_,λh=> ?_⟩⟩
   ·have ho:C ((p.length:Int)% 2=1)=false:=by simpa using h
    refine⟨by omega,by omega,by simp only[cat,M,N,ct];omega,λ_=>ES ?_,λh=>by cases h⟩;rw[dI,ho];rfl
   ·have ho:C ((p.length:Int)% 2=1)=true:=by simpa using h
    refine⟨by omega,by simp only[cat,M,N,ct];omega,λ_=>ES ?_,λh=>by cases h⟩;rw[dI,ho];rfl
def BP:List SV->Option (Prop×cO)
 | [.str q p,.bool q leaf]=>D (p.length<1073741824,UA p leaf)
 | _=>G
theorem XH:av H 210 (cw BP):=by
 refine dW (n:=20) (fn:=b_) Tryz.func210 (by kernel_rfl) (by kernel_rfl) ?_;intro args p a h hp;unfold BP at h;split at h
 ·injection h with h;injection h with h1 h2;subst h1;subst h2;exact⟨_,To,rfl,λb=>by cases b<;>exact rfl,L4 _ hp⟩
 ·cases h
theorem sV {l1 l2 l3 l4 x y:Bool}(h:a=b)(h2:x=y):af (.aO [.str l a,.bool l1 x,.bool l2 z]) (.aO [.str q b,.bool l3 y,.bool l4 z]):=λE=>by subst h;subst h2;rfl
theorem vJ :fM s=A↔aj s≠[]/\ah (aj s) 0<=3/\(ah (aj s) 0% 2=1∨ah (aj s) 1=0):=by simp only[fM,a_,Bool.or_eq_true,decide_eq_true_eq,and_assoc]
theorem LY (hs:s.length<1099511627776):az (gG Hv 217 b! [.str q s] (Uw s)):=by
 refine az.of_eq (abJ s) ?_;have hl:=ow s;have b0:=dM (aj s) 0;have F: ∀ {p:Prop},¬ (aj s≠[]/\ah (aj s) 0<=3/\(ah (aj s) 0% 2=1∨ah (aj s) 1=0))->fM s=A->p:=λh h'=>absurd (vJ.1 h') h;have T: ∀ {p:Prop},(aj s≠[]/\ah (aj s) 0<=3/\(ah (aj s) 0% 2=1∨ah (aj s) 1=0))->fM s=q->p:=λh h'=>by rw[vJ.2 h] at h';cases h'
 have none':af (.aO [.str A [],.bool A q,.bool A q]) (.aO [.str A [],.bool A q,.bool A q]):=λ_=>rfl;have O:ah (aj s) 0% 2=1->(aj s).drop 1=eH s:=λh=>(if_pos h).symm;have Ev: ¬ ah (aj s) 0% 2=1->(aj s).drop 2=eH s:=λh=>(if_neg h).symm;refine⟨hs,λh=>⟨F (by simp at h;simp[h]),λ_=>none'⟩,λh=> ?_⟩;have h:aj s≠[]:=of_decide_eq_false h;have hp:=cx.2 h;refine⟨by omega,λa=> ?_,λa=>⟨λb=> ?_,λb=>⟨λc=> ?_,λc=>⟨λd=> ?_,λd=> ?_⟩⟩⟩⟩
 ·have a:=of_decide_eq_true a;refine⟨by omega,λ_=>sV (O (by omega)) (by simp[dS,a]),T ⟨h,by omega,.inl (by omega)⟩⟩
 ·have b:=of_decide_eq_true b;refine⟨by omega,λg=> ?_,λg=>⟨by omega,λ_=>sV (Ev (by omega)) (by simp[dS,b]),?_⟩⟩
  ·have g: ¬ ah (aj s) 1=0:=by simpa using g
   exact⟨F (by rintro⟨_,_,e | e⟩;omega;exact g e),λ_=>none'⟩
  ·have g:ah (aj s) 1=0:=by simpa using g
   exact T ⟨h,by omega,.inr g⟩
 ·have c:=of_decide_eq_true c;refine⟨by omega,λ_=>sV (O (by omega)) (by simp[dS,c]),T ⟨h,by omega,.inl (by omega)⟩⟩
 ·have d:=of_decide_eq_true d;refine⟨by omega,λg=> ?_,λg=>⟨by omega,λ_=>sV (Ev (by omega)) (by simp[dS,d]),?_⟩⟩
  ·have g: ¬ ah (aj s) 1=0:=by simpa using g
   exact⟨F (by rintro⟨_,_,e | e⟩;omega;exact g e),λ_=>none'⟩
  ·have g:ah (aj s) 1=0:=by simpa using g
   exact T ⟨h,by omega,.inr g⟩
 ·have a:=of_decide_eq_false a;have b:=of_decide_eq_false b;have c:=of_decide_eq_false c;have d:=of_decide_eq_false d;exact⟨F (by rintro⟨_,e,_⟩;omega),λ_=>none'⟩
def BM:List SV->Option (Prop×cO)
 | [.str q s]=>D (s.length<1099511627776,Uw s)
 | _=>G
theorem XE:av H 217 (cw BM):=by
 refine dW (n:=20) (fn:=b!) Tryz.func217 (by kernel_rfl) (by kernel_rfl) ?_;intro args p a h hp;unfold BM at h;split at h
 ·injection h with h;injection h with h1 h2;subst h1;subst h2;exact⟨_,To,rfl,λb=>by cases b<;>exact rfl,LY hp⟩
 ·cases h
noncomputable def F8:List (FuncId×PT):=(169,bh pM)::(210,cw BP)::(217,cw BM)::Bx
theorem xJ:bt H (λf=>aD f F8):=.cons Er (aS _) (.cons XH (b6 _) (.cons XE (b6 _) oe))
noncomputable def AD:fQ:={cv with cQ:=λf=>aD f F8}
theorem zR:Sx.Good H AD:=.of bX xJ bw
structure Nd where
 k:Int
 p:List UInt8
 v:List UInt8
 r:Nat->List UInt8
def bq (r:Nat->List UInt8):List SV:=[.str q (r 0),.str q (r 1),.str q (r 2),.str q (r 3),.str q (r 4),.str q (r 5),.str q (r 6),.str q (r 7),.str q (r 8),.str q (r 9),.str q (r 10),.str q (r 11),.str q (r 12),.str q (r 13),.str q (r 14),.str q (r 15)]
def Nd.yp (x:Nd)(l:Bool)(k:Int):SV:=.agg (.int .i64 l k::.str q x.p::.str q x.v::bq x.r)
def Nd.sv (x:Nd):SV:=x.yp q x.k
def cW:SV:=.agg [.int .i64 A 0,.str A [],.str A [],.str A [],.str A [],.str A [],.str A [],.str A [],.str A [],.str A [],.str A [],.str A [],.str A [],.str A [],.str A [],.str A [],.str A [],.str A [],.str A []]
def Gp:List SV->Option Nd
 | [.int .i64 q k,.str q p,.str q v,.str q r0,.str q r1,.str q r2,.str q r3,.str q r4,.str q r5,.str q r6,.str q r7,.str q r8,.str q r9,.str q r10,.str q r11,.str q r12,.str q r13,.str q r14,.str q r15]=>D ⟨k,p,v,λi=>[r0,r1,r2,r3,r4,r5,r6,r7,r8,r9,r10,r11,r12,r13,r14,r15].getD i []⟩
 | _=>G
theorem pI {l:List SV}{x:Nd}(h:Gp l=D x):SV.agg l=x.sv:=by
 unfold Gp at h;split at h
 ·injection h with h;subst h;rfl
 ·cases h
def c6 (t:List UInt8):Bool:=bR t&& !dx t&&C (aF t=[])
def aQ (t:List UInt8):Bool:=c6 t&&C (((ai t).length:Int)=32)
def L9 (t:List UInt8):cO:=.fork (c6 t) λb=>match b with
 | true=>.ret (.aO [.str q (ai t),.bool A A])
 | false=>.ret (.aO [.str A [],.bool A q])
def Tt (t:List UInt8):cO:=.fork (aQ t) λb=>match b with
 | true=>.ret (.aO [.str q (ai t),.bool A A])
 | false=>.ret (.aO [.str A [],.bool A q])
def gW (x:Nd)(least:Int):Bool:=C (least<=(x.p.length:Int))&&C ((x.p.length:Int)<=12)&&ij x.p
def cD (r:Nat->List UInt8):Nat->Int
 | 0=>0
 | i+1=>if r i=[] then cD r i else(i:Int)+1
noncomputable def OU (x:Nd):bg :=
 {α:=Nat,pre:=λ_ i=>i<=16,kY:=λ_ i=>16 - i,fresh:=0,slots:=λ_ i=>[(7,.int .i64 q i)],
  mem:=λ_ i=>[(1,.cells [.int .i64 q (cD x.r i)] 1 3)]}
noncomputable def Sl (x:Nd):fQ:={cv with cQ:=λf=>aD f F8,bD:=λf=>if f=201 then [(1,always (OU x))] else []}
theorem aaq (x:Nd):Sx.Good H (Sl x):=.of bX xJ bw
theorem Yy (t:List UInt8):VC.holds (gG AD 184 bW [.str q t] (L9 t))=((λP0:SV=>((t.length<9223372036854775808/\(bR t=A->(dx t=A->(c6 t=A->af P0 (SV.aO [SV.str q (ai t),SV.bool A A]))/\(c6 t=q->af P0 P0))/\(dx t=q->((!decide (aF t=[]))=A->(c6 t=A->af P0 (SV.aO [SV.str q (ai t),SV.bool A A]))/\(c6 t=q->af P0 P0))/\((!decide (aF t=[]))=q->(c6 t=A->af (SV.aO [SV.str q (ai t),SV.bool A A]) (SV.aO [SV.str q (ai t),SV.bool A A]))/\(c6 t=q->af (SV.aO [SV.str q (ai t),SV.bool A A]) P0))))/\(bR t=q->(c6 t=A->af P0 (SV.aO [SV.str q (ai t),SV.bool A A]))/\(c6 t=q->af P0 P0))))) (SV.aO [SV.str A [],SV.bool A q])):=by kernel_rfl
theorem abF (t:List UInt8):VC.holds (gG AD 151 a! [.str q t] (Tt t))=((λP0:SV=>((λP1:SV=>((t.length<9223372036854775808/\(bR t=A->(dx t=A->(aQ t=A->af P0 P1)/\(aQ t=q->af P0 P0))/\(dx t=q->((!decide (aF t=[]))=A->(aQ t=A->af P0 P1)/\(aQ t=q->af P0 P0))/\((!decide (aF t=[]))=q->((!decide ((↑(ai t).length:Int)=32))=A->(aQ t=A->af P0 P1)/\(aQ t=q->af P0 P0))/\((!decide ((↑(ai t).length:Int)=32))=q->(aQ t=A->af P1 P1)/\(aQ t=q->af P1 P0)))))/\(bR t=q->(aQ t=A->af P0 P1)/\(aQ t=q->af P0 P0))))) (SV.aO [SV.str q (ai t),SV.bool A A]))) (SV.aO [SV.str A [],SV.bool A q])):=by kernel_rfl
theorem VR (x:Nd)(least:Int)(R:SV->Prop):VC.holds (eO AD 207 c_ [x.sv,.int .i64 q least] R)=(((C (least<=(x.p.length:Int))=A->(C ((x.p.length:Int)<=12)=A->x.p.length<1152921504606846976/\R (SV.bool q (ij x.p)))/\(C ((x.p.length:Int)<=12)=q->R (SV.bool A q)))/\(C (least<=(x.p.length:Int))=q->R (SV.bool A q)))):=by kernel_rfl
theorem VG (x:Nd)(R:SV->Prop):VC.holds (eO (Sl x) 208 b7 [x.sv] R)=((λR0:Nat->SV=>((λP0:SB=>((∀(u4:Loop),(∃(u3:Nat),u3<=16/\0=(u3:Int)/\aa (SB.cells [SV.int .i64 A 0] 1 3) (SB.cells [SV.int .i64 q (cD x.r u3)] 1 3)/\aa (SB.loop I G u4) (SB.loop I G u4)/\aa P0 P0/\aa (SB.cells x.sv.cells 19 238) (SB.cells x.sv.cells 19 238)/\True)/\∀(u2:Nat),u2<=16->(C ((u2:Int)<16)=A->(0<=(u2:Int)/\(u2:Int)<16/\(u2:Int)<(↑(16:Nat):Int))/\((!decide (bT (cK x.r []) (u2:Int).toNat=[]))=A->u4=u4/\I6 ((u2:Int)+1)/\I6 ((u2:Int)+1)/\∃(u1:Nat),(u1<=16/\16 - u1<16 - u2)/\(u2:Int)+1=(u1:Int)/\aa (SB.cells [SV.int .i64 q ((u2:Int)+1)] 1 3) (SB.cells [SV.int .i64 q (cD x.r u1)] 1 3)/\aa (SB.loop I G u4) (SB.loop I G u4)/\aa P0 P0/\aa (SB.cells x.sv.cells 19 238) (SB.cells x.sv.cells 19 238)/\True) /\((!decide (bT (cK x.r []) (u2:Int).toNat=[]))=q->I6 ((u2:Int)+1)/\∃(u0:Nat),(u0<=16/\16 - u0<16 - u2)/\(u2:Int)+1=(u0:Int)/\aa (SB.cells [SV.int .i64 q (cD x.r u2)] 1 3) (SB.cells [SV.int .i64 q (cD x.r u0)] 1 3)/\aa (SB.loop I G u4) (SB.loop I G u4)/\aa P0 P0/\aa (SB.cells x.sv.cells 19 238) (SB.cells x.sv.cells 19 238)/\True))/\(C ((u2:Int)<16)=q->R (SV.int .i64 q (cD x.r u2)))))) (SB.cells (SV.agg (SV.int .i64 q x.k::SV.str q x.p::SV.str q x.v::cK R0 [])).cells 19 238))) (fun(n0:Nat)=>SV.str q (x.r n0))):=by kernel_rfl
theorem VQ (x:Nd)(R:SV->Prop):VC.holds (eO AD 185 c5 [x.sv] R)=((R (SV.bool (q&&A&&(q&&A&&(q&&A&&(q&&A&&(q&&A&&(q&&A&&(q&&A&&(q&&A&&(q&&A&&(q&&A&&(q&&A&&(q&&A&&(q&&A&&(q&&A&&(q&&A&&(q&&A&&(q&&A&&(q&&A&&(q&&A&&A)))))))))))))))&&A)))) (C (x.k=0)&&(C (x.p=[])&&(C (x.v=[])&&(C (x.r 0=[])&&(C (x.r 1=[])&&(C (x.r 2=[])&&(C (x.r 3=[])&&(C (x.r 4=[])&&(C (x.r 5=[])&&(C (x.r 6=[])&&(C (x.r 7=[])&&(C (x.r 8=[])&&(C (x.r 9=[])&&(C (x.r 10=[])&&(C (x.r 11=[])&&(C (x.r 12=[])&&(C (x.r 13=[])&&(C (x.r 14=[])&&(C (x.r 15=[])&&A)))))))))))))))&&A))))))):=by kernel_rfl
theorem sL :c6 t=A↔bR t=A/\dx t=q/\aF t=[]:=by simp only[c6,a_,Bool.not_eq_true',decide_eq_true_eq,and_assoc]
theorem qR :aQ t=A↔(bR t=A/\dx t=q/\aF t=[])/\(ai t).length=32:=by simp only[aQ,a_,sL,decide_eq_true_eq];constructor<;>rintro⟨h1,h2⟩<;>exact⟨h1,by omega⟩
theorem Jn (ht:t.length<9223372036854775808):az (gG AD 184 bW [.str q t] (L9 t)):=by
 refine az.of_eq (Yy t) ?_;have no:af (.aO [.str A [],.bool A q]) (.aO [.str A [],.bool A q]):=λ_=>rfl;have F: ∀ {p:Prop},¬ (bR t=A/\dx t=q/\aF t=[])->c6 t=A->p:=λh h'=>absurd (sL.1 h') h;refine⟨ht,λa=>⟨λb=>⟨F (by simp[b]),λ_=>no⟩,λb=>⟨λc=>⟨F (by simp at c;simp[c]),λ_=>no⟩,λc=> ?_⟩⟩,λa=>⟨F (by simp[a]),λ_=>no⟩⟩;have c:aF t=[]:=by simpa using c
 have hB:=sL.2 ⟨a,b,c⟩;exact⟨λ_ _=>rfl,λh=>by rw[hB] at h;cases h⟩
theorem Ld (ht:t.length<9223372036854775808):az (gG AD 151 a! [.str q t] (Tt t)):=by
 refine az.of_eq (abF t) ?_;have no:af (.aO [.str A [],.bool A q]) (.aO [.str A [],.bool A q]):=λ_=>rfl;have F: ∀ {p:Prop},¬ ((bR t=A/\dx t=q/\aF t=[])/\(ai t).length=32)->aQ t=A->p:=λh h'=>absurd (qR.1 h') h;refine⟨ht,λa=>⟨λb=>⟨F (by simp[b]),λ_=>no⟩,λb=>⟨λc=>⟨F (by simp at c;simp[c]),λ_=>no⟩,λc=>⟨λd=>⟨F (by simp at d;omega),λ_=>no⟩,λd=> ?_⟩⟩⟩,λa=>⟨F (by simp[a]),λ_=>no⟩⟩;have c:aF t=[]:=by simpa using c
 have d:((ai t).length:Int)=32:=by simpa using d
 have hB:=qR.2 ⟨⟨a,b,c⟩,by omega⟩;exact⟨λ_ _=>rfl,λh=>by rw[hB] at h;cases h⟩
def x5:List SV->Option (Prop×cO)
 | [.str q t]=>D (t.length<9223372036854775808,L9 t)
 | _=>G
def vu:List SV->Option (Prop×cO)
 | [.str q t]=>D (t.length<9223372036854775808,Tt t)
 | _=>G
theorem UO:av H 184 (cw x5):=by
 refine dW (n:=20) (fn:=bW) Tryz.func184 (by kernel_rfl) (by kernel_rfl) ?_;intro args p a h hp;unfold x5 at h;split at h
 ·injection h with h;injection h with h1 h2;subst h1;subst h2;exact⟨_,zR,rfl,λb=>by cases b<;>exact rfl,Jn hp⟩
 ·cases h
theorem NM:av H 151 (cw vu):=by
 refine dW (n:=20) (fn:=a!) Tryz.func151 (by kernel_rfl) (by kernel_rfl) ?_;intro args p a h hp;unfold vu at h;split at h
 ·injection h with h;injection h with h1 h2;subst h1;subst h2;exact⟨_,zR,rfl,λb=>by cases b<;>exact rfl,Ld hp⟩
 ·cases h
def ux:List SV->Option (Prop×SV)
 | [.agg l,.int .i64 q least]=>(match Gp l with
   | some x=>D (True,.bool q (gW x least))
   | none=>G)
 | _=>G
theorem Qe:av H 207 (bh ux):=by
 refine iO zR (n:=20) (fn:=c_) Tryz.func207 (by kernel_rfl) (by kernel_rfl) ?_;intro args p r h hp;unfold ux at h;split at h
 ·split at h
  ·rename_i l least _ x hx;injection h with h;injection h with h1 h2;subst h1;subst h2;rw[pI hx];refine⟨rfl,rfl,az.of_eq (VR x least _) ⟨λa=>⟨λb=>⟨?_,cX ?_⟩,λb=>cX ?_⟩,λa=>cX ?_⟩⟩
   ·have:=of_decide_eq_true b;omega
   ·rw[gW,a,b];rfl
   ·rw[gW,a,b];rfl
   ·rw[gW,a];rfl
  ·cases h
 ·cases h
theorem tH (r:Nat->List UInt8)(h:i<16):bT [r 0,r 1,r 2,r 3,r 4,r 5,r 6,r 7,r 8,r 9,r 10,r 11,r 12,r 13,r 14,r 15] i=r i:=by
 have:i=0∨i=1∨i=2∨i=3∨i=4∨i=5∨i=6∨i=7∨i=8∨i=9∨i=10∨i=11∨i=12∨i=13∨i=14∨i=15:=by omega
 rcases this with rfl | rfl | rfl | rfl | rfl | rfl | rfl | rfl | rfl | rfl | rfl | rfl | rfl | rfl | rfl | rfl<;>rfl
theorem AB {l':Bool}{a b:Int}(h:a=b):aa (.cells [.int .i64 l a] tot ty) (.cells [.int .i64 l' b] tot ty):=by subst h;exact aa.cells (λ_=>rfl) rfl
theorem Fi (x:Nd):az (eO (Sl x) 208 b7 [x.sv] (λv=>af v (.int .i64 q (cD x.r 16)))):=by
 refine az.of_eq (VG x _) ?_;intro R;refine⟨⟨0,by omega,rfl,AB rfl,aa.refl _,aa.refl _,aa.refl _,trivial⟩,λi hi=>⟨λa=> ?_,λa=> ?_⟩⟩
 ·have a:=of_decide_eq_true a;have ei:i<16:=by omega
  rw[X,tH x.r ei];refine⟨by omega,λb=>⟨rfl,by omega,by omega,i+1,by omega,by omega,AB ?_,aa.refl _,aa.refl _,aa.refl _,trivial⟩,λb=>⟨by omega,i+1,by omega,by omega,AB ?_,aa.refl _,aa.refl _,aa.refl _,trivial⟩⟩
  ·have b: ¬ x.r i=[]:=by simpa using b
   rw[cD,if_neg b]
  ·have b:x.r i=[]:=by simpa using b
   rw[cD,if_pos b]
 ·have a:=of_decide_eq_false a;have e:i=16:=by omega
  rw[e];exact λ_=>rfl
def tU:List SV->Option (Prop×SV)
 | [.agg l]=>(match Gp l with
   | some x=>D (True,.int .i64 q (cD x.r 16))
   | none=>G)
 | _=>G
theorem OY:av H 208 (bh tU):=by
 refine eX (dW (n:=20) (fn:=b7) Tryz.func208 (by kernel_rfl) (by kernel_rfl) ?_);intro args p a h hp;unfold tU at h;split at h
 ·split at h
  ·rename_i l x hx;injection h with h;injection h with h1 h2;subst h1;subst h2;rw[pI hx];exact⟨_,aaq x,rfl,rfl,Fi x⟩
  ·cases h
 ·cases h
def qj (x:Nd):Bool:=C (x.k=0)&&(C (x.p=[])&&(C (x.v=[])&&(Y 16).all λi=>decide (x.r i=[])))
def uw:List SV->Option (Prop×SV)
 | [.agg l]=>(match Gp l with
   | some x=>D (True,.bool q (qj x))
   | none=>G)
 | _=>G
theorem Qd:av H 185 (bh uw):=by
 refine iO zR (n:=20) (fn:=c5) Tryz.func185 (by kernel_rfl) (by kernel_rfl) ?_;intro args p r h hp;unfold uw at h;split at h
 ·split at h
  ·rename_i l x hx;injection h with h;injection h with h1 h2;subst h1;subst h2;rw[pI hx];refine⟨rfl,rfl,az.of_eq (VQ x _) (cX ?_)⟩;rw[qj,show Y 16=[0,1,2,3,4,5,6,7,8,9,10,11,12,13,14,15] from by decide]
   simp only[List.all_cons,List.all_nil,Bool.and_true]
  ·cases h
 ·cases h
noncomputable def F9:List (FuncId×PT):=(184,cw x5)::(151,cw vu)::(207,bh ux)::(208,bh tU)::(185,bh uw)::F8
theorem xK:bt H (λf=>aD f F9):=.cons UO (b6 _) (.cons NM (b6 _) (.cons Qe (aS _) (.cons OY (aS _) (.cons Qd (aS _) xJ))))
noncomputable def yV:fQ:={cv with cQ:=λf=>aD f F9}
theorem FU:Sx.Good H yV:=.of bX xK bw
def kL (x:Nd):Bool:=gW x 0&&(!decide (x.v=[])&&(C ((x.v.length:Int)<=80)&&C (cD x.r 16=0)))
def c7 (x:Nd)(leaf:Bool):List UInt8:=bif ij x.p then dI x.p leaf else []
def jI (x:Nd):List UInt8:=ff [aA (c7 x A),aA x.v]
def qp (x:Nd):List UInt8:=ff [aA (c7 x q),x.r 0]
def b5 (r:Nat->List UInt8)(i j:Nat):List UInt8:=if j<i then(if r j=[] then [128] else r j)else [128]
def yj (f:Nat->List UInt8):List SV:=[.str q (f 0),.str q (f 1),.str q (f 2),.str q (f 3),.str q (f 4),.str q (f 5),.str q (f 6),.str q (f 7),.str q (f 8),.str q (f 9),.str q (f 10),.str q (f 11),.str q (f 12),.str q (f 13),.str q (f 14),.str q (f 15),.str q (f 16)]
def fS (x:Nd):List UInt8:=ff [b5 x.r 16 0,b5 x.r 16 1,b5 x.r 16 2,b5 x.r 16 3,b5 x.r 16 4,b5 x.r 16 5,b5 x.r 16 6,b5 x.r 16 7,b5 x.r 16 8,b5 x.r 16 9,b5 x.r 16 10,b5 x.r 16 11,b5 x.r 16 12,b5 x.r 16 13,b5 x.r 16 14,b5 x.r 16 15,aA x.v]
def cS (x:Nd):List UInt8:=if x.k=0 then [128] else if x.k=1 then jI x else if x.k=2 then qp x else fS x
structure Nd.oN (x:Nd):Prop where
 p:x.p.length<=1000
 v:x.v.length<=1000
 r: ∀ j,j<16->(x.r j).length<=1000
noncomputable def ab5 (x:Nd):bg :={α:=Nat,pre:=λ_ i=>i<=16,kY:=λ_ i=>16 - i,fresh:=0,slots:=λ_ i=>[(7,.int .i64 q i)],mem:=λ_ i=>[(1,.cells (yj (b5 x.r i)) 17 9)]}
noncomputable def Sa (x:Nd):fQ:={cv with cQ:=λf=>aD f F9,bD:=λf=>if f=201 then [(1,always (ab5 x))] else []}
theorem aac (x:Nd):Sx.Good H (Sa x):=.of bX xK bw
def Cb (r0 r1 r2 r3 r4 r5 r6 r7 r8 r9 r10 r11 r12 r13 r14 r15:List UInt8):Nat->List UInt8:=λi=>[r0,r1,r2,r3,r4,r5,r6,r7,r8,r9,r10,r11,r12,r13,r14,r15].getD i []
def dB (r:Nat->List UInt8):Nat->List UInt8:=Cb (r 0) (r 1) (r 2) (r 3) (r 4) (r 5) (r 6) (r 7) (r 8) (r 9) (r 10) (r 11) (r 12) (r 13) (r 14) (r 15)
def bE:Nat->List UInt8:=Cb [] [] [] [] [] [] [] [] [] [] [] [] [] [] [] []
def bL (t:List UInt8):Nat->List UInt8:=Cb t [] [] [] [] [] [] [] [] [] [] [] [] [] [] []
def cL (s:List UInt8)(j:Nat):List UInt8:=if au s j=[128] then [] else au s j
def wR (s:List UInt8)(i j:Nat):List UInt8:=if j<i then cL s j else []
def dO:Nd:=⟨0,[],[],bE⟩
def nF (s:List UInt8):Nd:=⟨1,eH (ai (au (ai s) 0)),ai (au (ai s) 1),bE⟩
def tG (s:List UInt8):Nd:=⟨2,eH (ai (au (ai s) 0)),[],bL (au (ai s) 1)⟩
def iE (s:List UInt8):Nd:=⟨3,[],ai (au (ai s) 16),dB (cL (ai s))⟩
def ov (s:List UInt8):Int:=bif c6 (au s 0)&&fM (ai (au s 0))then(bif dS (ai (au s 0))then(bif c6 (au s 1)then 1 else -1)else 2)else -1
def qi (s:List UInt8):Int:=bif dX s then(if bQ s=2 then ov s else if bQ s=17 then(bif c6 (au s 16)then 3 else -1)else -1)else -1
def aq (s:List UInt8):Int:=if s=[128] then 0 else bif bR s&&(dx s&&C (aF s=[]))then qi (ai s)else -1
def getD (s:List UInt8):Nd:=if aq s=1 then nF s else if aq s=2 then tG s else if aq s=3 then iE s else dO
def U4 (s:List UInt8):cO:=.fork (C (aq s=0)) λb=>match b with
 | true=>.ret (.aO [cW,.bool A A])
 | false=>.fork (C (aq s=1)) λb=>match b with
   | true=>.ret (.aO [(nF s).yp A 1,.bool A A])
   | false=>.fork (C (aq s=2)) λb=>match b with
     | true=>.ret (.aO [(tG s).yp A 2,.bool A A])
     | false=>.fork (C (aq s=3)) λb=>match b with
       | true=>.ret (.aO [(iE s).yp A 3,.bool A A])
       | false=>.all Nd λx=>.ret (.aO [x.sv,.bool A q])
def iV (inl:List UInt8->Bool)(t:List UInt8):Bool:=aQ t||inl t
def ny (inl:List UInt8->Bool)(x:Nd):Bool:=gW x 1&&(C (x.v=[])&&(C (cD x.r 16=1)&&(aQ (x.r 0)||(inl (x.r 0)&&C ((getD (x.r 0)).k=3)))))
def dz (r:Nat->List UInt8):Nat->Int
 | 0=>0
 | i+1=>if r i=[] then dz r i else dz r i+1
def jE (inl:List UInt8->Bool)(r:Nat->List UInt8):Nat->Bool
 | 0=>A
 | i+1=>jE inl r i&&(C (r i=[])||iV inl (r i))
def dQ (inl:List UInt8->Bool)(x:Nd):Bool:=C (x.p=[])&&(C ((x.v.length:Int)<=80)&&(jE inl x.r 16&&C (2<=min (x.v.length:Int) 1+dz x.r 16)))
def iX (inl:List UInt8->Bool)(x:Nd):Bool:=if x.k=0 then qj x else if x.k=1 then kL x else if x.k=2 then ny inl x else if x.k=3 then dQ inl x else q
def C1 (inl:List UInt8->Bool)(s:List UInt8):Bool:=C (0<=aq s)&&(iX inl (getD s)&&C (cS (getD s)=s))
def Bd:Nat->List UInt8->Bool
 | 0,_=>q
 | n+1,t=>decide (t.length<32)&&(C1 (Bd n) t&& !decide ((getD t).k=0))
def bp (t:List UInt8):Bool:=Bd 32 t
def aX (x:Nd):Bool:=iX bp x
def aY (s:List UInt8):Bool:=C1 bp s
theorem abI (x:Nd)(R:SV->Prop):VC.holds (eO yV 186 Tryz.f186 [x.sv] R)=((True/\(gW {k:=x.k,p:=x.p,v:=x.v,r:=fun(u2:Nat)=>(cK x.r []).getD u2 []:Nd} 0=A->((!decide (x.v=[]))=A->(C ((x.v.length:Int)<=80)=A->True/\R (SV.bool (q&&A) (C (cD (fun(u1:Nat)=>(cK x.r []).getD u1 []) 16=(0:Int)))))/\(C ((x.v.length:Int)<=80)=q->R (SV.bool A q)))/\((!decide (x.v=[]))=q->R (SV.bool A q)))/\(gW {k:=x.k,p:=x.p,v:=x.v,r:=fun(u0:Nat)=>(cK x.r []).getD u0 []:Nd} 0=q->R (SV.bool A q)))):=by kernel_rfl
theorem MS (x:Nd)(R:SV->Prop):VC.holds (eO yV 190 Tryz.f190 [x.sv] R)=((x.p.length<1073741824/\(ij x.p=A->(dI x.p A).length<1152921504606846976/\D (SB.cells x.sv.cells 19 238)=D (SB.cells x.sv.cells 19 238)/\x.v.length<1152921504606846976/\(((2:Nat)=(2:Nat)/\(2:Nat)<=(2:Nat))/\(2:Nat)<=(140737488355328:Nat)/\(flat [aA (dI x.p A),aA x.v]).length<=140737488355328)/\(((0:Int)<=(192:Int)/\(192:Int)<=(192:Int))/\0<=(↑(flat [aA (dI x.p A),aA x.v]).length:Int)/\(↑(flat [aA (dI x.p A),aA x.v]).length:Int)<1152921504606846976)/\(↑(b8 192 (↑(flat [aA (dI x.p A),aA x.v]).length:Int).toNat).length:Int)+(↑(flat [aA (dI x.p A),aA x.v]).length:Int)<=9223372036854775807/\R (SV.str q (cat (b8 192 (↑(flat [aA (dI x.p A),aA x.v]).length:Int).toNat) (flat [aA (dI x.p A),aA x.v]))))/\(ij x.p=q->(0:Nat)<(1152921504606846976:Nat)/\D (SB.cells x.sv.cells 19 238)=D (SB.cells x.sv.cells 19 238)/\x.v.length<1152921504606846976/\(((2:Nat)=(2:Nat)/\(2:Nat)<=(2:Nat))/\(2:Nat)<=(140737488355328:Nat) /\(flat [aA [],aA x.v]).length<=140737488355328)/\(((0:Int)<=(192:Int)/\(192:Int)<=(192:Int))/\0<=(↑(flat [aA [],aA x.v]).length:Int)/\(↑(flat [aA [],aA x.v]).length:Int)<1152921504606846976)/\(↑(b8 192 (↑(flat [aA [],aA x.v]).length:Int).toNat).length:Int)+(↑(flat [aA [],aA x.v]).length:Int)<=9223372036854775807/\R (SV.str q (cat (b8 192 (↑(flat [aA [],aA x.v]).length:Int).toNat) (flat [aA [],aA x.v])))))):=by kernel_rfl
theorem Q9 (x:Nd)(R:SV->Prop):VC.holds (eO yV 191 Tryz.f191 [x.sv] R)=((x.p.length<1073741824/\(ij x.p=A->(dI x.p q).length<1152921504606846976/\D (SB.cells x.sv.cells 19 238)=D (SB.cells x.sv.cells 19 238)/\(((2:Nat)=(2:Nat)/\(2:Nat)<=(2:Nat))/\(2:Nat)<=(140737488355328:Nat)/\(flat [aA (dI x.p q),x.r 0]).length<=140737488355328)/\(((0:Int)<=(192:Int)/\(192:Int)<=(192:Int))/\0<=(↑(flat [aA (dI x.p q),x.r 0]).length:Int)/\(↑(flat [aA (dI x.p q),x.r 0]).length:Int)<1152921504606846976)/\(↑(b8 192 (↑(flat [aA (dI x.p q),x.r 0]).length:Int).toNat).length:Int)+(↑(flat [aA (dI x.p q),x.r 0]).length:Int)<=9223372036854775807/\R (SV.str q (cat (b8 192 (↑(flat [aA (dI x.p q),x.r 0]).length:Int).toNat) (flat [aA (dI x.p q),x.r 0]))))/\(ij x.p=q->(0:Nat)<(1152921504606846976:Nat)/\D (SB.cells x.sv.cells 19 238)=D (SB.cells x.sv.cells 19 238)/\(((2:Nat)=(2:Nat)/\(2:Nat)<=(2:Nat))/\(2:Nat)<=(140737488355328:Nat)/\(flat [aA [],x.r 0]).length<=140737488355328)/\(((0:Int)<=(192:Int)/\(192:Int)<=(192:Int)) /\0<=(↑(flat [aA [],x.r 0]).length:Int)/\(↑(flat [aA [],x.r 0]).length:Int)<1152921504606846976)/\(↑(b8 192 (↑(flat [aA [],x.r 0]).length:Int).toNat).length:Int)+(↑(flat [aA [],x.r 0]).length:Int)<=9223372036854775807/\R (SV.str q (cat (b8 192 (↑(flat [aA [],x.r 0]).length:Int).toNat) (flat [aA [],x.r 0])))))):=by kernel_rfl
theorem MT (x:Nd)(R:SV->Prop):VC.holds (eO yV 189 Tryz.f189 [x.sv] R)=(((0:Nat)<(1152921504606846976:Nat)/\R (SV.str A (aA [])))):=by kernel_rfl
theorem G3 (x:Nd)(R:SV->Prop):VC.holds (eO (Sa x) 192 Tryz.f192 [x.sv] R)=((λR0:Nat->(Nat)->SV=>((λR1:Nat->SV=>((λR2:Nat->(Nat)->SV=>((λR3:Nat->(Nat)->SV=>((λR4:Nat->(Nat)->SV=>((λR5:Nat->(Nat)->SV=>((λP0:SB=>((λP1:SB=>(((0:Nat)<(1152921504606846976:Nat)/\D P0=D P0/\(0:Nat)<(1152921504606846976:Nat)/\D P0=D P0/\(0:Nat)<(1152921504606846976:Nat)/\D P0=D P0/\(0:Nat)<(1152921504606846976:Nat)/\D P0=D P0/\(0:Nat)<(1152921504606846976:Nat)/\D P0=D P0/\(0:Nat)<(1152921504606846976:Nat)/\D P0=D P0/\(0:Nat)<(1152921504606846976:Nat)/\D P0=D P0/\(0:Nat)<(1152921504606846976:Nat)/\D P0=D P0/\(0:Nat)<(1152921504606846976:Nat)/\D P0=D P0/\(0:Nat)<(1152921504606846976:Nat)/\D P0=D P0/\(0:Nat)<(1152921504606846976:Nat)/\D P0=D P0/\(0:Nat)<(1152921504606846976:Nat)/\D P0=D P0/\(0:Nat)<(1152921504606846976:Nat)/\D P0=D P0/\(0:Nat)<(1152921504606846976:Nat)/\D P0=D P0/\(0:Nat)<(1152921504606846976:Nat)/\D P0=D P0/\(0:Nat)<(1152921504606846976:Nat)/\D P0=D P0/\(0:Nat)<(1152921504606846976:Nat)/\D P0=D P0/\∀(u4:Loop),(∃(u3:Nat),u3<=16/\0=(u3:Int) /\aa (SB.cells (YR (λ_=>SV.str A (aA [])) []) 17 9) (SB.cells (YR (λi=>R0 i u3) []) 17 9)/\aa (SB.loop I G u4) (SB.loop I G u4)/\aa P1 P1/\aa P0 P0/\aa (SB.cells x.sv.cells 19 238) (SB.cells x.sv.cells 19 238)/\True)/\∀(u2:Nat),u2<=16->(C ((u2:Int)<16)=A->(0<=(u2:Int)/\(u2:Int)<16/\(u2:Int)<(↑(16:Nat):Int))/\((!decide (bT (cK x.r []) (u2:Int).toNat=[]))=A->u4=u4/\(0<=(u2:Int)/\(u2:Int)<17)/\(u2:Int).toNat<17 /\I6 ((u2:Int)+1)/\∃(u1:Nat),(u1<=16/\16 - u1<16 - u2)/\(u2:Int)+1=(u1:Int)/\aa (SB.cells (YR (λi=>R2 i u2) []) 17 9) (SB.cells (YR (λi=>R3 i u1) []) 17 9)/\aa (SB.loop I G u4) (SB.loop I G u4)/\aa P1 P1/\aa P0 P0/\aa (SB.cells x.sv.cells 19 238) (SB.cells x.sv.cells 19 238)/\True)/\((!decide (bT (cK x.r []) (u2:Int).toNat=[]))=q->I6 ((u2:Int)+1)/\∃(u0:Nat),(u0<=16/\16 - u0<16 - u2)/\(u2:Int)+1=(u0:Int) /\aa (SB.cells (YR (λi=>R4 i u2) []) 17 9) (SB.cells (YR (λi=>R5 i u0) []) 17 9)/\aa (SB.loop I G u4) (SB.loop I G u4)/\aa P1 P1/\aa P0 P0/\aa (SB.cells x.sv.cells 19 238) (SB.cells x.sv.cells 19 238)/\True))/\(C ((u2:Int)<16)=q->x.v.length<1152921504606846976/\D P0=D P0/\(((17:Nat)=(17:Nat)/\(17:Nat)<=(17:Nat))/\(17:Nat)<=(140737488355328:Nat)/\(flat (cK (b5 x.r u2) [aA x.v])).length<=140737488355328)/\(((0:Int)<=(192:Int)/\(192:Int)<=(192:Int)) /\0<=(↑(flat (cK (b5 x.r u2) [aA x.v])).length:Int)/\(↑(flat (cK (b5 x.r u2) [aA x.v])).length:Int)<1152921504606846976)/\(↑(b8 192 (↑(flat (cK (b5 x.r u2) [aA x.v])).length:Int).toNat).length:Int)+(↑(flat (cK (b5 x.r u2) [aA x.v])).length:Int)<=9223372036854775807 /\R (SV.str q (cat (b8 192 (↑(flat (cK (b5 x.r u2) [aA x.v])).length:Int).toNat) (flat (cK (b5 x.r u2) [aA x.v])))))))) (SB.cells (SV.agg (SV.int .i64 q x.k::SV.str q x.p::SV.str q x.v::cK R1 [])).cells 19 238))) (SB.cells (aM SV.aP.cells 0 (SV.slc ((1:Nat)) 0 17 A 17).cells) 1 29))) (fun(n0:Nat) (u0:Nat)=>SV.str q (b5 x.r u0 n0)))) (fun(n0:Nat) (u2:Nat)=>SV.str q (b5 x.r u2 n0)))) (fun(n0:Nat) (u1:Nat)=>SV.str q (b5 x.r u1 n0)))) (fun(n0:Nat) (u2:Nat)=>SV.str q (if(u2:Int).toNat=n0 then bT (cK x.r []) (u2:Int).toNat else b5 x.r u2 n0)))) (fun(n0:Nat)=>SV.str q (x.r n0)))) (fun(n0:Nat) (u3:Nat)=>SV.str q (b5 x.r u3 n0))):=by kernel_rfl
end
end Go.Proofs.YtoibaecagklkaaaGreatDoor
