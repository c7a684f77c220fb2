/- A part of the proof. -/
import Derived.Test.YtoibaecagklkaaaGreatDoorMk
open Bool renaming and_eq_true->a_,false->q,true->A
open Decidable renaming decide->D
open Go.IntKind renaming i64->cD,u8->M
open Go.LoopState renaming ready->I
open Go.Proofs.Tryz renaming f151->a!,f169->bf,f170->bE,f184->b5,f185->c4,f207->c5,f208->b6,f210->b7,f217->b9,f220->c6,f58->b_,prog->H
open Int renaming le_refl->c7,toNat_natCast->X
open List renaming append_assoc->c_,append_nil->c!,cons_append->dm,drop_append_of_le_length->S,drop_drop->dQ,drop_left->ag,drop_succ_cons->V,drop_zero->d_,getElem?_cons_zero->d!,length_append->L,length_cons->N,length_drop->Q,length_nil->b!,length_pos_iff->cl,length_take->W,mem_range->ct,range->Y,take_append_drop->ec,take_append_of_le_length->Z,take_left->cx
open Nat renaming le_refl->cy,not_lt_zero->an,zero_add->ef,zero_le->aC
open Option renaming none->G,some->C
open UInt8 renaming ofNat->J
namespace Go.Proofs.YtoibaecagklkaaaGreatDoor
open Go Sx
variable {l z:Bool}{base:Int}{a b d p s t:f_}{i k n tot:Nat}{ty:TypeId}
section
open Go Sx
set_option maxRecDepth 20000
theorem Ct (h:n<=55):bA base n=[J (base+n).toNat]:=r_ h
theorem Fq (h: ¬ n<=55):bA base n=J (base+55+(digits n).length).toNat::digits n:=s_ h
theorem Qx {n:Int}(hb:base=128∨base=192)(h0:0<=n)(h:n<64)(h1:ai s 0=base+n):lead s=n/\¬ ai s 0<128/\(ai s 0<192↔base=128):=by
 unfold lead;rcases hb with rfl | rfl
 ·rw[r_ (by omega)];omega
 ·rw[s_ (by omega)];omega
structure vb (base:Int)(n:Nat)(s d t:f_):Prop where
 eq:s=J (base+55+d.length).toNat::(d++t)
 num:num d=n
 hd:ai d 0≠0
 len:1<=d.length/\d.length<=3
theorem aaC (h: ¬ n<=55)(h2:n<=1048576)(t:f_):vb base n (bA base n++t) (digits n) t:=by have h1:=Aq (n:=n) (by omega) (by omega);have h3:=cl.2 h1.1;exact⟨by rw[Fq h];rfl,B4 (by omega) (by omega),h1.2,by omega,Hu (by omega)⟩
theorem vb.afG (hb:base=128∨base=192)(h:vb base n s d t):ai s 0=base+55+d.length/\lead s=55+d.length/\¬ ai s 0<128/\(ai s 0<192↔base=128):=by
 have hl:=h.len;have h0:ai s 0=base+55+d.length:=by rw[h.eq,jt,ofNat_toNat (by omega) (by omega)]
 obtain⟨h1,h2,h3⟩:=Qx (s:=s) (base:=base) (n:=55+d.length) hb (by omega) (by omega) (by omega);exact⟨h0,h1,h2,h3⟩
theorem vb.part' (h:vb base n s d t):part s (d.length+1)=n/\ai s 1≠0:=by
 have hl:=h.len;constructor
 ·unfold part;rw[h.eq];have e:((d.length:Int)+1 - 1).toNat=d.length:=by omega
  rw[e,List.drop_one,List.tail_cons,cx];exact h.num
 ·rw[h.eq];have h2:=h.hd
  match d,hl with
  | c::d,_ =>rw[jt] at h2;rw[dm,wD];exact h2
theorem vb.cut (hb:base=128∨base=192)(hn:55<n)(hn2:n<=1048576)(h:vb base n s d t):cw s=D (n<=t.length)/\dn s=D (base=192)/\af s=t.take n/\aF s=t.drop n:=by
 obtain⟨b0,l1,l2,l3⟩:=h.afG hb;obtain⟨p1,p2⟩:=h.part';have hl:=h.len;have e1:lead s - 54=d.length+1:=by omega
 have hs:s.length=1+d.length+t.length:=by rw[h.eq];simp;omega
 have hlen:oU s (lead s - 54)=true:=i4.2 (by rw[e1,p1];exact⟨by omega,p2,by omega,by omega⟩);rw[e1] at hlen;obtain⟨c1,c2⟩:=mO (s:=s) l2 (by omega);refine⟨?_,?_,?_,?_⟩
 ·rw[Bool.eq_iff_iff,fJ];have hne:s≠[]:=by rw[h.eq];simp
  have hL:55<lead s:=by omega
  simp only[hne,ne_eq,not_false_eq_true,l2,hL,hlen,e1,p1,true_and,false_or,not_true_eq_false,false_and,or_false,p_];omega
 ·unfold dn;rcases hb with rfl | rfl
  ·have:=l3.2 rfl;simp;omega
  ·simp;omega
 ·rw[c1,e1,p1,h.eq];have e:((d.length:Int)+1).toNat=d.length+1:=by omega
  rw[e,V,ag,X]
 ·rw[c2,e1,p1,h.eq];have e:((d.length:Int)+1+n).toNat=d.length+n+1:=by omega
  rw[e,V,← dQ,ag]
theorem TE (hb:base=128∨base=192)(hn:n<=55)(h:s=J (base+n).toNat::t) :
  (cw s=A↔n<=t.length/\¬ (base=128/\n=1/\ai t 0<128))/\dn s=D (base=192)/\af s=t.take n/\aF s=t.drop n:=by
 have h0:ai s 0=base+n:=by rw[h,jt,ofNat_toNat (by omega) (by omega)]
 obtain⟨l1,l2,l3⟩:=Qx (s:=s) (base:=base) (n:=n) hb (by omega) (by omega) h0;have hs:s.length=1+t.length:=by rw[h];simp;omega
 obtain⟨c1,c2⟩:=p7 (s:=s) l2 (by omega);have hb1:0<t.length->ai s 1=ai t 0:=λhp=>by
  rw[h]
  match t,hp with
  | c::t,_=>rw[wD,jt]
 refine⟨?_,?_,?_,?_⟩
 ·rw[fJ];have hne:s≠[]:=by rw[h];simp
  have hL: ¬ (55:Int)<n:=by omega
  simp only[hne,ne_eq,not_false_eq_true,l2,hL,true_and,false_or,false_and,l1,l3];constructor
  ·rintro⟨a,b⟩;refine⟨by omega,fun⟨x,y,z⟩=>b ⟨x,by omega,by rw[hb1 (by omega)];exact z⟩⟩
  ·rintro⟨a,b⟩;refine⟨by omega,fun⟨x,y,z⟩=>b ⟨x,by omega,by rw[hb1 (by omega)] at z;exact z⟩⟩
 ·unfold dn;rcases hb with rfl | rfl
  ·have:=l3.2 rfl;simp;omega
  ·simp;omega
 ·rw[c1,l1,h,X];rfl
 ·rw[c2,l1,h];have e:(1+(n:Int)).toNat=n+1:=by omega
  rw[e,V]
theorem PX {x:f_}(hb:base=128∨base=192)(hx:x.length<=1048576)(h1: ¬ (base=128/\x.length=1/\ai x 0<128))(rest:f_) :
  cw (bA base x.length++x++rest)=A/\dn (bA base x.length++x++rest)=D (base=192)/\af (bA base x.length++x++rest)=x/\aF (bA base x.length++x++rest)=rest:=by
 rw[c_];by_cases hn:x.length<=55
 ·obtain⟨g1,g2,g3,g4⟩:=TE (s:=bA base x.length++(x++rest)) (t:=x++rest) hb hn (by rw[Ct hn];rfl);refine⟨g1.2 ⟨by simp,fun⟨a,b,c⟩=>h1 ⟨a,b,?_⟩⟩,g2,by rw[g3,cx],by rw[g4,ag]⟩
  rwa [k5 (c7 _) (by omega)] at c
 ·obtain⟨g1,g2,g3,g4⟩:=(aaC (base:=base) hn hx (x++rest)).cut hb (by omega) hx;exact⟨by rw[g1];simp,g2,by rw[g3,cx],by rw[g4,ag]⟩
theorem we (h:b.length=1/\ai b 0<128):aq b=b:=r_ h
theorem sW (hb:b.length<=1048576)(rest:f_):cw (aq b++rest)=A/\dn (aq b++rest)=q/\af (aq b++rest)=b/\aF (aq b++rest)=rest:=by
 by_cases h:b.length=1/\ai b 0<128
 ·rw[we h]
  match b,h with
  | [c],h =>have h0:ai ([c]++rest) 0<128:=h.2;obtain⟨g1,g2,g3⟩:=mu h0;exact⟨fJ.2 ⟨by simp,.inl h0⟩,g1,by rw[g2];rfl,by rw[g3];rfl⟩
 ·rw[mH h];exact PX (base:=128) (.inl rfl) hb (λx=>h x.2) rest
theorem sX (b:f_):(aq b).length<=b.length+9:=by
 by_cases h:b.length=1/\ai b 0<128
 ·rw[we h];omega
 ·rw[mH h];have:=sj 128 b.length;simp only[L];omega
end
namespace Sx
open Go
theorem Pz {P:Program}{f:FuncId}{fn:Func}(hf:P.funcs[f]?=C fn) (hn:(fn.name== "runtime.NumGoroutine")=q) (hb:fn.body.isSome=A)  {spec:List SV->Option (Prop×cK)}
  (h: ∀ args p a,spec args=C (p,a)->p->∃ cfg args',Good P cfg/\(∀ E,SV.vals E args'=SV.vals E args)/\SV.fH 0 args'=A/\a.Ok/\ay (fE P (calling P cfg n) [] wq (cfg.aW f) cfg.rounds fn args' [] 0 (λv m _=>a.fit v m))):ax P f (bY spec):=by
 intro args m nx K hk hwf hargs Γ E w hs;unfold bY at hk;split at hk
 ·rename_i p a hr;obtain⟨hp,hk⟩:=hk;obtain⟨cfg,args',hg,e,h1,h2,h3⟩:=h _ _ _ hr hp;have hc:=fy hg hf hn hb h3 rfl h1 (aJ.none w hs.Cl);rw[SV.mI h1 (λ_=>0) E,e,kO] at hc;refine fN hf hn hb (hc.mono ?_);rintro e w' ⟨v,rfl,E',sv,m',nx',_,_,g3,g4,g5⟩;refine⟨v,rfl,?_⟩;cases sv with
  | none=>exact g5.elim
  | some u=>rw[g3 u rfl];exact cK.told hs hwf g4 h2 g5 hk
 ·exact hk.elim
theorem fj {P:Program}{f:FuncId}{spec:List SV->Option (Prop×SV)}(h:ax P f (bY λargs=>(spec args).map λp=>(p.1,.ret p.2))):ax P f (bn spec):=by
 intro args m nx K hk;refine h args m nx K ?_;unfold bn at hk;unfold bY;split at hk
 ·rename_i p r hr;simp only[hr,Option.map_some];exact hk
 ·exact hk.elim
end Sx
section
open Go Sx
set_option maxRecDepth 20000
structure dr (n:Nat)(t:Nat->Bool)(i:Nat):Prop where
 le:i<=n
 all: ∀ j,j<i->t j=A
noncomputable def MG (tmp n:Nat)(t:Nat->Bool):aY :={α:=Nat,pre:=λ_ i=>dr n t i,kH:=λ_ i=>n - i,fresh:=0,slots:=λ_ i=>[(tmp,.int .i64 q i)],mem:=λ_ _=>[]}
def Iu (p:f_)(i:Nat):Bool:=!decide (15<ai p i)
def jO (p:f_):Bool:=(Y p.length).all (Iu p)
noncomputable def U1 (p:f_):fD:={cv with cT:=λf=>aD f xe,aW:=λf=>if f=169 then [(2,always (MG 6 p.length (Iu p)))] else []}
theorem adF (p:f_):Sx.Good H (U1 p):=.of bR lB bq
def lC (k:f_)(j:Nat):Int:=if j% 2=0 then ai k (j / 2) / 16 else ai k (j / 2)% 16
def au (k:f_):f_:=dG (lC k) 0 (2*k.length)
noncomputable def ZJ (k:f_):aY :=
 {α:=Nat×Nat,pre:=λ_ x=>x.1<=k.length/\2*x.1<=x.2,kH:=λ_ x=>k.length - x.1,fresh:=1,slots:=λst x=>[(11,.int .i64 q x.1),(3,.aX st.nx 1 q 0 (2*x.1) x.2)],
  mem:=λst x=>[(st.nx,.rows q (2*x.1) [.int .u8 (lC k)] q x.2 5)]}
noncomputable def UZ (k:f_):fD:={cv with cT:=λf=>aD f xe,aW:=λf=>if f=58 then [(3,always (ZJ k))] else []}
theorem adD (k:f_):Sx.Good H (UZ k):=.of bR lB bq
def iW (p:f_)(j:Nat):Int:=bitsOf .or (ai p (2*(j:Int))*16% 256) (ai p (2*(j:Int)+1))
def br (p:f_):f_:=dG (iW p) 0 (p.length / 2)
noncomputable def Uy (p:f_):aY :=
 {α:=Nat×(Nat->Int),pre:=λ_ x=>x.1<=p.length / 2/\∀ j,j<x.1->x.2 j=iW p j,kH:=λ_ x=>p.length / 2 - x.1,fresh:=0,slots:=λ_ x=>[(11,.int .i64 q x.1)],
  mem:=λst x=>match slot st.tmps 3 with
   | some (.aX k _ _ _ _ _)=>(match st.m.get k with
     | some (.rows z n _ ro tot ty)=>[(k,.rows z n [.int .u8 x.2] ro tot ty)]
     | _=>[])
   | _=>[]}
noncomputable def U0 (p:f_):fD:={cv with cT:=λf=>aD f xe,aW:=λf=>if f=170 then [(3,always (Uy p))] else []}
theorem adE (p:f_):Sx.Good H (U0 p):=.of bR lB bq
def gR (leaf odd:Bool):Int:=(bif leaf then 2 else 0)+(bif odd then 1 else 0)
theorem YP (p:f_)(R:SV->Prop):VC.holds (eZ (U1 p) 169 bf [.str q p] R)=(((∃(c:Nat),dr p.length (Iu p) c/\0=(c:Int)/\True)/\∀(a:Nat),dr p.length (Iu p) a->Fk ((a:Int)<(p.length:Int)) ((0<=(a:Int)/\(a:Int)<(p.length:Int))/\Fk (15<ai p (a:Int)) (R (SV.bool A q)) (I6 ((a:Int)+1)/\∃(b:Nat),(dr p.length (Iu p) b/\p.length - b<p.length - a)/\(a:Int)+1=(b:Int)/\True)) (R (SV.bool A A)))):=by kernel_rfl
theorem abu (k:f_)(R:SV->Prop):VC.holds (eZ (UZ k) 58 b_ [.str q k] R)=((((-9223372036854775808:Int)<=2*(k.length:Int)/\2*(k.length:Int)<=9223372036854775807)/\((0:Int)<=2*(k.length:Int)/\1*(2*(k.length:Int))<=140737488355328/\2*(k.length:Int)<=9223372036854775807)/\(∃(c:Nat×Nat),(c.1<=k.length/\2*c.1<=c.2)/\0=(c.1:Int)/\((0:Nat)=(0:Nat)/\(0:Nat)=2*c.1/\(2*(k.length:Int)).toNat=c.2)/\True/\aa (SB.cells [] ((2*(k.length:Int)).toNat*1) 5) (SB.rows q (2*c.1) [av.int M (lC k)] q c.2 5)/\True)/\∀(a:Nat×Nat),a.1<=k.length/\2*a.1<=a.2->Fk ((a.1:Int)<(k.length:Int)) ((0<=(a.1:Int)/\(a.1:Int)<(k.length:Int))/\(0<=(a.1:Int)/\(a.1:Int)<(k.length:Int))/\(0<=ai k (a.1:Int)/\ai k (a.1:Int)<=255/\(0:Int)<=(15:Int)/\(15:Int)<=(255:Int))/\((0:Nat)+2*a.1<=2*a.1/\True/\2*(2*a.1+2)*1<=(281474976710656:Nat)/\2*a.1+2<(9223372036854775808:Nat))/\a.2=a.2*1/\∀(d:Nat),2*a.1+2<=d->((-9223372036854775808:Int)<=(a.1:Int)+1 /\(a.1:Int)+1<=(9223372036854775807:Int))/\∃(b:Nat×Nat),((b.1<=k.length/\2*b.1<=b.2)/\k.length - b.1<k.length - a.1)/\(a.1:Int)+1=(b.1:Int)/\((0:Nat)=(0:Nat)/\2*a.1+2=2*b.1/\d=b.2)/\True/\aa (SB.rows q (2*a.1+2) [av.int M fun(e:Nat)=>if e<2*a.1 then lC k e else EI [ai k (a.1:Int) / 16,bitsOf BinOp.and (ai k (a.1:Int)) 15] (e - 2*a.1)] q (d*1) 5) (SB.rows q (2*b.1) [av.int M (lC k)] q b.2 5)/\True) ((0:Nat)+2*a.1<=2*a.1/\R (SV.str q (dG (lC k) 0 (2*a.1)))))):=by kernel_rfl
theorem YO (p:f_)(R:SV->Prop):VC.holds (eZ (U0 p) 170 bE [.str q p] R)=(((0<=(p.length:Int)/\(p.length:Int)<=9223372036854775807/\(0:Int)<(2:Int))/\((p.length:Int) / 2=(p.length:Int) / 2/\0<=(p.length:Int) / 2/\1*((p.length:Int) / 2)<=140737488355328/\(p.length:Int) / 2<=(9223372036854775807:Int))/\(∃(c:Nat×(Nat->Int)),(c.1<=p.length / 2/\∀(d:Nat),d<c.1->c.2 d=iW p d)/\0=(c.1:Int)/\aa (SB.rows q ((p.length:Int) / 2).toNat [av.int M fun(_:Nat)=>(0:Int)] q (((p.length:Int) / 2).toNat*1) 5) (SB.rows q ((p.length:Int) / 2).toNat [av.int M c.2] q (((p.length:Int) / 2).toNat*1) 5)/\True)/\∀(a:Nat×(Nat->Int)),(a.1<=p.length / 2/\∀(e:Nat),e<a.1->a.2 e=iW p e)->Fk ((a.1:Int)<(↑((p.length:Int) / 2).toNat:Int)) (((-9223372036854775808:Int)<=2*(a.1:Int)/\2*(a.1:Int)<=9223372036854775807)/\((0:Int)<=2*(a.1:Int)/\2*(a.1:Int)<(p.length:Int))/\((-9223372036854775808:Int)<=2*(a.1:Int)/\2*(a.1:Int)<=9223372036854775807)/\((-9223372036854775808:Int)<=2*(a.1:Int)+1 /\2*(a.1:Int)+1<=(9223372036854775807:Int))/\((0:Int)<=2*(a.1:Int)+1/\2*(a.1:Int)+1<(p.length:Int))/\(0<=ai p (2*(a.1:Int))*16% (256:Int)/\ai p (2*(a.1:Int))*16% (256:Int)<=(255:Int)/\0<=ai p (2*(a.1:Int)+1)/\ai p (2*(a.1:Int)+1)<=255)/\(0<=(a.1:Int)/\(a.1:Int)<(↑((p.length:Int) / 2).toNat:Int))/\0+(a.1:Int).toNat<((p.length:Int) / 2).toNat/\I6 ((a.1:Int)+1)/\∃(b:Nat×(Nat->Int)),((b.1<=p.length / 2/\∀(f:Nat),f<b.1->b.2 f=iW p f)/\p.length / 2 - b.1<p.length / 2 - a.1)/\(a.1:Int)+1=(b.1:Int)/\aa (SB.rows q ((p.length:Int) / 2).toNat [av.int M fun(g:Nat)=>if g=0+(a.1:Int).toNat then bitsOf BinOp.or (ai p (2*(a.1:Int))*16% (256:Int)) (ai p (2*(a.1:Int)+1))else a.2 g] q (((p.length:Int) / 2).toNat*1) 5) (SB.rows q ((p.length:Int) / 2).toNat [av.int M b.2] q (((p.length:Int) / 2).toNat*1) 5)/\True) (0+((p.length:Int) / 2).toNat<=((p.length:Int) / 2).toNat/\R (SV.str q (dG a.2 0 ((p.length:Int) / 2).toNat))))):=by kernel_rfl
theorem abt (a b:Bool)(R:SV->Prop):VC.holds (eZ afv 220 c6 [.bool q a,.bool q b] R)=((Bk a (Bk b (R (SV.int .u8 A 3)) (Bk a (R (SV.int .u8 A 2)) (Bk b (R (SV.int .u8 A 1)) (R (SV.int .u8 A 0))))) (Bk a (R (SV.int .u8 A 2)) (Bk b (R (SV.int .u8 A 1)) (R (SV.int .u8 A 0)))))):=by kernel_rfl
theorem dh {a b:Bool}(h:a=b):ah (.bool l a) (.bool q b):=λE=>by subst h;rfl
theorem dr.next {t:Nat->Bool}(h:dr n t i)(hi:(i:Int)<(n:Int))(ht:t i=A):dr n t (i+1) :=
 ⟨by omega,λj hj=>by
  by_cases e:j=i
  ·subst e;exact ht
  ·exact h.all j (by omega)⟩
theorem dr.zero (n:Nat)(t:Nat->Bool):dr n t 0:=⟨aC _,λ_j hj=>absurd hj (an _)⟩
theorem dr.done {t:Nat->Bool}(h:dr n t i)(hi: ¬ (i:Int)<(n:Int)):(Y n).all t=true:=by rw[List.all_eq_true];intro j hj;have:=ct.1 hj;exact h.all j (by omega)
theorem all_none {t:Nat->Bool}(hi:(i:Int)<(n:Int))(ht:t i=q):(Y n).all t=false:=by rw[List.all_eq_false];exact⟨i,ct.2 (by omega),by rw[ht];decide⟩
theorem IA (hp:p.length<1152921504606846976):ay (eZ (U1 p) 169 bf [.str q p] (λv=>ah v (.bool q (jO p)))):=by
 refine ay.mS (YP p _) (by delta Fk;exact rfl) ?_;refine⟨⟨0,dr.zero _ _,rfl,trivial⟩,λx hx=>⟨λh=> ?_,λh=> ?_⟩⟩
 ·have h:(x:Int)<(p.length:Int):=l_ h;refine⟨by omega,λg=>dh ?_,λg=>⟨by omega,x+1,⟨hx.next h ?_,by omega⟩,by omega,trivial⟩⟩
  ·exact(all_none h (by rw[Iu,g];rfl)).symm
  ·rw[Iu,g];rfl
 ·have h: ¬ (x:Int)<(p.length:Int):=m_ h;exact dh (hx.done h).symm
def qw:List SV->Option (Prop×SV)
 | [.str q p]=>C (p.length<1152921504606846976,.bool q (jO p))
 | _=>G
theorem F6:ax H 169 (bn qw):=by
 refine fj (ee (n:=20) Tryz.func169 (by kernel_rfl) (by kernel_rfl) ?_);intro args p a h hp;unfold qw at h;split at h
 ·cases h;exact⟨_,adF _,rfl,rfl,IA hp⟩
 ·cases h
theorem afi {b:Int}(h0:0<=b)(h1:b<256):bitsOf .and b 15=b% 16:=by obtain⟨n,rfl⟩:=Int.eq_ofNat_of_zero_le h0;show(((n:Int).toNat &&& (15:Int).toNat:Nat):Int)=_;have:n &&& 15=n% 16:=Nat.and_two_pow_sub_one_eq_mod n 4;simp only[X];rw[show(15:Int).toNat=15 from rfl,this];omega
theorem LL {z':Bool}{n':Nat}{f g:Nat->Int}{tot':Nat}(hz:z=z')(hn:n=n')(ht:tot=tot')(h: ∀ i,i<n->f i=g i):aa (.rows z n [.int .u8 f] q tot ty) (.rows z' n' [.int .u8 g] q tot' ty):=by
 subst hz;refine Sx.aa.Gq hn ht rfl λi k c' hi hk=>⟨.int .u8 f,?_,?_⟩
 ·match k,hk with
  | 0,_=>rfl
 ·match k,hk with
  | 0,hk =>simp only[d!,Option.some.injEq] at hk;subst hk;simp only[av.at,h i hi]
theorem Tu {tot':Nat}{az:List av}(h:tot=tot'):aa (.cells [] tot ty) (.rows z 0 az q tot' ty):=by subst h;refine aa.of rfl rfl λ_=> ?_;refine⟨rfl,λE o ⟨c,fr,h1,h2,_,h4⟩=>⟨c,fr,h1,λ_=>h2,by omega,h4,λi k col hi=>absurd hi (an _)⟩,λ_=>rfl⟩
theorem N2 (k:f_)(x i:Nat)(hi:i<2*x+2)(h1: ¬ i<2*x):EI [ai k (x:Int) / 16,bitsOf .and (ai k (x:Int)) 15] (i - 2*x)=lC k i:=by
 have hb:=dW k (x:Int);rw[afi hb.1 hb.2];unfold lC;by_cases e:i=2*x
 ·subst e;have e2:2*x / 2=x:=by omega
  rw[r_ (by omega),show((2*x:Nat):Int) / 2=(x:Int)by omega,Nat.sub_self];rfl
 ·have e:i=2*x+1:=by omega
  subst e;rw[s_ (by omega),show((2*x+1:Nat):Int) / 2=(x:Int)by omega,show 2*x+1 - 2*x=1 by omega];rfl
theorem Lc {k:f_}(hk:k.length<1099511627776):ay (eZ (UZ k) 58 b_ [.str q k] (λv=>ah v (.str q (au k)))):=by
 refine ay.mS (abu k _) (by delta Fk;exact rfl) ?_;refine⟨by omega,by omega,⟨(0,2*k.length),⟨aC _,aC _⟩,rfl,⟨rfl,rfl,by omega⟩,trivial,Tu (by omega),trivial⟩,λx hx=>⟨λh=> ?_,λh=> ?_⟩⟩
 ·have h:(x.1:Int)<(k.length:Int):=l_ h;have hb:=dW k (x.1:Int);refine⟨by omega,by omega,by omega,⟨by omega,trivial,by omega,by omega⟩,by omega,λc hc=>⟨by omega,(x.1+1,c),⟨⟨by show x.1+1<=_;omega,by show 2*(x.1+1)<=c;omega⟩,by show _ - (x.1+1)<_;omega⟩,by show(x.1:Int)+1=((x.1+1:Nat):Int);omega,⟨rfl,rfl,rfl⟩,trivial,LL rfl rfl (Nat.mul_one c) λi hi=> ?_,trivial⟩⟩;by_cases h1:i<2*x.1
  ·rw[r_ h1]
  ·rw[s_ h1];exact N2 k x.1 i hi h1
 ·have h: ¬ (x.1:Int)<(k.length:Int):=m_ h;have e:x.1=k.length:=by have:=hx.1;omega
  exact⟨by omega,iJ (by rw[e];rfl)⟩
def o7:List SV->Option (Prop×SV)
 | [.str q k]=>C (k.length<1099511627776,.str q (au k))
 | _=>G
theorem Da:ax H 58 (bn o7):=by
 refine fj (ee (n:=20) Tryz.func58 (by kernel_rfl) (by kernel_rfl) ?_);intro args p a h hp;unfold o7 at h;split at h
 ·cases h;exact⟨_,adD _,rfl,rfl,Lc hp⟩
 ·cases h
theorem Iy (hp:p.length<1099511627776):ay (eZ (U0 p) 170 bE [.str q p] (λv=>ah v (.str q (br p)))):=by
 refine ay.mS (YO p _) (by delta Fk;exact rfl) ?_;have e:((p.length:Int) / 2).toNat=p.length / 2:=by omega
 rw[e];refine⟨by omega,⟨rfl,by omega,by omega,by omega⟩,⟨(0,λ_=>0),⟨aC _,λj hj=>absurd hj (an _)⟩,rfl,aa.refl _,trivial⟩,λx hx=>⟨λh=> ?_,λh=> ?_⟩⟩
 ·have h:(x.1:Int)<((p.length / 2:Nat):Int):=l_ h;have b1:=dW p (2*(x.1:Int));have b2:=dW p (2*(x.1:Int)+1);refine⟨by omega,by omega,by omega,by omega,by omega,by omega,by omega,by omega,by omega,(x.1+1,λj=>if j=x.1 then iW p x.1 else x.2 j),⟨⟨by show x.1+1<=_;omega,λj hj=> ?_⟩,by show _ - (x.1+1)<_;omega⟩,by show(x.1:Int)+1=((x.1+1:Nat):Int);omega,?_,trivial⟩
  ·show(if j=x.1 then iW p x.1 else x.2 j)=iW p j
   by_cases ej:j=x.1
   ·rw[r_ ej,ej]
   ·rw[s_ ej];exact hx.2 j (by have:j<x.1+1:=hj;omega)
  ·refine LL rfl rfl rfl λi hi=> ?_;simp only[ef,X];rfl
 ·have h: ¬ (x.1:Int)<((p.length / 2:Nat):Int):=m_ h;have e1:x.1=p.length / 2:=by have:=hx.1;omega
  refine⟨by omega,iJ ?_⟩;unfold br dG;apply List.map_congr_left;intro j hj;rw[ct] at hj;rw[ef,hx.2 j (by omega)]
def qv:List SV->Option (Prop×SV)
 | [.str q p]=>C (p.length<1099511627776,.str q (br p))
 | _=>G
theorem F5:ax H 170 (bn qv):=by
 refine fj (ee (n:=20) Tryz.func170 (by kernel_rfl) (by kernel_rfl) ?_);intro args p a h hp;unfold qv at h;split at h
 ·cases h;exact⟨_,adE _,rfl,rfl,Iy hp⟩
 ·cases h
def zj:List SV->Option (Prop×SV)
 | [.bool q a,.bool q b]=>C (True,.int .u8 q (gR a b))
 | _=>G
theorem Xh:ax H 220 (bn zj):=by
 refine je afB (n:=20) Tryz.func220 (by kernel_rfl) (by kernel_rfl) ?_;intro args p r h hp;unfold zj at h;split at h
 ·rename_i a b;cases h;refine⟨rfl,rfl,ay.mS (abt a b _) (by delta Bk;exact rfl) ?_⟩;cases a<;>cases b<;>simp[ah,SV.val,gR]
 ·cases h
noncomputable def WN:List (FuncId×PT):=(169,bn qw)::(58,bn o7)::(170,bn qv)::(220,bn zj)::xe
theorem SL:bp H (λf=>aD f WN):=.cons F6 (aS _) (.cons Da (aS _) (.cons F5 (aS _) (.cons Xh (aS _) lB)))
noncomputable def JF:fD:={cv with cT:=λf=>aD f WN}
theorem V3:Sx.Good H JF:=.of bR SL bq
def dS (p:f_)(leaf:Bool):f_:=br (J (gR leaf (D ((p.length:Int)% 2=1))).toNat::(bif D ((p.length:Int)% 2=1)then p else 0::p))
def Xn (p:f_)(leaf:Bool):cK:=.fork (jO p) λb=>match b with
 | true=>.ret (.aN [.str q (dS p leaf),.bool A A])
 | false=>.ret (.aN [.str A [],.bool A q])
def jN (s:f_):Bool:=D (au s≠[])&&D (ai (au s) 0<=3)&&(D (ai (au s) 0% 2=1)||decide (ai (au s) 1=0))
def eI (s:f_):Bool:=D (2<=ai (au s) 0)
def eU (s:f_):f_:=if ai (au s) 0% 2=1 then(au s).drop 1 else(au s).drop 2
def Xi (s:f_):cK:=.fork (jN s) λb=>match b with
 | true=>.ret (.aN [.str q (eU s),.bool q (eI s),.bool A A])
 | false=>.ret (.aN [.str A [],.bool A q,.bool A q])
theorem aeU (p:f_)(leaf:Bool):VC.holds (gT JF 210 b7 [.str q p,.bool q leaf] (Xn p leaf))=((p.length<1152921504606846976/\Bk (!jO p) (Bk (jO p) (ah (SV.aN [SV.str A [],SV.bool A q]) (SV.aN [SV.str q (dS p leaf),SV.bool A A])) (ah (SV.aN [SV.str A [],SV.bool A q]) (SV.aN [SV.str A [],SV.bool A q]))) ((0<=(p.length:Int)/\(p.length:Int)<=9223372036854775807/\(0:Int)<(2:Int))/\True/\(0<=(p.length:Int)/\(p.length:Int)<=9223372036854775807/\(0:Int)<(2:Int))/\Bk (!decide ((p.length:Int)% 2=(1:Int))) ((↑(1:Nat):Int)+1<=(9223372036854775807:Int)/\(↑(2:Nat):Int)+(p.length:Int)<=9223372036854775807/\(cat (cat [J (gR leaf (D ((p.length:Int)% 2=(1:Int)))).toNat] [(0:UInt8)]) p).length<1099511627776/\Bk (jO p) (ah (SV.aN [SV.str q (br (cat (cat [J (gR leaf (D ((p.length:Int)% 2=(1:Int)))).toNat] [(0:UInt8)]) p)),SV.bool A A]) (SV.aN [SV.str q (dS p leaf),SV.bool A A])) (ah (SV.aN [SV.str q (br (cat (cat [J (gR leaf (D ((p.length:Int)% 2=(1:Int)))).toNat] [(0:UInt8)]) p)),SV.bool A A]) (SV.aN [SV.str A [],SV.bool A q]))) ((↑(1:Nat):Int)+(p.length:Int)<=9223372036854775807/\(cat [J (gR leaf (D ((p.length:Int)% 2=(1:Int)))).toNat] p).length<1099511627776/\Bk (jO p) (ah (SV.aN [SV.str q (br (cat [J (gR leaf (D ((p.length:Int)% 2=(1:Int)))).toNat] p)),SV.bool A A]) (SV.aN [SV.str q (dS p leaf),SV.bool A A])) (ah (SV.aN [SV.str q (br (cat [J (gR leaf (D ((p.length:Int)% 2=(1:Int)))).toNat] p)),SV.bool A A]) (SV.aN [SV.str A [],SV.bool A q])))))):=by kernel_rfl
theorem aeT (s:f_):VC.holds (gT JF 217 b9 [.str q s] (Xi s))=((λa:SV=>((λb:SV=>((λc:f_=>((λd:f_=>((s.length<1099511627776/\Fk (au s=[]) (Bk (jN s) (ah a b) (ah a a)) (((0:Int)<=(0:Int)/\0<(↑(au s).length:Int))/\Fk (ai (au s) 0=(3:Int)) (((0:Int)<=(1:Int)/\1<=(↑(au s).length:Int)/\(↑(au s).length:Int)<=(↑(au s).length:Int))/\Bk (jN s) (ah (SV.aN [SV.str (q&&A&&q) c,SV.bool A A,SV.bool A A]) b) (ah (SV.aN [SV.str (q&&A&&q) c,SV.bool A A,SV.bool A A]) a)) (Fk (ai (au s) 0=(2:Int)) (((0:Int)<=(1:Int)/\1<(↑(au s).length:Int))/\Bk (!decide (ai (au s) 1=(0:Int))) (Bk (jN s) (ah a b) (ah a a)) (((0:Int)<=(2:Int)/\2<=(↑(au s).length:Int)/\(↑(au s).length:Int)<=(↑(au s).length:Int))/\Bk (jN s) (ah (SV.aN [SV.str (q&&A&&q) d,SV.bool A A,SV.bool A A]) b) (ah (SV.aN [SV.str (q&&A&&q) d,SV.bool A A,SV.bool A A]) a))) (Fk (ai (au s) 0=(1:Int)) (((0:Int)<=(1:Int)/\1<=(↑(au s).length:Int)/\(↑(au s).length:Int)<=(↑(au s).length:Int))/\Bk (jN s) (ah (SV.aN [SV.str (q&&A&&q) c,SV.bool A q,SV.bool A A]) b) (ah (SV.aN [SV.str (q&&A&&q) c,SV.bool A q,SV.bool A A]) a)) (Fk (ai (au s) 0=(0:Int)) (((0:Int)<=(1:Int)/\1<(↑(au s).length:Int))/\Bk (!decide (ai (au s) 1=(0:Int))) (Bk (jN s) (ah a b) (ah a a)) (((0:Int)<=(2:Int)/\2<=(↑(au s).length:Int)/\(↑(au s).length:Int)<=(↑(au s).length:Int))/\Bk (jN s) (ah (SV.aN [SV.str (q&&A&&q) d,SV.bool A q,SV.bool A A]) b) (ah (SV.aN [SV.str (q&&A&&q) d,SV.bool A q,SV.bool A A]) a))) (Bk (jN s) (ah a b) (ah a a))))))))) (bX (au s) (C (Operand.const (Value.int cD 2))) G 2 (↑(au s).length:Int)))) (bX (au s) (C (Operand.const (Value.int cD 1))) G 1 (↑(au s).length:Int)))) (SV.aN [SV.str q (eU s),SV.bool q (eI s),SV.bool A A]))) (SV.aN [SV.str A [],SV.bool A q,SV.bool A q])):=by kernel_rfl
theorem xu {i:Int}(h:i<=a.length):part (a++b) i=part a i:=by
 unfold part;by_cases h1:1<=i
 ·have hl:1<=a.length:=by omega
  rw[S hl,Z (by simp only[Q];omega)]
 ·have:(i - 1).toNat=0:=by omega
  rw[this];rfl
theorem WC {i:Int}(h2:2<=i)(h:oU a i=A):oU (a++b) i=true:=by
 obtain⟨h1,h3,h4,h5⟩:=i4.1 h;refine i4.2 ⟨by simp only[L];omega,?_,?_,?_⟩
 ·rw[k5 (by omega) (by omega)];exact h3
 ·rw[xu h1];exact h4
 ·rw[xu h1];exact h5
theorem Hq (h:cw a=A)(b:f_):cw (a++b)=A/\dn (a++b)=dn a/\af (a++b)=af a/\aF (a++b)=aF a++b:=by
 obtain⟨h0,hc⟩:=fJ.1 h;have hl:=cl.2 h0;have e0:ai (a++b) 0=ai a 0:=k5 (c7 _) (by omega);have el:lead (a++b)=lead a:=by unfold lead;rw[e0]
 have eL:dn (a++b)=dn a:=by unfold dn;rw[e0]
 have hne:a++b≠[]:=by simp[h0]
 refine⟨?_,eL,?_⟩
 ·refine fJ.2 ⟨hne,?_⟩;rw[e0,el];rcases hc with hA | ⟨hA,hB,hC,hD⟩ | ⟨hA,hB,hC,hD⟩
  ·exact .inl hA
  ·have hq:=(i4.1 hC).1;exact .inr (.inl ⟨hA,hB,WC (by omega) hC,by rw[xu hq];simp only[L];omega⟩)
  ·exact .inr (.inr ⟨hA,hB,by simp only[L];omega,fun⟨x,y,z⟩=>hD ⟨x,y,by rwa [k5 (by omega) (by omega)] at z⟩⟩)
 ·rcases hc with hA | ⟨hA,hB,hC,hD⟩ | ⟨hA,hB,hC,hD⟩
  ·obtain⟨_,k2,k3⟩:=mu hA;obtain⟨_,j2,j3⟩:=mu (s:=a++b) (by rw[e0];exact hA);rw[k2,k3,j2,j3];exact⟨Z (by omega),S (by omega)⟩
  ·have hq:=(i4.1 hC).1;have hp:=tX a (lead a - 54);obtain⟨k2,k3⟩:=mO hA hB;obtain⟨j2,j3⟩:=mO (s:=a++b) (by rw[e0];exact hA) (by rw[el];exact hB);rw[k2,k3,j2,j3,el,xu hq];constructor
   ·rw[S (by omega),Z (by simp only[Q];omega)]
   ·rw[S (by omega)]
  ·have hn:=HX hA;obtain⟨k2,k3⟩:=p7 hA hB;obtain⟨j2,j3⟩:=p7 (s:=a++b) (by rw[e0];exact hA) (by rw[el];exact hB);rw[k2,k3,j2,j3,el];have e1:(1:Int).toNat=1:=rfl;rw[e1];constructor
   ·rw[S (by omega),Z (by simp only[Q];omega)]
   ·rw[S (by omega)]
theorem Np (h:cw a=A)(b:f_):vE (a++b)=vE a:=by
 unfold vE;rw[(Hq h b).2.2.2,L,L];have:a.length+b.length - ((aF a).length+b.length)=a.length - (aF a).length:=by omega
 rw[this,Z (by omega)]
theorem Walk.app (b:f_): ∀ {k:Nat},Walk a k->bl (a++b) k=bl a k++b
 | 0,_=>by simp only[bl]
 | k+1,h=>by have h1:=Walk.app b (k:=k) (λj hj=>h j (by omega));simp only[bl];rw[h1,(Hq (h k (by omega)).2 b).2.2.2]
theorem Walk.take {j:Nat}(h:Walk a k)(hj:j<=k):Walk a j:=λi hi=>h i (by omega)
theorem Walk.join (b:f_)(h:Walk a k):Walk (a++b) k:=λj hj=>by rw[(h.take (j:=j) (by omega)).app b];obtain⟨h1,h2⟩:=h j hj;exact⟨by simp[h1],(Hq h2 b).1⟩
theorem Walk.item (b:f_){j:Nat}(h:Walk a k)(hj:j<k):aj (a++b) j=aj a j:=by unfold aj;rw[(h.take (j:=j) (by omega)).app b,Np (h j hj).2]
theorem CA (n:Nat): ∀(s:f_),s.length<=n->dD s=A->Walk s (aA s)/\bl s (aA s)=[]:=by
 have nil: ∀ s:f_,s=[]->Walk s (aA s)/\bl s (aA s)=[]:=by intro s hs;rw[hs,kE.2];exact⟨λj hj=>absurd hj (an _),by simp only[bl]⟩
 induction n with
 | zero=>exact λs h _=>nil s (List.length_eq_zero_iff.1 (by omega))
 | succ n ih =>
   intro s h hb;by_cases hne:s=[]
   ·exact nil s hne
   ·have hc:cw s=true:=by
     cases hc:cw s with
     | false=>rw[Fv hne hc] at hb;cases hb
     | true=>rfl
    obtain⟨h1,h2⟩:=yN hne hc;have hl:=BZ hc;obtain⟨h3,h4⟩:=ih (aF s) (by omega) (by rw[← h1];exact hb);rw[h2];refine⟨λj hj=> ?_,by rw[lI];exact h4⟩;cases j with
    | zero=>simp only[bl];exact⟨hne,hc⟩
    | succ j=>rw[lI];exact h3 j (by omega)
theorem DA (s:f_)(k:Nat): ∀ j,bl s (k+j)=bl (bl s k) j
 | 0=>by simp only[bl,Nat.add_zero]
 | j+1=>by rw[← Nat.add_assoc,bl,DA s k j];simp only[bl]
theorem Nt (h:dD a=A)(b:f_):dD (a++b)=dD b/\aA (a++b)=aA a+aA b /\
  (∀ j,j<aA a->aj (a++b) j=aj a j)/\∀ j,aj (a++b) (aA a+j)=aj b j:=by
 obtain⟨h1,h2⟩:=CA a.length a (cy _) h;have h3:=h1.app b;rw[h2,List.nil_append] at h3;obtain⟨h4,h5⟩:=(h1.join b).items;rw[h3] at h4 h5;refine⟨h4,by omega,λj hj=>h1.item b hj,λj=> ?_⟩;unfold aj;rw[DA,h3]
theorem SC (h:dD s=A):aA s<=s.length:=by have:=(CA s.length s (cy _) h).1.len;omega
theorem Xy (h:cw s=A)(h2:aF s=[]):dD s=A/\aA s=1/\aj s 0=s:=by have hne:=(fJ.1 h).1;obtain⟨g1,g2⟩:=yN hne h;rw[h2] at g1 g2;refine⟨by rw[g1];exact kE.1,by rw[g2,kE.2],?_⟩;unfold aj vE;simp only[bl];rw[h2,b!,Nat.sub_zero,List.take_length]
theorem Yu (hb:b.length<=1048576):cw (aq b)=A/\dn (aq b)=q/\aF (aq b)=[]:=by obtain⟨h1,h2,_,h4⟩:=sW hb [];rw[c!] at h1 h2 h4;exact⟨h1,h2,h4⟩
theorem Sd (a:f_)(r:List f_):flat (a::r)=a++flat r:=by simp[flat]
theorem vp: ∀(l:List f_),(∀ x∈ l,cw x=A/\aF x=[])->dD (flat l)=A/\aA (flat l)=l.length/\∀(j:Nat) (x:f_),l[j]?=C x->aj (flat l) j=x
 | [],_=>⟨kE.1,kE.2,λj x h=>by simp at h⟩
 | a::r,h=>by
   obtain⟨h1,h2⟩:=h a (by simp);obtain⟨o1,o2,o3⟩:=Xy h1 h2;obtain⟨g1,g2,g3⟩:=vp r λx hx=>h x (by simp[hx]);obtain⟨j1,j2,j3,j4⟩:=Nt o1 (flat r);rw[Sd];refine⟨by rw[j1];exact g1,by rw[j2,o2,g2,N];omega,λj x hx=> ?_⟩;cases j with
   | zero =>simp only[d!,Option.some.injEq] at hx;rw[j3 0 (by omega),o3,hx]
   | succ j =>have:=j4 j;rw[o2] at this;rw[Nat.add_comm j 1,this];exact g3 j x (by simpa using hx)
theorem KD {l:List f_}(hl:(flat l).length<=1048576)(rest:f_) :
  cw (bA 192 (flat l).length++flat l++rest)=A/\dn (bA 192 (flat l).length++flat l++rest)=A/\af (bA 192 (flat l).length++flat l++rest)=flat l/\aF (bA 192 (flat l).length++flat l++rest)=rest:=by
 obtain⟨h1,h2,h3,h4⟩:=PX (.inr rfl) hl (λh=>by omega) rest;exact⟨h1,by rw[h2];rfl,h3,h4⟩
theorem MZ (s:f_):(aF s).length<=s.length:=by unfold aF;rw[Q];omega
theorem Gm (s:f_): ∀ k,(bl s k).length<=s.length
 | 0=>by simp only[bl];exact cy _
 | k+1=>by simp only[bl];exact Nat.le_trans (MZ _) (Gm s k)
theorem tJ (s:f_)(k:Nat):(aj s k).length<=s.length:=by have:=Gm s k;unfold aj vE;rw[W];omega
theorem oM (s:f_):(af s).length<=s.length:=by unfold af;simp only[W,Q];omega
def cU (l:List f_):f_:=bA 192 (flat l).length++flat l
theorem Al (c:UInt8)(t:f_):ai (c::t) 1=ai t 0:=by cases t<;>rfl
theorem VT {n:Int}(h0:0<=n)(h:n<18446744073709551616):lT (aq (digits n))=A/\af (aq (digits n))=digits n:=by
 have hl:=mP n;obtain⟨h1,h2,h3,h4⟩:=sW (b:=digits n) (by omega) [];rw[c!] at h1 h2 h3 h4;refine⟨wR.2 ⟨h1,h2,h4,by rw[h3];exact hl,?_⟩,h3⟩;rw[h3];by_cases hp:0<n
 ·exact .inr (Aq hp h).2
 ·have:n=0:=by omega
  subst this;exact .inl JR
def nD (l:Bool)(b:f_):f_:=bif l then bA 192 b.length++b else aq b
theorem toNat_eq {a b:UInt8}(h:a.toNat=b.toNat):a=b:=UInt8.toNat_inj.1 h
theorem G5 (h:s≠[]): ∃ b t,s=b::t/\ai s 0=(b.toNat:Int):=by
 cases s with
 | nil=>exact absurd rfl h
 | cons b t=>exact⟨b,t,rfl,rfl⟩
theorem JN (h:cw s=A):nD (dn s) (af s)++aF s=s:=by
 obtain⟨h0,h⟩:=fJ.1 h;obtain⟨b,t,rfl,hb⟩:=G5 h0;have hb8:=b.toNat_lt;rcases h with hA | ⟨hA,hL,hB,hP⟩ | ⟨hA,hL,hP,hN⟩
 ·obtain⟨k1,k2,k3⟩:=mu hA;rw[k1,k2,k3];simp only[nD,cond_false,List.take_succ_cons,List.take_zero,V,d_];rw[we ⟨rfl,by rw[hb] at hA;exact hA⟩];rfl
 ·obtain⟨k1,k2⟩:=mO hA hL;obtain⟨g1,g2,g3,g4⟩:=i4.1 hB;have hl:=g1;simp only[N] at hl g1 hP;have hlead:lead (b::t)<64/\0<=lead (b::t):=by unfold lead;split<;>omega
  have hpn:=tX (b::t) (lead (b::t) - 54);have elen:(af (b::t)).length=(part (b::t) (lead (b::t) - 54)).toNat:=by rw[k1];simp only[W,Q,N];omega
  have hd:digits (part (b::t) (lead (b::t) - 54))=t.take (lead (b::t) - 55).toNat:=by
   have e:part (b::t) (lead (b::t) - 54)=num (t.take (lead (b::t) - 55).toNat):=by unfold part;simp only[V,d_];congr 2;omega
   rw[e];refine RX (by simp only[W];omega) (.inr ?_);intro h;apply g2;rw[Al];have:ai (t.take (lead (b::t) - 55).toNat) 0=ai t 0:=by
    obtain⟨m,hm⟩: ∃ m,(lead (b::t) - 55).toNat=m+1:=⟨(lead (b::t) - 55).toNat - 1,by omega⟩
    rw[hm];cases t<;>rfl
   rw[← this];exact h
  have hhead: ∀ base:Int,lead (b::t)=ai (b::t) 0 - base->0<=base->bA base (af (b::t)).length=b::t.take (lead (b::t) - 55).toNat:=by
   intro base hbase hb0;rw[Fq (by rw[elen];omega),elen,show(((part (b::t) (lead (b::t) - 54)).toNat:Nat):Int)=part (b::t) (lead (b::t) - 54)by omega,hd];congr 1;apply toNat_eq;have:(base+55+((t.take (lead (b::t) - 55).toNat).length:Int)).toNat=b.toNat:=by rw[hb] at hbase;simp only[W];omega
   rw[this];simp
  have hcat: ∀ base:Int,lead (b::t)=ai (b::t) 0 - base->0<=base->bA base (af (b::t)).length++af (b::t)++aF (b::t)=b::t:=by
   intro base hbase hb0;rw[hhead base hbase hb0,k1,k2,c_];have e1:(lead (b::t) - 54).toNat=(lead (b::t) - 55).toNat+1:=by omega
   have e2:(lead (b::t) - 54+part (b::t) (lead (b::t) - 54)).toNat=(lead (b::t) - 55).toNat+1+(part (b::t) (lead (b::t) - 54)).toNat:=by omega
   rw[e1,e2];generalize (lead (b::t) - 55).toNat=k;generalize (part (b::t) (lead (b::t) - 54)).toNat=p;rw[show k+1+p=(k+p)+1 by omega];simp only[V,dm];rw[← dQ,ec,ec]
  by_cases hC:ai (b::t) 0<192
  ·have e3:dn (b::t)=false:=by simp[dn];omega
   rw[e3,nD,cond_false,mH (by rw[elen];omega)];exact hcat 128 (Bq hC) (by omega)
  ·have e3:dn (b::t)=true:=by simp[dn];omega
   rw[e3,nD,cond_true];exact hcat 192 (Bp hC) (by omega)
 ·obtain⟨k1,k2⟩:=p7 hA hL;simp only[N] at hP;have hlead:=HX hA;have elen:(af (b::t)).length=(lead (b::t)).toNat:=by rw[k1];simp only[W,Q,N];omega
  have ein:af (b::t)=t.take (lead (b::t)).toNat:=by rw[k1];rfl
  have hcat: ∀ base:Int,lead (b::t)=ai (b::t) 0 - base->0<=base->bA base (af (b::t)).length++af (b::t)++aF (b::t)=b::t:=by
   intro base hbase hb0;rw[Ct (by rw[elen];omega),elen,ein,k2];have:(base+((lead (b::t)).toNat:Int)).toNat=b.toNat:=by rw[hb] at hbase;omega
   rw[this,show(1+lead (b::t)).toNat=(lead (b::t)).toNat+1 by omega];simp
  by_cases hC:ai (b::t) 0<192
  ·have e3:dn (b::t)=false:=by simp[dn];omega
   rw[e3,nD,cond_false,mH ?_]
   ·exact hcat 128 (Bq hC) (by omega)
   ·rintro⟨h1,h2⟩;rw[elen] at h1;apply hN;refine⟨hC,by omega,?_⟩;rw[Al];rw[ein,h1] at h2;cases t with
    | nil=>exact h2
    | cons c u=>exact h2
  ·have e3:dn (b::t)=true:=by simp[dn];omega
   rw[e3,nD,cond_true];exact hcat 192 (Bp hC) (by omega)
theorem uG (f:Nat->Int)(i n:Nat):(dG f i n).length=n:=by simp[dG]
theorem pg (k:f_):(au k).length=2*k.length:=uG _ _ _
theorem Dh (p:f_):(br p).length=p.length / 2:=uG _ _ _
theorem GA {l1 l2 x:Bool}(h:a=b):ah (.aN [.str l a,.bool l1 x]) (.aN [.str q b,.bool l2 x]):=λE=>by subst h;rfl
theorem N7 (leaf:Bool)(hp:p.length<1073741824):ay (gT JF 210 b7 [.str q p,.bool q leaf] (Xn p leaf)):=by
 refine ay.mS (aeU p leaf) (by delta Bk;exact rfl) ?_;cases jO p with
 | false=>exact⟨by omega,λ_=>⟨(λh=>by cases h),λ_ _=>rfl⟩,λh=>by cases h⟩
 | true =>
   refine⟨by omega,(λh=>by cases h),λ_=>⟨by omega,trivial,by omega,λh=> ?_,λh=> ?_⟩⟩
   ·have ho:D ((p.length:Int)% 2=1)=false:=by simpa using h
    refine⟨by omega,by omega,by simp only[cat,L,N,b!];omega,λ_=>GA ?_,λh=>by cases h⟩;rw[dS,ho];rfl
   ·have ho:D ((p.length:Int)% 2=1)=true:=by simpa using h
    refine⟨by omega,by simp only[cat,L,N,b!];omega,λ_=>GA ?_,λh=>by cases h⟩;rw[dS,ho];rfl
def Db:List SV->Option (Prop×cK)
 | [.str q p,.bool q leaf]=>C (p.length<1073741824,Xn p leaf)
 | _=>G
theorem aaL:ax H 210 (bY Db):=by
 refine ee (n:=20) Tryz.func210 (by kernel_rfl) (by kernel_rfl) ?_;intro args p a h hp;unfold Db at h;split at h
 ·cases h;exact⟨_,V3,rfl,λb=>by cases b<;>exact rfl,N7 _ hp⟩
 ·cases h
theorem uk {l1 l2 l3 l4 x y:Bool}(h:a=b)(h2:x=y):ah (.aN [.str l a,.bool l1 x,.bool l2 z]) (.aN [.str q b,.bool l3 y,.bool l4 z]):=λE=>by subst h;subst h2;rfl
theorem xp :jN s=A↔au s≠[]/\ai (au s) 0<=3/\(ai (au s) 0% 2=1∨ai (au s) 1=0):=by simp only[jN,a_,Bool.or_eq_true,p_,and_assoc]
theorem N0 (hs:s.length<1099511627776):ay (gT JF 217 b9 [.str q s] (Xi s)):=by
 refine ay.mS (aeT s) (by delta Bk Fk;exact rfl) ?_;have hl:=pg s;have b0:=dW (au s) 0;have F: ∀ {p:Prop},¬ (au s≠[]/\ai (au s) 0<=3/\(ai (au s) 0% 2=1∨ai (au s) 1=0))->jN s=A->p:=λh h'=>absurd (xp.1 h') h;have T: ∀ {p:Prop},(au s≠[]/\ai (au s) 0<=3/\(ai (au s) 0% 2=1∨ai (au s) 1=0))->jN s=q->p:=λh h'=>by rw[xp.2 h] at h';cases h'
 have none':ah (.aN [.str A [],.bool A q,.bool A q]) (.aN [.str A [],.bool A q,.bool A q]):=λ_=>rfl;have O:ai (au s) 0% 2=1->(au s).drop 1=eU s:=λh=>(r_ h).symm;have Ev: ¬ ai (au s) 0% 2=1->(au s).drop 2=eU s:=λh=>(s_ h).symm;refine⟨hs,λh=>⟨F (by simp at h;simp[h]),λ_=>none'⟩,λh=> ?_⟩;have h:au s≠[]:=m_ h;have hp:=cl.2 h;refine⟨by omega,λa=> ?_,λa=>⟨λb=> ?_,λb=>⟨λc=> ?_,λc=>⟨λd=> ?_,λd=> ?_⟩⟩⟩⟩
 ·have a:=l_ a;refine⟨by omega,λ_=>uk (O (by omega)) (by simp[eI,a]),T ⟨h,by omega,.inl (by omega)⟩⟩
 ·have b:=l_ b;refine⟨by omega,λg=> ?_,λg=>⟨by omega,λ_=>uk (Ev (by omega)) (by simp[eI,b]),?_⟩⟩
  ·have g: ¬ ai (au s) 1=0:=by simpa using g
   exact⟨F (by rintro⟨_,_,e | e⟩;omega;exact g e),λ_=>none'⟩
  ·have g:ai (au s) 1=0:=by simpa using g
   exact T ⟨h,by omega,.inr g⟩
 ·have c:=l_ c;refine⟨by omega,λ_=>uk (O (by omega)) (by simp[eI,c]),T ⟨h,by omega,.inl (by omega)⟩⟩
 ·have d:=l_ d;refine⟨by omega,λg=> ?_,λg=>⟨by omega,λ_=>uk (Ev (by omega)) (by simp[eI,d]),?_⟩⟩
  ·have g: ¬ ai (au s) 1=0:=by simpa using g
   exact⟨F (by rintro⟨_,_,e | e⟩;omega;exact g e),λ_=>none'⟩
  ·have g:ai (au s) 1=0:=by simpa using g
   exact T ⟨h,by omega,.inr g⟩
 ·have a:=m_ a;have b:=m_ b;have c:=m_ c;have d:=m_ d;exact⟨F (by rintro⟨_,e,_⟩;omega),λ_=>none'⟩
def C9:List SV->Option (Prop×cK)
 | [.str q s]=>C (s.length<1099511627776,Xi s)
 | _=>G
theorem aaJ:ax H 217 (bY C9):=by
 refine ee (n:=20) Tryz.func217 (by kernel_rfl) (by kernel_rfl) ?_;intro args p a h hp;unfold C9 at h;split at h
 ·cases h;exact⟨_,V3,rfl,λb=>by cases b<;>exact rfl,N0 hp⟩
 ·cases h
noncomputable def H9:List (FuncId×PT):=(169,bn qw)::(210,bY Db)::(217,bY C9)::xe
theorem yX:bp H (λf=>aD f H9):=.cons F6 (aS _) (.cons aaL (bO _) (.cons aaJ (bO _) lB))
noncomputable def BT:fD:={cv with cT:=λf=>aD f H9}
theorem Bg:Sx.Good H BT:=.of bR yX bq
structure Nd where
 k:Int
 p:f_
 v:f_
 r:Nat->f_
def bB (r:Nat->f_):List SV:=[.str q (r 0),.str q (r 1),.str q (r 2),.str q (r 3),.str q (r 4),.str q (r 5),.str q (r 6),.str q (r 7),.str q (r 8),.str q (r 9),.str q (r 10),.str q (r 11),.str q (r 12),.str q (r 13),.str q (r 14),.str q (r 15)]
def Nd.zR (x:Nd)(l:Bool)(k:Int):SV:=.agg (.int .i64 l k::.str q x.p::.str q x.v::bB x.r)
def Nd.sv (x:Nd):SV:=x.zR q x.k
def dc:SV:=.agg [.int .i64 A 0,.str A [],.str A [],.str A [],.str A [],.str A [],.str A [],.str A [],.str A [],.str A [],.str A [],.str A [],.str A [],.str A [],.str A [],.str A [],.str A [],.str A [],.str A []]
def Iq:List SV->Option Nd
 | [.int .i64 q k,.str q p,.str q v,.str q r0,.str q r1,.str q r2,.str q r3,.str q r4,.str q r5,.str q r6,.str q r7,.str q r8,.str q r9,.str q r10,.str q r11,.str q r12,.str q r13,.str q r14,.str q r15]=>C ⟨k,p,v,λi=>[r0,r1,r2,r3,r4,r5,r6,r7,r8,r9,r10,r11,r12,r13,r14,r15].getD i []⟩
 | _=>G
theorem qq {l:List SV}{x:Nd}(h:Iq l=C x):SV.agg l=x.sv:=by
 unfold Iq at h;split at h
 ·cases h;rfl
 ·cases h
def eo (t:f_):Bool:=cw t&& !dn t&&D (aF t=[])
def bw (t:f_):Bool:=eo t&&D (((af t).length:Int)=32)
def Og (t:f_):cK:=.fork (eo t) λb=>match b with
 | true=>.ret (.aN [.str q (af t),.bool A A])
 | false=>.ret (.aN [.str A [],.bool A q])
def V9 (t:f_):cK:=.fork (bw t) λb=>match b with
 | true=>.ret (.aN [.str q (af t),.bool A A])
 | false=>.ret (.aN [.str A [],.bool A q])
def iB (x:Nd)(least:Int):Bool:=D (least<=(x.p.length:Int))&&D ((x.p.length:Int)<=12)&&jO x.p
def cF (r:Nat->f_):Nat->Int
 | 0=>0
 | i+1=>if r i=[] then cF r i else(i:Int)+1
noncomputable def RE (x:Nd):aY :=
 {α:=Nat,pre:=λ_ i=>i<=16,kH:=λ_ i=>16 - i,fresh:=0,slots:=λ_ i=>[(7,.int .i64 q i)],
  mem:=λ_ i=>[(1,.cells [.int .i64 q (cF x.r i)] 1 3)]}
noncomputable def UY (x:Nd):fD:={cv with cT:=λf=>aD f H9,aW:=λf=>if f=201 then [(1,always (RE x))] else []}
theorem adC (x:Nd):Sx.Good H (UY x):=.of bR yX bq
theorem aby (t:f_):VC.holds (gT BT 184 b5 [.str q t] (Og t))=((λa:SV=>((t.length<9223372036854775808/\Bk (cw t) (Bk (dn t) (Bk (eo t) (ah a (SV.aN [SV.str q (af t),SV.bool A A])) (ah a a)) (Bk (!decide (aF t=[])) (Bk (eo t) (ah a (SV.aN [SV.str q (af t),SV.bool A A])) (ah a a)) (Bk (eo t) (ah (SV.aN [SV.str q (af t),SV.bool A A]) (SV.aN [SV.str q (af t),SV.bool A A])) (ah (SV.aN [SV.str q (af t),SV.bool A A]) a)))) (Bk (eo t) (ah a (SV.aN [SV.str q (af t),SV.bool A A])) (ah a a))))) (SV.aN [SV.str A [],SV.bool A q])):=by kernel_rfl
theorem aeP (t:f_):VC.holds (gT BT 151 a! [.str q t] (V9 t))=((λa:SV=>((λb:SV=>((t.length<9223372036854775808/\Bk (cw t) (Bk (dn t) (Bk (bw t) (ah a b) (ah a a)) (Bk (!decide (aF t=[])) (Bk (bw t) (ah a b) (ah a a)) (Bk (!decide ((↑(af t).length:Int)=32)) (Bk (bw t) (ah a b) (ah a a)) (Bk (bw t) (ah b b) (ah b a))))) (Bk (bw t) (ah a b) (ah a a))))) (SV.aN [SV.str q (af t),SV.bool A A]))) (SV.aN [SV.str A [],SV.bool A q])):=by kernel_rfl
theorem YR (x:Nd)(least:Int)(R:SV->Prop):VC.holds (eZ BT 207 c5 [x.sv,.int .i64 q least] R)=((Fk (least<=(x.p.length:Int)) (Fk ((x.p.length:Int)<=12) (x.p.length<1152921504606846976/\R (SV.bool q (jO x.p))) (R (SV.bool A q))) (R (SV.bool A q)))):=by kernel_rfl
theorem YF (x:Nd)(R:SV->Prop):VC.holds (eZ (UY x) 208 b6 [x.sv] R)=((λg:Nat->SV=>((λc:SB=>((∀(b:Loop),(∃(f:Nat),f<=16/\0=(f:Int)/\aa (SB.cells [SV.int .i64 A 0] 1 3) (SB.cells [SV.int .i64 q (cF x.r f)] 1 3)/\aa (SB.loop I G b) (SB.loop I G b)/\aa c c/\aa (SB.cells x.sv.cells 19 238) (SB.cells x.sv.cells 19 238)/\True)/\∀(a:Nat),a<=16->Fk ((a:Int)<16) ((0<=(a:Int)/\(a:Int)<16/\(a:Int)<(↑(16:Nat):Int))/\Bk (!decide (ck (c9 x.r []) (a:Int).toNat=[])) (b=b/\I6 ((a:Int)+1)/\I6 ((a:Int)+1)/\∃(d:Nat),(d<=16/\16 - d<16 - a)/\(a:Int)+1=(d:Int)/\aa (SB.cells [SV.int .i64 q ((a:Int)+1)] 1 3) (SB.cells [SV.int .i64 q (cF x.r d)] 1 3)/\aa (SB.loop I G b) (SB.loop I G b)/\aa c c/\aa (SB.cells x.sv.cells 19 238) (SB.cells x.sv.cells 19 238)/\True) (I6 ((a:Int)+1)/\∃(e:Nat),(e<=16/\16 - e<16 - a)/\(a:Int)+1=(e:Int)/\aa (SB.cells [SV.int .i64 q (cF x.r a)] 1 3) (SB.cells [SV.int .i64 q (cF x.r e)] 1 3)/\aa (SB.loop I G b) (SB.loop I G b)/\aa c c/\aa (SB.cells x.sv.cells 19 238) (SB.cells x.sv.cells 19 238)/\True)) (R (SV.int .i64 q (cF x.r a)))))) (SB.cells (SV.agg (SV.int .i64 q x.k::SV.str q x.p::SV.str q x.v::c9 g [])).cells 19 238))) (fun(n0:Nat)=>SV.str q (x.r n0))):=by kernel_rfl
theorem YQ (x:Nd)(R:SV->Prop):VC.holds (eZ BT 185 c4 [x.sv] R)=((R (SV.bool (q&&A&&(q&&A&&(q&&A&&(q&&A&&(q&&A&&(q&&A&&(q&&A&&(q&&A&&(q&&A&&(q&&A&&(q&&A&&(q&&A&&(q&&A&&(q&&A&&(q&&A&&(q&&A&&(q&&A&&(q&&A&&(q&&A&&A)))))))))))))))&&A)))) (D (x.k=0)&&(D (x.p=[])&&(D (x.v=[])&&(D (x.r 0=[])&&(D (x.r 1=[])&&(D (x.r 2=[])&&(D (x.r 3=[])&&(D (x.r 4=[])&&(D (x.r 5=[])&&(D (x.r 6=[])&&(D (x.r 7=[])&&(D (x.r 8=[])&&(D (x.r 9=[])&&(D (x.r 10=[])&&(D (x.r 11=[])&&(D (x.r 12=[])&&(D (x.r 13=[])&&(D (x.r 14=[])&&(D (x.r 15=[])&&A)))))))))))))))&&A))))))):=by kernel_rfl
theorem tY :eo t=A↔cw t=A/\dn t=q/\aF t=[]:=by simp only[eo,a_,Bool.not_eq_true',p_,and_assoc]
theorem rZ :bw t=A↔(cw t=A/\dn t=q/\aF t=[])/\(af t).length=32:=by simp only[bw,a_,tY,p_];constructor<;>rintro⟨h1,h2⟩<;>exact⟨h1,by omega⟩
theorem Lu (ht:t.length<9223372036854775808):ay (gT BT 184 b5 [.str q t] (Og t)):=by
 refine ay.mS (aby t) (by delta Bk;exact rfl) ?_;have no:ah (.aN [.str A [],.bool A q]) (.aN [.str A [],.bool A q]):=λ_=>rfl;have F: ∀ {p:Prop},¬ (cw t=A/\dn t=q/\aF t=[])->eo t=A->p:=λh h'=>absurd (tY.1 h') h;refine⟨ht,λa=>⟨λb=>⟨F (by simp[b]),λ_=>no⟩,λb=>⟨λc=>⟨F (by simp at c;simp[c]),λ_=>no⟩,λc=> ?_⟩⟩,λa=>⟨F (by simp[a]),λ_=>no⟩⟩;have c:aF t=[]:=by simpa using c
 have hB:=tY.2 ⟨a,b,c⟩;exact⟨λ_ _=>rfl,λh=>by rw[hB] at h;cases h⟩
theorem Nh (ht:t.length<9223372036854775808):ay (gT BT 151 a! [.str q t] (V9 t)):=by
 refine ay.mS (aeP t) (by delta Bk;exact rfl) ?_;have no:ah (.aN [.str A [],.bool A q]) (.aN [.str A [],.bool A q]):=λ_=>rfl;have F: ∀ {p:Prop},¬ ((cw t=A/\dn t=q/\aF t=[])/\(af t).length=32)->bw t=A->p:=λh h'=>absurd (rZ.1 h') h;refine⟨ht,λa=>⟨λb=>⟨F (by simp[b]),λ_=>no⟩,λb=>⟨λc=>⟨F (by simp at c;simp[c]),λ_=>no⟩,λc=>⟨λd=>⟨F (by simp at d;omega),λ_=>no⟩,λd=> ?_⟩⟩⟩,λa=>⟨F (by simp[a]),λ_=>no⟩⟩;have c:aF t=[]:=by simpa using c
 have d:((af t).length:Int)=32:=by simpa using d
 have hB:=rZ.2 ⟨⟨a,b,c⟩,by omega⟩;exact⟨λ_ _=>rfl,λh=>by rw[hB] at h;cases h⟩
def zx:List SV->Option (Prop×cK)
 | [.str q t]=>C (t.length<9223372036854775808,Og t)
 | _=>G
def wV:List SV->Option (Prop×cK)
 | [.str q t]=>C (t.length<9223372036854775808,V9 t)
 | _=>G
theorem XD:ax H 184 (bY zx):=by
 refine ee (n:=20) Tryz.func184 (by kernel_rfl) (by kernel_rfl) ?_;intro args p a h hp;unfold zx at h;split at h
 ·cases h;exact⟨_,Bg,rfl,λb=>by cases b<;>exact rfl,Lu hp⟩
 ·cases h
theorem Qm:ax H 151 (bY wV):=by
 refine ee (n:=20) (fn:=a!) Tryz.func151 (by kernel_rfl) (by kernel_rfl) ?_;intro args p a h hp;unfold wV at h;split at h
 ·cases h;exact⟨_,Bg,rfl,λb=>by cases b<;>exact rfl,Nh hp⟩
 ·cases h
def vI:List SV->Option (Prop×SV)
 | [.agg l,.int .i64 q least]=>(match Iq l with
   | some x=>C (True,.bool q (iB x least))
   | none=>G)
 | _=>G
theorem S9:ax H 207 (bn vI):=by
 refine je Bg (n:=20) Tryz.func207 (by kernel_rfl) (by kernel_rfl) ?_;intro args p r h hp;unfold vI at h;split at h
 ·split at h
  ·rename_i l least _ x hx;cases h;rw[qq hx];refine⟨rfl,rfl,ay.of_eq (YR x least _) ⟨λa=>⟨λb=>⟨?_,dh ?_⟩,λb=>dh ?_⟩,λa=>dh ?_⟩⟩
   ·have:=l_ b;omega
   ·rw[iB,a,b];rfl
   ·rw[iB,a,b];rfl
   ·rw[iB,a];rfl
  ·cases h
 ·cases h
theorem uU (r:Nat->f_)(h:i<16):ck [r 0,r 1,r 2,r 3,r 4,r 5,r 6,r 7,r 8,r 9,r 10,r 11,r 12,r 13,r 14,r 15] i=r i:=by
 have:i=0∨i=1∨i=2∨i=3∨i=4∨i=5∨i=6∨i=7∨i=8∨i=9∨i=10∨i=11∨i=12∨i=13∨i=14∨i=15:=by omega
 rcases this with rfl | rfl | rfl | rfl | rfl | rfl | rfl | rfl | rfl | rfl | rfl | rfl | rfl | rfl | rfl | rfl<;>rfl
theorem BS {l':Bool}{a b:Int}(h:a=b):aa (.cells [.int .i64 l a] tot ty) (.cells [.int .i64 l' b] tot ty):=by subst h;exact aa.cells (λ_=>rfl) rfl
theorem G0 (x:Nd):ay (eZ (UY x) 208 b6 [x.sv] (λv=>ah v (.int .i64 q (cF x.r 16)))):=by
 refine ay.mS (YF x _) (by delta Bk Fk;exact rfl) ?_;intro R;refine⟨⟨0,by omega,rfl,BS rfl,aa.refl _,aa.refl _,aa.refl _,trivial⟩,λi hi=>⟨λa=> ?_,λa=> ?_⟩⟩
 ·have a:=l_ a;have ei:i<16:=by omega
  rw[X,uU x.r ei];refine⟨by omega,λb=>⟨rfl,by omega,by omega,i+1,by omega,by omega,BS ?_,aa.refl _,aa.refl _,aa.refl _,trivial⟩,λb=>⟨by omega,i+1,by omega,by omega,BS ?_,aa.refl _,aa.refl _,aa.refl _,trivial⟩⟩
  ·have b: ¬ x.r i=[]:=by simpa using b
   rw[cF,s_ b]
  ·have b:x.r i=[]:=by simpa using b
   rw[cF,r_ b]
 ·have a:=m_ a;have e:i=16:=by omega
  rw[e];exact λ_=>rfl
def vk:List SV->Option (Prop×SV)
 | [.agg l]=>(match Iq l with
   | some x=>C (True,.int .i64 q (cF x.r 16))
   | none=>G)
 | _=>G
theorem RI:ax H 208 (bn vk):=by
 refine fj (ee (n:=20) Tryz.func208 (by kernel_rfl) (by kernel_rfl) ?_);intro args p a h hp;unfold vk at h;split at h
 ·split at h
  ·rename_i l x hx;cases h;rw[qq hx];exact⟨_,adC x,rfl,rfl,G0 x⟩
  ·cases h
 ·cases h
def ri (x:Nd):Bool:=D (x.k=0)&&(D (x.p=[])&&(D (x.v=[])&&(Y 16).all λi=>decide (x.r i=[])))
def vH:List SV->Option (Prop×SV)
 | [.agg l]=>(match Iq l with
   | some x=>C (True,.bool q (ri x))
   | none=>G)
 | _=>G
theorem S8:ax H 185 (bn vH):=by
 refine je Bg (n:=20) Tryz.func185 (by kernel_rfl) (by kernel_rfl) ?_;intro args p r h hp;unfold vH at h;split at h
 ·split at h
  ·rename_i l x hx;cases h;rw[qq hx];refine⟨rfl,rfl,ay.of_eq (YQ x _) (dh ?_)⟩;rw[ri,show Y 16=[0,1,2,3,4,5,6,7,8,9,10,11,12,13,14,15] from by decide]
   simp only[List.all_cons,List.all_nil,Bool.and_true]
  ·cases h
 ·cases h
noncomputable def Ia:List (FuncId×PT):=(184,bY zx)::(151,bY wV)::(207,bn vI)::(208,bn vk)::(185,bn vH)::H9
theorem yY:bp H (λf=>aD f Ia):=.cons XD (bO _) (.cons Qm (bO _) (.cons S9 (aS _) (.cons RI (aS _) (.cons S8 (aS _) yX))))
noncomputable def Ao:fD:={cv with cT:=λf=>aD f Ia}
theorem HM:Sx.Good H Ao:=.of bR yY bq
def kg (x:Nd):Bool:=iB x 0&&(!decide (x.v=[])&&(D ((x.v.length:Int)<=80)&&D (cF x.r 16=0)))
def cN (x:Nd)(leaf:Bool):f_:=bif jO x.p then dS x.p leaf else []
def ki (x:Nd):f_:=cU [aq (cN x A),aq x.v]
def rA (x:Nd):f_:=cU [aq (cN x q),x.r 0]
def bZ (r:Nat->f_)(i j:Nat):f_:=if j<i then(if r j=[] then [128] else r j)else [128]
def zO (f:Nat->f_):List SV:=[.str q (f 0),.str q (f 1),.str q (f 2),.str q (f 3),.str q (f 4),.str q (f 5),.str q (f 6),.str q (f 7),.str q (f 8),.str q (f 9),.str q (f 10),.str q (f 11),.str q (f 12),.str q (f 13),.str q (f 14),.str q (f 15),.str q (f 16)]
def gj (x:Nd):f_:=cU [bZ x.r 16 0,bZ x.r 16 1,bZ x.r 16 2,bZ x.r 16 3,bZ x.r 16 4,bZ x.r 16 5,bZ x.r 16 6,bZ x.r 16 7,bZ x.r 16 8,bZ x.r 16 9,bZ x.r 16 10,bZ x.r 16 11,bZ x.r 16 12,bZ x.r 16 13,bZ x.r 16 14,bZ x.r 16 15,aq x.v]
def cZ (x:Nd):f_:=if x.k=0 then [128] else if x.k=1 then ki x else if x.k=2 then rA x else gj x
structure Nd.rB (x:Nd):Prop where
 p:x.p.length<=1000
 v:x.v.length<=1000
 r: ∀ j,j<16->(x.r j).length<=1000
noncomputable def afj (x:Nd):aY :={α:=Nat,pre:=λ_ i=>i<=16,kH:=λ_ i=>16 - i,fresh:=0,slots:=λ_ i=>[(7,.int .i64 q i)],mem:=λ_ i=>[(1,.cells (zO (bZ x.r i)) 17 9)]}
noncomputable def UO (x:Nd):fD:={cv with cT:=λf=>aD f Ia,aW:=λf=>if f=201 then [(1,always (afj x))] else []}
theorem adn (x:Nd):Sx.Good H (UO x):=.of bR yY bq
def Dx (r0 r1 r2 r3 r4 r5 r6 r7 r8 r9 r10 r11 r12 r13 r14 r15:f_):Nat->f_:=λi=>[r0,r1,r2,r3,r4,r5,r6,r7,r8,r9,r10,r11,r12,r13,r14,r15].getD i []
def dK (r:Nat->f_):Nat->f_:=Dx (r 0) (r 1) (r 2) (r 3) (r 4) (r 5) (r 6) (r 7) (r 8) (r 9) (r 10) (r 11) (r 12) (r 13) (r 14) (r 15)
def bJ:Nat->f_:=Dx [] [] [] [] [] [] [] [] [] [] [] [] [] [] [] []
def bN (t:f_):Nat->f_:=Dx t [] [] [] [] [] [] [] [] [] [] [] [] [] [] []
def cS (s:f_)(j:Nat):f_:=if aj s j=[128] then [] else aj s j
def yh (s:f_)(i j:Nat):f_:=if j<i then cS s j else []
def e9:Nd:=⟨0,[],[],bJ⟩
def oh (s:f_):Nd:=⟨1,eU (af (aj (af s) 0)),af (aj (af s) 1),bJ⟩
def uT (s:f_):Nd:=⟨2,eU (af (aj (af s) 0)),[],bN (aj (af s) 1)⟩
def i5 (s:f_):Nd:=⟨3,[],af (aj (af s) 16),dK (cS (af s))⟩
def o9 (s:f_):Int:=bif eo (aj s 0)&&jN (af (aj s 0))then(bif eI (af (aj s 0))then(bif eo (aj s 1)then 1 else -1)else 2)else -1
def q9 (s:f_):Int:=bif dD s then(if aA s=2 then o9 s else if aA s=17 then(bif eo (aj s 16)then 3 else -1)else -1)else -1
def aH (s:f_):Int:=if s=[128] then 0 else bif cw s&&(dn s&&D (aF s=[]))then q9 (af s)else -1
def getD (s:f_):Nd:=if aH s=1 then oh s else if aH s=2 then uT s else if aH s=3 then i5 s else e9
def XW (s:f_):cK:=.fork (D (aH s=0)) λb=>match b with
 | true=>.ret (.aN [dc,.bool A A])
 | false=>.fork (D (aH s=1)) λb=>match b with
   | true=>.ret (.aN [(oh s).zR A 1,.bool A A])
   | false=>.fork (D (aH s=2)) λb=>match b with
     | true=>.ret (.aN [(uT s).zR A 2,.bool A A])
     | false=>.fork (D (aH s=3)) λb=>match b with
       | true=>.ret (.aN [(i5 s).zR A 3,.bool A A])
       | false=>.all Nd λx=>.ret (.aN [x.sv,.bool A q])
def iU (inl:f_->Bool)(t:f_):Bool:=bw t||inl t
def nB (inl:f_->Bool)(x:Nd):Bool:=iB x 1&&(D (x.v=[])&&(D (cF x.r 16=1)&&(bw (x.r 0)||(inl (x.r 0)&&D ((getD (x.r 0)).k=3)))))
def dI (r:Nat->f_):Nat->Int
 | 0=>0
 | i+1=>if r i=[] then dI r i else dI r i+1
def j6 (inl:f_->Bool)(r:Nat->f_):Nat->Bool
 | 0=>A
 | i+1=>j6 inl r i&&(D (r i=[])||iU inl (r i))
def dX (inl:f_->Bool)(x:Nd):Bool:=D (x.p=[])&&(D ((x.v.length:Int)<=80)&&(j6 inl x.r 16&&D (2<=min (x.v.length:Int) 1+dI x.r 16)))
def jq (inl:f_->Bool)(x:Nd):Bool:=if x.k=0 then ri x else if x.k=1 then kg x else if x.k=2 then nB inl x else if x.k=3 then dX inl x else q
def Er (inl:f_->Bool)(s:f_):Bool:=D (0<=aH s)&&(jq inl (getD s)&&D (cZ (getD s)=s))
def Cy:Nat->f_->Bool
 | 0,_=>q
 | n+1,t=>decide (t.length<32)&&(Er (Cy n) t&& !decide ((getD t).k=0))
def bH (t:f_):Bool:=Cy 32 t
def aZ (x:Nd):Bool:=jq bH x
def bG (s:f_):Bool:=Er bH s
theorem aeS (x:Nd)(R:SV->Prop):VC.holds (eZ Ao 186 Tryz.f186 [x.sv] R)=((True/\(iB {k:=x.k,p:=x.p,v:=x.v,r:=fun(a:Nat)=>(c9 x.r []).getD a []:Nd} 0=A->Bk (!decide (x.v=[])) (Fk ((x.v.length:Int)<=80) (True/\R (SV.bool (q&&A) (D (cF (fun(b:Nat)=>(c9 x.r []).getD b []) 16=(0:Int))))) (R (SV.bool A q))) (R (SV.bool A q)))/\(iB {k:=x.k,p:=x.p,v:=x.v,r:=fun(c:Nat)=>(c9 x.r []).getD c []:Nd} 0=q->R (SV.bool A q)))):=by kernel_rfl
theorem Pa (x:Nd)(R:SV->Prop):VC.holds (eZ Ao 190 Tryz.f190 [x.sv] R)=((x.p.length<1073741824/\(jO x.p=A->(dS x.p A).length<1152921504606846976/\C (SB.cells x.sv.cells 19 238)=C (SB.cells x.sv.cells 19 238)/\x.v.length<1152921504606846976/\(((2:Nat)=(2:Nat)/\(2:Nat)<=(2:Nat))/\(2:Nat)<=(140737488355328:Nat)/\(flat [aq (dS x.p A),aq x.v]).length<=140737488355328)/\(((0:Int)<=(192:Int)/\(192:Int)<=(192:Int))/\0<=(↑(flat [aq (dS x.p A),aq x.v]).length:Int)/\(↑(flat [aq (dS x.p A),aq x.v]).length:Int)<1152921504606846976)/\(↑(bA 192 (↑(flat [aq (dS x.p A),aq x.v]).length:Int).toNat).length:Int)+(↑(flat [aq (dS x.p A),aq x.v]).length:Int)<=9223372036854775807/\R (SV.str q (cat (bA 192 (↑(flat [aq (dS x.p A),aq x.v]).length:Int).toNat) (flat [aq (dS x.p A),aq x.v]))))/\(jO x.p=q->(0:Nat)<(1152921504606846976:Nat)/\C (SB.cells x.sv.cells 19 238)=C (SB.cells x.sv.cells 19 238)/\x.v.length<1152921504606846976/\(((2:Nat)=(2:Nat)/\(2:Nat)<=(2:Nat))/\(2:Nat)<=(140737488355328:Nat) /\(flat [aq [],aq x.v]).length<=140737488355328)/\(((0:Int)<=(192:Int)/\(192:Int)<=(192:Int))/\0<=(↑(flat [aq [],aq x.v]).length:Int)/\(↑(flat [aq [],aq x.v]).length:Int)<1152921504606846976)/\(↑(bA 192 (↑(flat [aq [],aq x.v]).length:Int).toNat).length:Int)+(↑(flat [aq [],aq x.v]).length:Int)<=9223372036854775807/\R (SV.str q (cat (bA 192 (↑(flat [aq [],aq x.v]).length:Int).toNat) (flat [aq [],aq x.v])))))):=by kernel_rfl
theorem TV (x:Nd)(R:SV->Prop):VC.holds (eZ Ao 191 Tryz.f191 [x.sv] R)=((x.p.length<1073741824/\(jO x.p=A->(dS x.p q).length<1152921504606846976/\C (SB.cells x.sv.cells 19 238)=C (SB.cells x.sv.cells 19 238)/\(((2:Nat)=(2:Nat)/\(2:Nat)<=(2:Nat))/\(2:Nat)<=(140737488355328:Nat)/\(flat [aq (dS x.p q),x.r 0]).length<=140737488355328)/\(((0:Int)<=(192:Int)/\(192:Int)<=(192:Int))/\0<=(↑(flat [aq (dS x.p q),x.r 0]).length:Int)/\(↑(flat [aq (dS x.p q),x.r 0]).length:Int)<1152921504606846976)/\(↑(bA 192 (↑(flat [aq (dS x.p q),x.r 0]).length:Int).toNat).length:Int)+(↑(flat [aq (dS x.p q),x.r 0]).length:Int)<=9223372036854775807/\R (SV.str q (cat (bA 192 (↑(flat [aq (dS x.p q),x.r 0]).length:Int).toNat) (flat [aq (dS x.p q),x.r 0]))))/\(jO x.p=q->(0:Nat)<(1152921504606846976:Nat)/\C (SB.cells x.sv.cells 19 238)=C (SB.cells x.sv.cells 19 238)/\(((2:Nat)=(2:Nat)/\(2:Nat)<=(2:Nat))/\(2:Nat)<=(140737488355328:Nat)/\(flat [aq [],x.r 0]).length<=140737488355328)/\(((0:Int)<=(192:Int)/\(192:Int)<=(192:Int)) /\0<=(↑(flat [aq [],x.r 0]).length:Int)/\(↑(flat [aq [],x.r 0]).length:Int)<1152921504606846976)/\(↑(bA 192 (↑(flat [aq [],x.r 0]).length:Int).toNat).length:Int)+(↑(flat [aq [],x.r 0]).length:Int)<=9223372036854775807/\R (SV.str q (cat (bA 192 (↑(flat [aq [],x.r 0]).length:Int).toNat) (flat [aq [],x.r 0])))))):=by kernel_rfl
theorem Pb (x:Nd)(R:SV->Prop):VC.holds (eZ Ao 189 Tryz.f189 [x.sv] R)=(((0:Nat)<(1152921504606846976:Nat)/\R (SV.str A (aq [])))):=by kernel_rfl
theorem Jf (x:Nd)(R:SV->Prop):VC.holds (eZ (UO x) 192 Tryz.f192 [x.sv] R)=((λh:Nat->(Nat)->SV=>((λj:Nat->SV=>((λl:Nat->(Nat)->SV=>((λm:Nat->(Nat)->SV=>((λn:Nat->(Nat)->SV=>((λo:Nat->(Nat)->SV=>((λa:SB=>((λd:SB=>(((0:Nat)<(1152921504606846976:Nat)/\C a=C a/\(0:Nat)<(1152921504606846976:Nat)/\C a=C a/\(0:Nat)<(1152921504606846976:Nat)/\C a=C a/\(0:Nat)<(1152921504606846976:Nat)/\C a=C a/\(0:Nat)<(1152921504606846976:Nat)/\C a=C a/\(0:Nat)<(1152921504606846976:Nat)/\C a=C a/\(0:Nat)<(1152921504606846976:Nat)/\C a=C a/\(0:Nat)<(1152921504606846976:Nat)/\C a=C a/\(0:Nat)<(1152921504606846976:Nat)/\C a=C a/\(0:Nat)<(1152921504606846976:Nat)/\C a=C a/\(0:Nat)<(1152921504606846976:Nat)/\C a=C a/\(0:Nat)<(1152921504606846976:Nat)/\C a=C a/\(0:Nat)<(1152921504606846976:Nat)/\C a=C a/\(0:Nat)<(1152921504606846976:Nat)/\C a=C a/\(0:Nat)<(1152921504606846976:Nat)/\C a=C a/\(0:Nat)<(1152921504606846976:Nat)/\C a=C a/\(0:Nat)<(1152921504606846976:Nat)/\C a=C a/\∀(c:Loop),(∃(g:Nat),g<=16/\0=(g:Int) /\aa (SB.cells (K17 (λ_=>SV.str A (aq [])) []) 17 9) (SB.cells (K17 (λi=>h i g) []) 17 9)/\aa (SB.loop I G c) (SB.loop I G c)/\aa d d/\aa a a/\aa (SB.cells x.sv.cells 19 238) (SB.cells x.sv.cells 19 238)/\True)/\∀(b:Nat),b<=16->Fk ((b:Int)<16) ((0<=(b:Int)/\(b:Int)<16/\(b:Int)<(↑(16:Nat):Int))/\Bk (!decide (ck (c9 x.r []) (b:Int).toNat=[])) (c=c/\(0<=(b:Int)/\(b:Int)<17)/\(b:Int).toNat<17 /\I6 ((b:Int)+1)/\∃(e:Nat),(e<=16/\16 - e<16 - b)/\(b:Int)+1=(e:Int)/\aa (SB.cells (K17 (λi=>l i b) []) 17 9) (SB.cells (K17 (λi=>m i e) []) 17 9)/\aa (SB.loop I G c) (SB.loop I G c)/\aa d d/\aa a a/\aa (SB.cells x.sv.cells 19 238) (SB.cells x.sv.cells 19 238)/\True) (I6 ((b:Int)+1)/\∃(f:Nat),(f<=16/\16 - f<16 - b)/\(b:Int)+1=(f:Int) /\aa (SB.cells (K17 (λi=>n i b) []) 17 9) (SB.cells (K17 (λi=>o i f) []) 17 9)/\aa (SB.loop I G c) (SB.loop I G c)/\aa d d/\aa a a/\aa (SB.cells x.sv.cells 19 238) (SB.cells x.sv.cells 19 238)/\True)) (x.v.length<1152921504606846976/\C a=C a/\(((17:Nat)=(17:Nat)/\(17:Nat)<=(17:Nat))/\(17:Nat)<=(140737488355328:Nat)/\(flat (c9 (bZ x.r b) [aq x.v])).length<=140737488355328)/\(((0:Int)<=(192:Int)/\(192:Int)<=(192:Int)) /\0<=(↑(flat (c9 (bZ x.r b) [aq x.v])).length:Int)/\(↑(flat (c9 (bZ x.r b) [aq x.v])).length:Int)<1152921504606846976)/\(↑(bA 192 (↑(flat (c9 (bZ x.r b) [aq x.v])).length:Int).toNat).length:Int)+(↑(flat (c9 (bZ x.r b) [aq x.v])).length:Int)<=9223372036854775807 /\R (SV.str q (cat (bA 192 (↑(flat (c9 (bZ x.r b) [aq x.v])).length:Int).toNat) (flat (c9 (bZ x.r b) [aq x.v])))))))) (SB.cells (SV.agg (SV.int .i64 q x.k::SV.str q x.p::SV.str q x.v::c9 j [])).cells 19 238))) (SB.cells (bg SV.aO.cells 0 (SV.slc ((1:Nat)) 0 17 A 17).cells) 1 29))) (fun(n0:Nat) (f:Nat)=>SV.str q (bZ x.r f n0)))) (fun(n0:Nat) (b:Nat)=>SV.str q (bZ x.r b n0)))) (fun(n0:Nat) (e:Nat)=>SV.str q (bZ x.r e n0)))) (fun(n0:Nat) (b:Nat)=>SV.str q (if(b:Int).toNat=n0 then ck (c9 x.r []) (b:Int).toNat else bZ x.r b n0)))) (fun(n0:Nat)=>SV.str q (x.r n0)))) (fun(n0:Nat) (g:Nat)=>SV.str q (bZ x.r g n0))):=by kernel_rfl
end
end Go.Proofs.YtoibaecagklkaaaGreatDoor
