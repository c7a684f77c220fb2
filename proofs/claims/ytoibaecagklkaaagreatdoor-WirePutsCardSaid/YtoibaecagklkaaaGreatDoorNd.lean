/-
  Papers among a law's arguments, whose rows have room for themselves.
-/
import Derived.Test.YtoibaecagklkaaaGreatDoorNc
import Derived.Test.YtoibaecagklkaaaGreatDoorMw
import Derived.Test.YtoibaecagklkaaaGreatDoorMo
import Derived.Test.YtoibaecagklkaaaGreatDoorMp
import Derived.Test.YtoibaecagklkaaaGreatDoorMn
import Derived.Test.YtoibaecagklkaaaGreatDoorMx
open Bool renaming and_eq_true->M,false->D,true->A
open Go.Operand renaming tmp->I
open Go.Proofs.Tryz renaming f26->R,f29->N,prog->F,underlying29->O,underlying63->S,underlying9->Q
open Nat renaming beq->J,eq_of_beq_eq_true->L
open Option renaming none->G,some->g
open UInt8 renaming ofNat->C
namespace Go.Proofs.YtoibaecagklkaaaGreatDoor
open Go Sx
variable {n:Nat}{H:Type}{W:World}
section
open Go Sx Go.RowKit Go.WideShapes Go.ChangeShapes
set_option maxRecDepth 100000
theorem aaj {P:Program}{t e:TypeId}{v:Value}{enc:TypeId×Value->H}{d:DataW H}{ps:List MemPlace}(ht:P.underlying t=g (.slice e))(hd:DataW.Trod enc P W 0 (λ_=>A) A t v d ps)
  {z:Bool} {w b o c:Nat} (hv:v=(SV.aS 0 w z o 0 n c).val (λ_=>b)):n<=c:=by
 subst hv;obtain⟨fuel,hf⟩:=hd;rcases DataW.trod_slice ht hf with ⟨h0,_⟩ | ⟨a,len,cap,elems,rest,m,_,hcs,_,hb,hlc,_⟩
 ·simp only[SV.val,Value.cells] at h0;have h1:n=0:=by simp at h0;exact h0.2.1
  omega
 ·simp only[SV.val,Value.cells] at hcs;cases hz:z&&J n 0 with
  | true =>simp only[M] at hz;have:=L hz.2;omega
  | false =>
    rw[hz] at hcs;simp only[cond_false] at hcs;have h1:n=len/\c=cap:=by simp at hcs;exact⟨hcs.2.1,hcs.2.2⟩
    omega
theorem MM:F.cellsOf 29=1:=by kernel_rfl
theorem OZ {base:Nat}{enc:TypeId×Value->H}{x:Value}{m:Nat}{y:DataW H×List MemPlace}(h:Cell.okWide F W .any base 29 x)
  (hd:DataW.trod enc F W 0 (λ_=>A) A m 29 [x]=g y) :
  ∃(z:Bool) (b o n c:Nat) (f:Nat->e_),x=(SV.aS 0 1 z o 0 n c).val (λ_=>b)/\n<=maxLen/\Stood W b (.view z o n [.str f])/\n<=c:=by
 have hw:=IS O h;obtain⟨a,n0,c0,rfl⟩:=okWide_slice O hw;have hT:DataW.Trod enc F W 0 (λ_=>A) A 29 (.slice a n0 c0) y.1 y.2:=⟨m,by rw[G7];exact hd⟩
 obtain⟨z,b,o,n,c,f,hv,hn,hst⟩:=Sg hw hT;exact⟨z,b,o,n,c,f,hv,hn,hst,aaj O hT hv⟩
theorem EI:F.cellTypes F.depth 63=g [3,9,9,9,29]:=by kernel_rfl
theorem CI {base:Nat}{v:Value}{enc:TypeId×Value->H}{d:DataW H}{ps:List MemPlace}(h:Value.okWide F W .any base 63 v)(hd:DataW.Trod enc F W 0 (λ_=>A) A 63 v d ps) :
  ∃(x:Pp) (z:Bool) (b o c:Nat),(∀(k:Nat) (E:Nat->Nat),E k=b->v=(x.sv (.aS k 1 z o 0 x.n c)).val E)/\Stood W b (.view z o x.n [.str x.f])/\x.n<=maxLen/\x.n<=c:=by
 obtain⟨cs,rfl,hs,hc⟩:=Xq S EI (by kernel_rfl) h;obtain⟨x0,g0,o0⟩:=hc 0 _ rfl;obtain⟨x1,g1,o1⟩:=hc 1 _ rfl;obtain⟨x2,g2,o2⟩:=hc 2 _ rfl;obtain⟨x3,g3,o3⟩:=hc 3 _ rfl;obtain⟨x4,g4,o4⟩:=hc 4 _ rfl;obtain⟨fuel,hd⟩:=hd;obtain⟨m,y,ht⟩:=KG S hd (i:=4) (x:=x4) rfl MM (by rw[← g4,Array.getElem?_toList];rfl);obtain⟨s,rfl,_⟩:=Ss Tryz.underlying3 o0;obtain⟨root,rfl⟩:=Ae Q o1;obtain⟨key,rfl⟩:=Ae Q o2;obtain⟨to,rfl⟩:=Ae Q o3;obtain⟨z,b,o,n,c,f,hv,hn,hst,hcap⟩:=OZ o4 ht;refine⟨⟨s,root,key,to,n,f⟩,z,b,o,c,λk E hk=> ?_,hst,hn,hcap⟩;have hv':x4=(SV.aS k 1 z o 0 n c).val E:=by rw[hv];simp only[SV.val,hk]
 have e:=Z7 (cs:=cs) (l:=[.int .i64 s,.string ⟨root.toArray⟩,.string ⟨key.toArray⟩,.string ⟨to.toArray⟩,x4]) hs (λj v hj=>by
  match j,hj with
  | 0,hj=>cases hj;exact g0
  | 1,hj=>cases hj;exact g1
  | 2,hj=>cases hj;exact g2
  | 3,hj=>cases hj;exact g3
  | 4,hj=>cases hj;exact g4)
 rw[e,hv'];rfl
end
namespace Sx
open Go
end Sx
section
open Go Sx
set_option maxRecDepth 20000
def VI (args:List SV)(_:Mem):Bool:=match args with
 | [.str A s]=>decide (s.length<32)
 | _=>D
noncomputable def LB:List (FuncId×PT):=(25,kU IQ ofG)::(150,A7 VI (aM Gm))::(151,jc ki)::(155,jc (dZ 9223372036854775808))::(127,jc (kg 9223372036854775808)) ::
 (105,jc (mU λx=>g (Fits x,Qp x)))::(152,mZ (dM λx=>g (eO 9223372036854775808 x.r,.bool D (aI x))))::(128,jc (mU λx=>g (Fits x,zE x)))::(24,aM qk)::tK
theorem Du:aQ F (λf=>ay f LB):=.cons UZ (kH _ _) (.cons (A8 L5) (tN (aG _)) (.cons (jT Fu) (eM _) (.cons (jT (iN _)) (eM _) (.cons (jT (tT (iN _))) (eM _)
 (.cons (jT L4) (eM _) (.cons (vC (Bj (iN _))) (lg _) (.cons (jT Pj) (eM _) (.cons KA (aG _) lH))))))))
noncomputable def Zz:dK:={bE with cm:=λf=>ay f LB}
theorem aaQ:Sx.Good F Zz:=.of bz Du aU
def yes:cN:=.ret (.bool D A)
end
namespace Sx
open Go
noncomputable section
def uX (ca:List SV->Option Nat)(cb:SB->Bool)(B:SB)(p:Nat->Prop)(r:Nat->Nat->SV)(B2:Nat->SB):PT:=λargs m nx K=>match ca args with
 | some key=>(match m.get key with
   | some X=>(match cb X with
     | true=>.all Nat λc=>.imp (p c) (K (r c nx) ((nx,B2 c)::m.put key B) (nx+1))
     | false=>.fail "another example")
   | none=>.fail "another example")
 | none=>.fail "another example"
theorem E7 {ca cb B p r B2}:bq (uX ca cb B p r B2):=by
 intro args m nx K K' hK h;unfold uX at h ⊢;split at h
 ·split at h
  ·split at h
   ·exact λc hc=>hK _ _ _ (h c hc)
   ·exact h
  ·exact h
 ·exact h
def KI (B:SB)(p:Nat->Prop)(r:Nat->Nat->SV)(B2:Nat->SB):SV->Mem->Nat->VC:=λv m _=>match m.get 0,v.key with
 | some X,g k=>(match m.get k,J k 0 with
   | some Y,D=>.and (leA X B) (.ex Nat λc=>.and (.atom (p c)) (.and (leA Y (B2 c)) (svA v (r c k))))
   | _,_=>.fail "no block")
 | _,_=>.fail "no block"
structure ExB (B:SB):Prop where
 wf:B.wf 0=A
 ro:B.ro=D
 no:B.no=D
theorem Tq {P:Program}{cfg:dK}(hg:Good P cfg){f:FuncId}{fn:Func}(hf:P.funcs[f]?=g fn) (hn:(fn.name== "runtime.NumGoroutine")=D) (hb:fn.body.isSome=A)  {ca:List SV->Option Nat} {cb:SB->Bool} {B:SB} {p:Nat->Prop} {r:Nat->Nat->SV} {B2:Nat->SB} {args0:List SV}
  (hB:ExB B) (hB2: ∀ c,ExB (B2 c)) (hr: ∀ c (E E':Nat->Nat) k k',E k=E' k'->(r c k).val E=(r c k').val E') (hw0:SV.e9 1 args0=A) (hca: ∀ args key,ca args=g key->∀ E,SV.vals E args=SV.vals (λ_=>E key) args0) (hcb: ∀ X,cb X=A->ah X B)
  (h:av (fL P (calling P cfg n) [] zq (cfg.bh f) cfg.rounds fn args0 [(0,B)] 1 (KI B p r B2))):ax P f (uX ca cb B p r B2):=by
 intro args m nx K hk hwf hargs Γ E w hs;unfold uX at hk;split at hk
 ·rename_i key hkey;split at hk
  ·rename_i X hX;split at hk
   ·rename_i hb2;have hle:=hcb X hb2;have hone:=hs.one hX hle hB.no hB.ro hB.wf;have hc:=dS hg hf hn hb h (by simp only[Mem.wf,Bool.and_true];exact SB.fE (Nat.zero_le _) hB.wf) hw0 hone;rw[← hca _ _ hkey E] at hc;refine eF hf hn hb (hc.mono ?_);rintro e w' ⟨v,rfl,E1,u,m1,nx1,g1,g2,g3,g4,g5⟩;refine⟨v,rfl,?_⟩;cases u with
    | none=>exact g5.elim
    | some u =>
      simp only[lift,KI] at g5;split at g5
      ·rename_i Y k hY hkk;split at g5
       ·rename_i Z hZ hk0;obtain⟨y1,c,y2,y3,y4⟩:=g5;have y1:ah Y B:=y1;have y2:p c:=y2;have y3:ah Z (B2 c):=y3;have y4:aa u (r c k):=y4;have hne:k≠0:=λe=>by subst e;cases hk0
        have hE0:E1 0=E key:=g1 0 (by omega);have hs1:=(g4.swap hY y1).swap (j:=k) (X:=Z) (by rw[Mem.rO hne];exact hZ) y3;have e1:((m1.put 0 B).put k (B2 c)).get 0=g B:=by rw[Mem.rO (λe=>hne e.symm)];exact Mem.rN hY
        have e2:((m1.put 0 B).put k (B2 c)).get k=g (B2 c):=Mem.rN (X:=Z) (by rw[Mem.rO hne];exact hZ);obtain⟨E',q1,q2,q3⟩:=hs.aav hwf hX (hle.old hB.no).1 ((hle.old hB.no).2.2 hB.ro) hs1 hE0 e1 hB.no hB.ro hB.wf hne e2 (hB2 c).wf (hB2 c).ro;exact⟨E',g (r c nx),_,nx+1,q1,Nat.le_succ _,λz hz=>by cases hz;rw[g3 u rfl,y4 E1];exact hr c _ _ _ _ (q2 (hB2 c).no).symm,q3,hk c y2⟩
       ·exact g5.elim
      ·exact g5.elim
   ·exact hk.elim
  ·exact hk.elim
 ·exact hk.elim
end
end Sx
section
open Go Sx
set_option maxRecDepth 20000
def wR:SB:=.cells [.str A [97],.str A [49],.str A [98],.str A [50]] 4 50
def kO:e_:=[215,22,213,128,194,32,49,194,32,50,128,128,128,128,128,128,128,128,128,128,128,128,128,128]
def uZ (c:Nat):SB:=.cells [.str A kO] c 9
def Tr (n:Nat):List SV->Option Nat
 | [.slc key 0 k A k']=>(match J k n&&J k' n with
   | true=>g key
   | false=>G)
 | _=>G
def Lc:SB->Bool
 | .cells [.str _ a,.str _ b,.str _ c,.str _ d] tot ty=>decide (a=[97])&&decide (b=[49])&&decide (c=[98])&&decide (d=[50])&&J tot 4&&J ty 50
 | _=>D
theorem Pq {X:SB}(h:Lc X=A):ah X wR:=by
 unfold Lc at h;split at h
 ·rename_i la a lb b lc c ld d tot ty;simp only[M,decide_eq_true_eq] at h;obtain⟨⟨⟨⟨⟨rfl,rfl⟩,rfl⟩,rfl⟩,ht⟩,hy⟩:=h;obtain rfl:=L ht;obtain rfl:=L hy;exact ah.cells (λE=>rfl) rfl
 ·cases h
theorem KK {args:List SV}{key:Nat}(h:Tr n args=g key)(E:Nat->Nat):SV.vals E args=SV.vals (λ_=>E key) [.slc 0 0 n A n]:=by
 unfold Tr at h;split at h
 ·rename_i key' k k';split at h
  ·rename_i hk;cases h;simp only[M] at hk;obtain rfl:=L hk.1;obtain rfl:=L hk.2;rfl
  ·cases h
 ·cases h
theorem O9:ExB wR:=⟨rfl,rfl,rfl⟩
theorem KN (c:Nat):ExB (uZ c):=⟨rfl,rfl,rfl⟩
def uY (c k:Nat):SV:=.aD [.slc k 0 1 D c,.int .i64 A 0]
noncomputable def CV:PT:=uX (Tr 2) Lc wR (λc=>1<=c) uY uZ
noncomputable def abP (cfg:dK)(f:Nat)(fn:Func)(args0:List SV)(B:SB)(p:Nat->Prop)(r:Nat->Nat->SV)(B2:Nat->SB):VC:=fL F (calling F cfg 30) [] zq (cfg.bh f) cfg.rounds fn args0 [(0,B)] 1 (KI B p r B2)
theorem Rm:VC.holds (abP Zz 26 R [.slc 0 0 2 A 2] wR (λc=>1<=c) uY uZ)=((g (SB.cells [SV.str A [(97:UInt8)],SV.str A [(49:UInt8)]] 2 50)=g (SB.cells [SV.str A [(97:UInt8)],SV.str A [(49:UInt8)]] 2 50)/\g (SB.cells [SV.str A [(98:UInt8)],SV.str A [(50:UInt8)]] 2 50)=g (SB.cells [SV.str A [(98:UInt8)],SV.str A [(50:UInt8)]] 2 50)/\g (SB.cells [SV.int .i64 A 0] 1 3)=g (SB.cells [SV.int .i64 A 0] 1 3)/\g (SB.cells [SV.int .i64 A 0] 1 3)=g (SB.cells [SV.int .i64 A 0] 1 3)/\g (SB.cells [SV.int .i64 A 0] 1 3)=g (SB.cells [SV.int .i64 A 0] 1 3)/\∀(d:Nat),1<=d->g (SB.cells [SV.int .i64 A 1] 1 3)=g (SB.cells [SV.int .i64 A 1] 1 3)/\g (SB.cells [SV.int .i64 A 1] 1 3)=g (SB.cells [SV.int .i64 A 1] 1 3)/\Fits {k:=(1:Int),p:=aB (aB [C 6,C 1] (g (I 20)) G 1 2) (g (I 20)) G 1 1,v:=[(49:UInt8)],r:=fun(e:Nat)=>(bG (λ_=>[]) []).getD e []:Nd}/\(3:Nat)<(1152921504606846976:Nat)/\(3:Nat)<(9223372036854775808:Nat) /\g (SB.cells [SV.int .i64 A 1] 1 3)=g (SB.cells [SV.int .i64 A 1] 1 3)/\∀(f:Nat),1<=f->g (SB.cells [SV.int .i64 A 2] 1 3)=g (SB.cells [SV.int .i64 A 2] 1 3)/\g (SB.cells [SV.int .i64 A 2] 1 3)=g (SB.cells [SV.int .i64 A 2] 1 3)/\Fits {k:=(1:Int),p:=aB (aB [C 6,C 2] (g (I 20)) G 1 2) (g (I 20)) G 1 1,v:=[(50:UInt8)],r:=fun(h:Nat)=>(bG (λ_=>[]) []).getD h []:Nd}/\(3:Nat)<(1152921504606846976:Nat)/\(3:Nat)<(9223372036854775808:Nat)/\g (SB.cells [SV.int .i64 A 2] 1 3)=g (SB.cells [SV.int .i64 A 2] 1 3)/\g (SB.cells [SV.int .i64 A 3] 1 3)=g (SB.cells [SV.int .i64 A 3] 1 3)/\g (SB.cells [SV.int .i64 A 3] 1 3)=g (SB.cells [SV.int .i64 A 3] 1 3)/\g (SB.cells [SV.int .i64 A 3] 1 3)=g (SB.cells [SV.int .i64 A 3] 1 3)/\g (SB.cells [SV.int .i64 A 4] 1 3)=g (SB.cells [SV.int .i64 A 4] 1 3)/\g (SB.cells [SV.int .i64 A 4] 1 3)=g (SB.cells [SV.int .i64 A 4] 1 3) /\g (SB.cells [SV.int .i64 A 4] 1 3)=g (SB.cells [SV.int .i64 A 4] 1 3)/\g (SB.cells [SV.int .i64 A 5] 1 3)=g (SB.cells [SV.int .i64 A 5] 1 3)/\g (SB.cells [SV.int .i64 A 5] 1 3)=g (SB.cells [SV.int .i64 A 5] 1 3)/\g (SB.cells [SV.int .i64 A 5] 1 3)=g (SB.cells [SV.int .i64 A 5] 1 3)/\g (SB.cells [SV.int .i64 A 6] 1 3)=g (SB.cells [SV.int .i64 A 6] 1 3)/\g (SB.cells [SV.int .i64 A 6] 1 3)=g (SB.cells [SV.int .i64 A 6] 1 3)/\g (SB.cells [SV.int .i64 A 6] 1 3)=g (SB.cells [SV.int .i64 A 6] 1 3)/\g (SB.cells [SV.int .i64 A 7] 1 3)=g (SB.cells [SV.int .i64 A 7] 1 3)/\g (SB.cells [SV.int .i64 A 7] 1 3)=g (SB.cells [SV.int .i64 A 7] 1 3)/\g (SB.cells [SV.int .i64 A 7] 1 3)=g (SB.cells [SV.int .i64 A 7] 1 3)/\g (SB.cells [SV.int .i64 A 8] 1 3)=g (SB.cells [SV.int .i64 A 8] 1 3)/\g (SB.cells [SV.int .i64 A 8] 1 3)=g (SB.cells [SV.int .i64 A 8] 1 3)/\g (SB.cells [SV.int .i64 A 8] 1 3)=g (SB.cells [SV.int .i64 A 8] 1 3) /\g (SB.cells [SV.int .i64 A 9] 1 3)=g (SB.cells [SV.int .i64 A 9] 1 3)/\g (SB.cells [SV.int .i64 A 9] 1 3)=g (SB.cells [SV.int .i64 A 9] 1 3)/\g (SB.cells [SV.int .i64 A 9] 1 3)=g (SB.cells [SV.int .i64 A 9] 1 3)/\g (SB.cells [SV.int .i64 A 10] 1 3)=g (SB.cells [SV.int .i64 A 10] 1 3)/\g (SB.cells [SV.int .i64 A 10] 1 3)=g (SB.cells [SV.int .i64 A 10] 1 3)/\g (SB.cells [SV.int .i64 A 10] 1 3)=g (SB.cells [SV.int .i64 A 10] 1 3)/\g (SB.cells [SV.int .i64 A 11] 1 3)=g (SB.cells [SV.int .i64 A 11] 1 3)/\g (SB.cells [SV.int .i64 A 11] 1 3)=g (SB.cells [SV.int .i64 A 11] 1 3)/\g (SB.cells [SV.int .i64 A 11] 1 3)=g (SB.cells [SV.int .i64 A 11] 1 3)/\g (SB.cells [SV.int .i64 A 12] 1 3)=g (SB.cells [SV.int .i64 A 12] 1 3)/\g (SB.cells [SV.int .i64 A 12] 1 3)=g (SB.cells [SV.int .i64 A 12] 1 3)/\g (SB.cells [SV.int .i64 A 12] 1 3)=g (SB.cells [SV.int .i64 A 12] 1 3)/\g (SB.cells [SV.int .i64 A 13] 1 3)=g (SB.cells [SV.int .i64 A 13] 1 3) /\g (SB.cells [SV.int .i64 A 13] 1 3)=g (SB.cells [SV.int .i64 A 13] 1 3)/\g (SB.cells [SV.int .i64 A 13] 1 3)=g (SB.cells [SV.int .i64 A 13] 1 3)/\g (SB.cells [SV.int .i64 A 14] 1 3)=g (SB.cells [SV.int .i64 A 14] 1 3)/\g (SB.cells [SV.int .i64 A 14] 1 3)=g (SB.cells [SV.int .i64 A 14] 1 3)/\g (SB.cells [SV.int .i64 A 14] 1 3)=g (SB.cells [SV.int .i64 A 14] 1 3)/\g (SB.cells [SV.int .i64 A 15] 1 3)=g (SB.cells [SV.int .i64 A 15] 1 3)/\g (SB.cells [SV.int .i64 A 15] 1 3)=g (SB.cells [SV.int .i64 A 15] 1 3)/\g (SB.cells [SV.int .i64 A 15] 1 3)=g (SB.cells [SV.int .i64 A 15] 1 3) /\Fits {k:=(3:Int),p:=[],v:=[],r:=fun(i:Nat)=>[[],Jf (cq {k:=(1:Int),p:=aB (aB [C 6,C 1] (g (I 20)) G 1 2) (g (I 20)) G 1 1,v:=[(49:UInt8)],r:=fun(j:Nat)=>(bG (λ_=>[]) []).getD j []:Nd}),Jf (cq {k:=(1:Int),p:=aB (aB [C 6,C 2] (g (I 20)) G 1 2) (g (I 20)) G 1 1,v:=[(50:UInt8)],r:=fun(l:Nat)=>(bG (λ_=>[]) []).getD l []:Nd}),[],[],[],[],[],[],[],[],[],[],[],[],[]].getD i []:Nd}/\(22:Nat)<(1152921504606846976:Nat)/\(22:Nat)<(9223372036854775808:Nat) /\Fits {k:=(2:Int),p:=aB [C 6,C 1] G (g (I 81)) 0 1,v:=[],r:=fun(m:Nat)=>((Jf (cq {k:=(3:Int),p:=[],v:=[],r:=fun(n:Nat)=>[[],Jf (cq {k:=(1:Int),p:=aB (aB [C 6,C 1] (g (I 20)) G 1 2) (g (I 20)) G 1 1,v:=[(49:UInt8)],r:=fun(o:Nat)=>(bG (λ_=>[]) []).getD o []:Nd}),Jf (cq {k:=(1:Int),p:=aB (aB [C 6,C 2] (g (I 20)) G 1 2) (g (I 20)) G 1 1,v:=[(50:UInt8)],r:=fun(q:Nat)=>(bG (λ_=>[]) []).getD q []:Nd}),[],[],[],[],[],[],[],[],[],[],[],[],[]].getD n []:Nd}))::Nk (λ_=>[]) []).getD m []:Nd}/\∀(u2:Loop),u2=u2/\∀(a:Nat),1<=a->ah wR wR/\∃(b:Nat),1<=b /\ah (SB.cells [SV.str A (C 215::C 22::C 213::((128:UInt8))::C 194::C 32::((49:UInt8))::C 194::C 32::((50:UInt8))::((128:UInt8))::K8 (λ_=>(128:UInt8)) [(128:UInt8),(128:UInt8),(128:UInt8),(128:UInt8),C 128])] (a*1) 9) (uZ b)/\aa (SV.aD [SV.slc ((19:Nat)) 0 1 D a,SV.int .i64 A 0]) (uY b ((19:Nat))))):=by kernel_rfl
theorem NI {x:Nd}(h:(List.range 16).all (λj=>decide ((x.r j).length<9223372036854775808))=A):Fits x:=λj hj=>by have:=List.all_eq_true.1 h j (List.mem_range.2 hj);simpa using this
theorem KM {t:e_}{c:Nat}(h:t=kO):ah (SB.cells [SV.str A t] (c*1) 9) (uZ c):=by subst h;exact ah.cells (λE=>rfl) (by omega)
theorem KJ:ax F 26 CV:=by
 refine Tq aaQ (n:=30) (fn:=R) Tryz.func26 (by kernel_rfl) (by kernel_rfl) O9 KN (λc E E' k k' h=>by simp only[uY,SV.val,SV.vals,h]) rfl (λ_ _ h E=>KK h E) (λ_ h=>Pq h) (av.of_eq Rm ?_)
 repeat' first
  | exact trivial
  | exact ah.refl _
  | exact NI (by decide +kernel)
  | exact rfl
  | refine And.intro ?_ ?_
  | omega
  | intro (_:Loop)
  | intro (_:Nat)
  | intro (_:_<=_)
  | refine⟨_,?_,KM (by decide +kernel),λ_=>rfl⟩
  | fail
def abo (args:List SV)(m:Mem):Bool:=match args with
 | [x]=>Ig m x
 | _=>D
noncomputable def ZS (cfg:dK)(f:Nat)(fn:Func)(args:List SV)(a:cN):VC:=fL F (calling F cfg 40) [] zq (cfg.bh f) cfg.rounds fn args [] 0 (λv m _=>a.fit v m)
noncomputable def Uu:List (FuncId×PT):=(26,CV)::(40,jc vz)::(25,A7 abo (kU IQ ofG))::LB
theorem PN:aQ F (λf=>ay f Uu):=.cons KJ E7 (.cons (jT N9) (eM _) (.cons (A8 UZ) (tN (kH _ _)) Du))
noncomputable def S3:dK:={bE with cm:=λf=>ay f Uu}
theorem aa2:Sx.Good F S3:=.of bz PN aU
theorem WJ:VC.holds (ZS S3 29 N [] (.ret (.bool A A)))=((λm:Nat->List SV=>((λe:SB=>((λf:Nat->SB=>((λi:e_=>((λh:Nat->SB=>((λl:e_=>((λc:Nat->SB=>((λj:e_=>((∀(n:Nat),1<=n->(True/\IQ [kO])/\∀(o:Nat),1<=o->((24:Nat)<=(9223372036854775808:Nat)/\(24:Nat)<(1099511627776:Nat))/\(True/\IQ [kO])/\Fits {k:=(2:Int),p:=bT (af (aj (af kO) 0)),v:=[],r:=fun(q:Nat)=>(bG (bN l) []).getD q []:Nd}/\∀(s:Nat),0<=s->(True/\IQ [kO])/\∀(t:Nat),1<=t->∀(d:Nat),1<=d->((24:Nat)<=(9223372036854775808:Nat)/\(24:Nat)<(1099511627776:Nat))/\(22:Nat)<(9223372036854775808:Nat)/\Rel 9223372036854775808 (bN l 0)/\(3:Nat)<(9223372036854775808:Nat)/\Rel 9223372036854775808 ((getD (bN l 0)).r 2)/\(24:Nat)<(1152921504606846976:Nat)/\((0:Int)<=(0:Int)/\(0:Int)<(18446744073709551616:Int))/\g (f d)=g (f d)/\g (f d)=g (f d)/\g (f d)=g (f d)/\(32:Nat)<(1152921504606846976:Nat)/\g (f d)=g (f d)/\g (f d)=g (f d) /\(1:Nat)<(1152921504606846976:Nat)/\g (f d)=g (f d)/\(0:Nat)<(1152921504606846976:Nat)/\(((1:Nat)=(1:Nat)/\(1:Nat)<=(1:Nat))/\(1:Nat)<=(140737488355328:Nat)/\(25:Nat)<=(140737488355328:Nat))/\(((0:Int)<=(192:Int)/\(192:Int)<=(192:Int))/\(0:Int)<=(25:Int)/\(25:Int)<(1152921504606846976:Int))/\(((5:Nat)=(5:Nat)/\(5:Nat)<=(5:Nat))/\(5:Nat)<=(140737488355328:Nat)/\(62:Nat)<=(140737488355328:Nat))/\(((0:Int)<=(192:Int)/\(192:Int)<=(192:Int))/\(0:Int)<=(62:Int)/\(62:Int)<(1152921504606846976:Int))/\True/\∀(a:Nat),1<=a->∀(b:Loop),((True/\IQ [af (aj i 0)])/\(((24:Nat)<=(9223372036854775808:Nat)/\(24:Nat)<(1099511627776:Nat))/\g (Au (SB.rows A 1 [aE.str λu=>af (aj i u)] D a 9))=g (Au (SB.rows A 1 [aE.str λw=>af (aj i w)] D a 9))/\g (c a)=g (c a)/\g (c a)=g (c a)/\g (h a)=g (h a)/\g e=g e/\g e=g e/\b=b/\Rel 9223372036854775808 (bN j 0)/\b=b /\Rel 9223372036854775808 ((getD (bN j 0)).r 2)/\b=b/\g (h a)=g (h a)/\True/\aa (SV.bool A A) (SV.bool A A))/\g (Au (SB.rows A 1 [aE.str λx=>af (aj i x)] D a 9))=g (Au (SB.rows A 1 [aE.str λy=>af (aj i y)] D a 9))/\g (c a)=g (c a)/\g (c a)=g (c a)/\((24:Nat)<=(9223372036854775808:Nat)/\(24:Nat)<(1099511627776:Nat))/\g (h a)=g (h a)/\g e=g e/\g e=g e/\b=b/\Rel 9223372036854775808 (bN j 0)/\b=b/\Rel 9223372036854775808 ((getD (bN j 0)).r 2)/\b=b/\g (h a)=g (h a)/\True/\aa (SV.bool A A) (SV.bool A A))/\g (c a)=g (c a)/\g e=g e/\g e=g e/\(True/\IQ [af (aj i 0)])/\(((24:Nat)<=(9223372036854775808:Nat)/\(24:Nat)<(1099511627776:Nat))/\g (Au (SB.rows A 1 [aE.str λz=>af (aj i z)] D a 9))=g (Au (SB.rows A 1 [aE.str λu2=>af (aj i u2)] D a 9))/\g (c a)=g (c a)/\g (c a)=g (c a)/\b=b /\Rel 9223372036854775808 (bN j 0)/\b=b/\Rel 9223372036854775808 ((getD (bN j 0)).r 2)/\b=b/\g (h a)=g (h a)/\True/\aa (SV.bool A A) (SV.bool A A))/\g (Au (SB.rows A 1 [aE.str λB=>af (aj i B)] D a 9))=g (Au (SB.rows A 1 [aE.str λC=>af (aj i C)] D a 9))/\g (c a)=g (c a)/\g (c a)=g (c a)/\((24:Nat)<=(9223372036854775808:Nat)/\(24:Nat)<(1099511627776:Nat))/\b=b/\Rel 9223372036854775808 (bN j 0)/\b=b/\Rel 9223372036854775808 ((getD (bN j 0)).r 2)/\b=b/\g (h a)=g (h a)/\True/\aa (SV.bool A A) (SV.bool A A)))) (aj (af (af (aj i 0))) 1))) (fun(a:Nat)=>(SB.cells (m a) 4 188)))) (aj (af kO) 1))) (fun(a:Nat)=>(SB.cells (bf (m a) 2 (SV.int .i64 A 1).cells) 4 188)))) (af (aY (aN 192 62++flat [aq (digits 0),aq (b7 (flat [kO])),aq [(98:UInt8)],aq [],aN 192 25++flat [aq kO]]) 4)))) (fun(d:Nat)=>(SB.cells (SV.agg [SV.int .i64 A 0,lit (ofG [kO]),SV.str A [(98:UInt8)],SV.str A [],SV.slc ((20:Nat)) 0 1 D d]).cells 5 63)))) (SB.cells (SV.ptr ((29:Nat)) A 0).cells 1 240))) (fun(a:Nat)=>(bf (SV.agg [SV.str A [],SV.aK,SV.int .i64 A 0,SV.aA]).cells 0 (SV.agg (bf (bf [SV.str A [],SV.aK,SV.int .i64 A 0,SV.aA] 0 (Uz (C3 (SV.str D (af (aY (aN 192 62++flat [aq (digits 0),aq (b7 (flat [kO])),aq [(98:UInt8)],aq [],aN 192 25++flat [aq kO]]) 1))))).cells) 1 (Uz (C3 (SV.bx ((24:Nat)) 1 A 0 1 a))).cells)).cells))):=by kernel_rfl
theorem GV:av (ZS S3 29 N [] (.ret (.bool A A))):=by
 refine av.of_eq WJ ?_
 repeat' first
  | exact trivial
  | exact ah.refl _
  | exact NI (by decide +kernel)
  | exact rfl
  | refine And.intro ?_ ?_
  | omega
  | intro (_:Loop)
  | intro (_:Nat)
  | intro (_:_<=_)
  | decide +kernel
  | exact λ_=>rfl
  | exact⟨rfl,rfl⟩
  | fail
theorem RH:Es:=by
 refine cn (n:=40) (fn:=N) Tryz.func29 (by kernel_rfl) (by kernel_rfl) ?_;intro vs q a h hq
 match vs,h with
 | [],h =>cases h;exact⟨_,aa2,rfl,rfl,GV⟩
end
end Go.Proofs.YtoibaecagklkaaaGreatDoor
