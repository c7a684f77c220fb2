/-
  The reference's nibbles: the contracts.
-/
import Derived.Test.YtoibaecagklkaaaGreatDoorMs
import Derived.Test.YtoibaecagklkaaaGreatDoorMr
open Bool renaming and_false->M,false->o,false_eq_true->G,true->u,true_and->O,true_eq_false->I
open Decidable renaming decide->w
open Go.Proofs.Tryz renaming f139->P,f141->Q,f142->S,f146->T,f174->V,f175->X,f178->Y,f181->Z,f203->ag,f205->an,f55->az,prog->z
open Int renaming toNat_natCast->N
open List renaming length_append->J,length_cons->C,length_drop->aA,length_nil->K
open Option renaming none->F,some->A
open UInt8 renaming ofNat->D
namespace Go.Proofs.YtoibaecagklkaaaGreatDoor
open Go Sx
variable {p s:e_}{x:Nd}
section
open Go Sx
set_option maxRecDepth 20000
theorem lP (f:Nat->Int)(n:Nat):bD f 0 (n+1)=bD f 0 n++[D (f n).toNat]:=by unfold bD;rw[List.range_succ,List.map_append];simp
theorem Ey (hp:p.length<1152921504606846976):av (cA (SC p) 178 Y [.str o p] (λv=>aa v (.bool o (cY p)))):=by
 refine av.gV (V0 p _) (by delta Fk;exact rfl) ?_;refine⟨⟨0,jY.zero _ _,rfl,trivial⟩,λx hx=>⟨λh=> ?_,λh=> ?_⟩⟩
 ·have h:(x:Int)<(p.length:Int):=of_decide_eq_true h;refine⟨by omega,λg=>bp ?_,λg=>⟨by omega,x+1,⟨hx.next h ?_,by omega⟩,by omega,trivial⟩⟩
  ·exact(all_none h (by rw[sJ,g];rfl)).symm
  ·rw[sJ,g];rfl
 ·have h: ¬ (x:Int)<(p.length:Int):=of_decide_eq_false h;exact bp (hx.done h).symm
theorem CK:ax z 178 (aM gL):=by
 refine cM (cn (n:=20) (fn:=Y) Tryz.func178 (by kernel_rfl) (by kernel_rfl) ?_);intro args p a h hp;unfold gL at h;split at h
 ·cases h;exact⟨_,aaB _,rfl,rfl,Ey hp⟩
 ·cases h
theorem G2 {k:e_}(hk:k.length<1099511627776):av (cA (SA k) 55 az [.str o k] (λv=>aa v (.str o (ak k)))):=by
 refine av.gV (YO k _) (by delta Fk;exact rfl) ?_;refine⟨⟨0,Nat.zero_le _,rfl,rfl,trivial⟩,λx hx=>⟨λh=> ?_,λh=> ?_⟩⟩
 ·have h:(x:Int)<(k.length:Int):=of_decide_eq_true h;have hb:=cg k (x:Int);refine⟨by omega,by omega,by omega,by omega,by rw[jV];omega,by omega,x+1,⟨by omega,by omega⟩,?_,by omega,trivial⟩;rw[show 2*(x+1)=2*x+1+1 by omega,lP,lP];have e0:ga k (2*x)=ai k (x:Int) / 16:=by unfold ga;rw[if_pos (by omega),show((2*x:Nat):Int) / 2=(x:Int)by omega]
  have e1:ga k (2*x+1)=ai k (x:Int)% 16:=by unfold ga;rw[if_neg (by omega),show((2*x+1:Nat):Int) / 2=(x:Int)by omega]
  rw[e0,e1,List.append_assoc];rfl
 ·have h: ¬ (x:Int)<(k.length:Int):=of_decide_eq_false h;have e:x=k.length:=by omega
  exact cv (by rw[e];rfl)
theorem G3:ax z 55 (aM hG):=by
 refine cM (cn (n:=20) (fn:=az) Tryz.func55 (by kernel_rfl) (by kernel_rfl) ?_);intro args p a h hp;unfold hG at h;split at h
 ·cases h;exact⟨_,aaA _,rfl,rfl,G2 hp⟩
 ·cases h
theorem Dj:aQ z (λf=>ay f Lo):=.cons CK (aG _) (.cons G3 (aG _) fI)
theorem aaz (p:e_):Sx.Good z (Sz p):=.of bz Dj aU
theorem Kj (hp:p.length<1099511627776):av (dB (Sz p) 139 P [.str o p] (Jl p)):=by
 refine av.gV (ab0 p) (by delta Bk Fk;exact rfl) ?_;have none':aa (.aD [.str u [],.bool u o]) (.aD [.str u [],.bool u o]):=λ_=>rfl;refine⟨by omega,λa=>⟨λh=> ?_,λ_=>none'⟩,λa=>⟨by omega,λb=>⟨λh=> ?_,λ_=>none'⟩,λb=> ?_⟩⟩
 ·unfold kY at h;rw[a] at h;cases h
 ·have b:cY p=false:=by simpa using b
  unfold kY at h;rw[b,M] at h;cases h
 ·have b:cY p=true:=by simpa using b
  have hB:kY p=true:=by unfold kY;rw[a,b];rfl
  have a: ¬ (p.length:Int)% 2=1:=of_decide_eq_false a;rw[hB];refine⟨⟨0,Nat.zero_le _,rfl,rfl,trivial⟩,λx hx=>⟨by omega,λh=> ?_,λh=>⟨λ_=> ?_,λh=>by cases h⟩⟩⟩
  ·have h:(2:Int)*(x:Int)+1<(p.length:Int):=of_decide_eq_true h;refine⟨by omega,by omega,by omega,by rw[jV];omega,by omega,x+1,⟨by omega,by omega⟩,?_,by omega,trivial⟩;rw[lP];rfl
  ·have h: ¬ (2:Int)*(x:Int)+1<(p.length:Int):=of_decide_eq_false h;have e:x=p.length / 2:=by omega
   exact i5 (by rw[e];rfl)
theorem Nl:ax z 139 (bw BN):=by
 refine cn (n:=20) (fn:=P) Tryz.func139 (by kernel_rfl) (by kernel_rfl) ?_;intro args p a h hp;unfold BN at h;split at h
 ·cases h;exact⟨_,aaz _,rfl,λb=>by cases b<;>exact rfl,Kj hp⟩
 ·cases h
theorem Dk:aQ z (λf=>ay f Lp):=.cons Nl (aZ _) Dj
theorem aax:Sx.Good z Sw:=.of bz Dk aU
theorem ID {b:UInt8}(hb:b.toNat<=15)(h:cY p=u):cY (b::p)=true:=by
 unfold cY;rw[List.all_eq_true];intro j hj;rw[List.mem_range,C] at hj;unfold sJ;simp only[Bool.not_eq_true',decide_eq_false_iff_not];cases j with
 | zero =>have e:ai (b::p) ((0:Nat):Int)=(b.toNat:Int):=rfl;rw[e];omega
 | succ j =>rw[gX];have:=F3 h j (by omega);omega
theorem vi (h:cY p=u)(leaf:Bool){q:e_}(hq:q=D (eU leaf (w ((p.length:Int)% 2=1))).toNat::(bif w ((p.length:Int)% 2=1)then p else 0::p)):kY q=u/\sI q=bK p leaf:=by
 have hf:0<=eU leaf (w ((p.length:Int)% 2=1))/\eU leaf (w ((p.length:Int)% 2=1))<=3:=by cases leaf<;>cases w ((p.length:Int)% 2=1)<;>exact⟨by decide,by decide⟩
 have hb:(D (eU leaf (w ((p.length:Int)% 2=1))).toNat).toNat<=15:=by rw[UInt8.toNat_ofNat'];omega
 have hn:cY q=true:=by
  rw[hq];refine ID hb ?_;cases w ((p.length:Int)% 2=1)with
  | true=>exact h
  | false=>exact ID (by decide) h
 have hl: ¬ (q.length:Int)% 2=1:=by
  rw[hq];by_cases c:(p.length:Int)% 2=1
  ·rw[decide_eq_true c];simp only[cond_true,C];omega
  ·rw[decide_eq_false c];simp only[cond_false,C];omega
 refine⟨by unfold kY;rw[hn,decide_eq_false hl];rfl,?_⟩;rw[Df hn,hq];rfl
theorem Kk (leaf:Bool)(hp:p.length<1073741824):av (dB Sw 203 ag [.str o p,.bool o leaf] (IJ p leaf)):=by
 refine av.gV (ab1 p leaf) (by delta Bk Fk;exact rfl) ?_;cases hn:cY p with
 | false=>exact⟨by omega,λ_=>⟨(λh=>by cases h),λ_ _=>rfl⟩,λh=>by cases h⟩
 | true =>
   have kp:=λl=>vi hn l (q:=_) rfl;refine⟨by omega,(λh=>by cases h),λ_=>⟨by omega,λhl=>⟨by omega,λa=> ?_,λa=> ?_⟩,λhl=>⟨by omega,λa=> ?_,λa=> ?_⟩⟩⟩
   all_goals subst hl
   ·have a:(p.length:Int)% 2=0:=of_decide_eq_true a;obtain⟨k1,k2⟩:=vi hn u (q:=cat (cat [D (((↑p.length:Int)% (2:Int)% (256:Int)+(2:Int))% (256:Int)).toNat] [D 0]) p) (by rw[a,decide_eq_false (by omega)];rfl);rw[k1];refine⟨by omega,by omega,by simp only[cat,J,C,K];omega,λ_=>⟨λ_=>i5 k2,λh=>by cases h⟩,λh=>by cases h⟩
   ·have a: ¬ (p.length:Int)% 2=0:=of_decide_eq_false a;obtain⟨k1,k2⟩:=vi hn u (q:=cat [D (((↑p.length:Int)% (2:Int)% (256:Int)+(2:Int))% (256:Int)).toNat] p) (by rw[show(p.length:Int)% 2=1 by omega];rfl);rw[k1];refine⟨by omega,by simp only[cat,J,C,K];omega,λ_=>⟨λ_=>i5 k2,λh=>by cases h⟩,λh=>by cases h⟩
   ·have a:(p.length:Int)% 2=0:=of_decide_eq_true a;obtain⟨k1,k2⟩:=vi hn o (q:=cat (cat [D ((↑p.length:Int)% (2:Int)% (256:Int)).toNat] [D 0]) p) (by rw[a,decide_eq_false (by omega)];rfl);rw[k1];refine⟨by omega,by omega,by simp only[cat,J,C,K];omega,λ_=>⟨λ_=>i5 k2,λh=>by cases h⟩,λh=>by cases h⟩
   ·have a: ¬ (p.length:Int)% 2=0:=of_decide_eq_false a;obtain⟨k1,k2⟩:=vi hn o (q:=cat [D ((↑p.length:Int)% (2:Int)% (256:Int)).toNat] p) (by rw[show(p.length:Int)% 2=1 by omega];rfl);rw[k1];refine⟨by omega,by simp only[cat,J,C,K];omega,λ_=>⟨λ_=>i5 k2,λh=>by cases h⟩,λh=>by cases h⟩
theorem Nn:ax z 203 (bw l7):=by
 refine cn (n:=20) (fn:=ag) Tryz.func203 (by kernel_rfl) (by kernel_rfl) ?_;intro args p a h hp;unfold l7 at h;split at h
 ·cases h;exact⟨_,aax,rfl,λb=>by cases b<;>exact rfl,Kk _ hp⟩
 ·cases h
theorem Py:aQ z (λf=>ay f Uj):=.cons Nn (aZ _) Dk
theorem aay:Sx.Good z Sy:=.of bz Py aU
theorem Kh (hs:s.length<536870912):av (dB Sy 174 V [.str o s] (DP s)):=by
 refine av.gV (abZ s) (by delta Bk Fk;exact rfl) ?_;have e1: ∀ t,aB (ak s) (A (Operand.tmp t)) F 1 (↑(ak s).length:Int)=(ak s).drop 1:=λ_=>rfl;have e2: ∀ t,aB (ak s) (A (Operand.tmp t)) F 2 (↑(ak s).length:Int)=(ak s).drop 2:=λ_=>rfl;have n1:=xO s 1;have n2:=xO s 2;have d01:w ((0:Int)=(1:Int))=false:=rfl;have d11:w ((1:Int)=(1:Int))=true:=rfl;have hl:=fK s;have l1:((ak s).drop 1).length<1073741824:=by rw[aA];omega
 have l2:((ak s).drop 2).length<1073741824:=by rw[aA];omega
 have none':aa (.aD [.str u [],.bool u o,.bool u o]) (.aD [.str u [],.bool u o,.bool u o]):=λ_=>rfl
 have H: ∀ {n:Nat} {leaf:Bool},w (bK ((ak s).drop n) leaf=s)=u ->
   (bI s=u->aa (.aD [.str o ((ak s).drop n),.bool u leaf,.bool u u]) (.aD [.str o (bT s),.bool o (cD s),.bool u u])) /\
   (bI s=o->aa (.aD [.str o ((ak s).drop n),.bool u leaf,.bool u u]) (.aD [.str u [],.bool u o,.bool u o])):=λh=>by
  obtain⟨g1,g2,g3⟩:=UQ (of_decide_eq_true h);exact⟨λ_=>oh g3.symm g2.symm,λh'=>by rw[g1] at h';cases h'⟩
 have W:(∀ n leaf,n=1∨n=2->n<=(ak s).length->bK ((ak s).drop n) leaf≠s) ->
   (bI s=u->aa (.aD [.str u [],.bool u o,.bool u o]) (.aD [.str o (bT s),.bool o (cD s),.bool u u])) /\
   (bI s=o->aa (.aD [.str u [],.bool u o,.bool u o]) (.aD [.str u [],.bool u o,.bool u o])):=λh =>
  ⟨λh'=>(by rw[Qh h] at h';cases h'),λ_=>none'⟩
 simp only[e1,e2,n1,n2,d01,l1,l2,true_and,true_imp_iff,I,false_imp_iff,and_true];refine⟨by omega,λa=>have a:=of_decide_eq_true a;⟨by omega,λh=>⟨by omega,H h⟩,λh1=>⟨by omega,λh=>⟨by omega,H h⟩,λh2=>⟨λb=>have b:=of_decide_eq_true b;⟨by omega,λh=>⟨by omega,H h⟩,λh3=>⟨by omega,λh=>⟨by omega,H h⟩,λh4=>W ?_⟩⟩,λb=>W ?_⟩⟩⟩,λa=>W ?_⟩
 ·intro n leaf hn _;rcases hn with rfl | rfl<;>cases leaf
  ·exact of_decide_eq_false h1
  ·exact of_decide_eq_false h2
  ·exact of_decide_eq_false h3
  ·exact of_decide_eq_false h4
 ·have b:=of_decide_eq_false b;intro n leaf hn hle;rcases hn with rfl | rfl
  ·cases leaf
   ·exact of_decide_eq_false h1
   ·exact of_decide_eq_false h2
  ·omega
 ·have a:=of_decide_eq_false a;intro n leaf hn hle;omega
def wI:List SV->Option (Prop×cN)
 | [.str o s]=>A (s.length<536870912,DP s)
 | _=>F
theorem Xd:ax z 174 (bw wI):=by
 refine cn (n:=20) (fn:=V) Tryz.func174 (by kernel_rfl) (by kernel_rfl) ?_;intro args p a h hp;unfold wI at h;split at h
 ·cases h;exact⟨_,aay,rfl,λb=>by cases b<;>exact rfl,Kh hp⟩
 ·cases h
noncomputable def Lq:List (FuncId×PT):=(178,aM gL)::(203,bw l7)::(174,bw wI)::FL
theorem Dl:aQ z (λf=>ay f Lq):=.cons CK (aG _) (.cons Nn (aZ _) (.cons Xd (aZ _) xy))
noncomputable def SF:dK:={bE with cm:=λf=>ay f Lq}
theorem TM:Sx.Good z SF:=.of bz Dl aU
def bt (t:e_):e_:=bif bO t then af t else []
def x7:List SV->Option (Prop×SV)
 | [.str o t]=>A (t.length<9223372036854775808,.str o (bt t))
 | _=>F
noncomputable def FJ:List (FuncId×PT):=(142,bw ki)::(175,aM x7)::Lq
noncomputable def FK (L:Nat):List (FuncId×PT):=(141,bw (dZ L))::FJ
noncomputable def Zr (L:Nat):dK:={bE with cm:=λf=>ay f (FK L)}
def uf (L:Nat):List SV->Option (Prop×SV)
 | [.str o t]=>A (Rel L t,.bool o (fe bM t))
 | _=>F
noncomputable def Ul (L:Nat):List (FuncId×PT):=(205,aM (uf L))::FK L
noncomputable def Xl (x:Nd):aX :={α:=Nat,pre:=λ_ i=>i<=16,jx:=λ_ i=>16 - i,fresh:=0,slots:=λ_ i=>[(3,.int .i64 o (b8 x.r i)),(4,.int .i64 o i)],mem:=λ_ _=>[]}
noncomputable def aac (x:Nd):aX :={α:=Nat,pre:=λ_ i=>i<=16/\gJ bM x.r i=u,jx:=λ_ i=>16 - i,fresh:=0,slots:=λ_ i=>[(7,.int .i64 o i)],mem:=λ_ _=>[]}
noncomputable def Zt (L:Nat)(x:Nd):dK:={bE with cm:=λf=>ay f (Ul L),bh:=λf=>if f=180 then [(3,always (Xl x)),(17,always (aac x))] else []}
noncomputable def aag (x:Nd):aX :=
 {α:=Nat×Nat,pre:=λ_ g=>g.1<=16/\g.1<=g.2,jx:=λ_ g=>16 - g.1,fresh:=1,slots:=λst g=>[(6,.bx st.nx 1 u 0 g.1 g.2),(7,.int .i64 o g.1)],
  mem:=λst g=>[(st.nx,.rows u g.1 [.str (bX x.r 16)] o g.2 9)]}
noncomputable def SG (x:Nd):dK:={bE with cm:=λf=>ay f FJ,bh:=λf=>if f=181 then [(12,always (aag x))] else []}
noncomputable def Lr (L:Nat):List (FuncId×PT):=(180,aM (dM λx=>A (eO L x.r/\x.p.length<1152921504606846976,.bool o (aI x))))::(181,aM (dM λx=>A ((0<=x.k/\x.k<=3)/\x.jZ,.str o (cq x))))::FK L
noncomputable def Zs (L:Nat):dK:={bE with cm:=λf=>ay f (Lr L)}
noncomputable def Ls (L:Nat):List (FuncId×PT):=(146,bw (mU λx=>A (eO L x.r/\x.p.length<1152921504606846976,Qp x)))::Lr L
noncomputable def aaf (s:e_):aX :=
 {α:=Nat,pre:=λ_ i=>i<=16,jx:=λ_ i=>16 - i,fresh:=0,slots:=λ_ i=>[(14,.int .i64 o i)],
  mem:=λst i=>match slot st.tmps 4 with
   | some (.ptr k _ _)=>[(k,.cells (Oh (af s) i) 19 138)]
   | _=>[]}
noncomputable def SH (L:Nat)(s:e_):dK:={bE with cm:=λf=>ay f (Ls L),bh:=λf=>if f=135 then [(21,always (aaf s))] else []}
def Vn (s:e_):cN:=.fork (aJ s) λb=>match b with
 | true=>.ret (.aD [(getD s).sv,.bool u u])
 | false=>.ret (.aD [cK,.bool u o])
def xW (L:Nat):List SV->Option (Prop×cN)
 | [.str o s]=>A (s.length<=L/\s.length<9223372036854775808,Vn s)
 | _=>F
noncomputable def Lt (L:Nat):List (FuncId×PT):=(135,bw (xW L))::Ls L
noncomputable def Nq (L:Nat):dK:={bE with cm:=λf=>ay f (Lt L)}
noncomputable def Ks:dK:={bE with cm:=λf=>ay f ((135,λ_ _ _ _=>.fail "not to be called")::FJ)}
theorem YR (t:e_):VC.holds (dB SF 142 S [.str o t] (C' t))=(Bk (!decide ((↑t.length:Int)=(33:Int))) (Bk (bY t) (aa (SV.aD [SV.str u [],SV.bool u o]) (SV.aD [SV.str o (af t),SV.bool u u])) (aa (SV.aD [SV.str u [],SV.bool u o]) (SV.aD [SV.str u [],SV.bool u o]))) (((0:Int)<=(0:Int) /\(0:Int)<(↑t.length:Int)) /\Bk (!decide (ai t (0:Int)=(160:Int))) (Bk (bY t) (aa (SV.aD [SV.str u [],SV.bool u o]) (SV.aD [SV.str o (af t),SV.bool u u])) (aa (SV.aD [SV.str u [],SV.bool u o]) (SV.aD [SV.str u [],SV.bool u o]))) (((0:Int)<=(1:Int) /\(1:Int)<=(↑t.length:Int) /\(↑t.length:Int)<=(↑t.length:Int)) /\Bk (bY t) (aa (SV.aD [SV.str (o&&u&&o) (aB t (A (Operand.const (Value.int IntKind.i64 1))) F 1 (↑t.length:Int)),SV.bool u u]) (SV.aD [SV.str o (af t),SV.bool u u])) (aa (SV.aD [SV.str (o&&u&&o) (aB t (A (Operand.const (Value.int IntKind.i64 1))) F 1 (↑t.length:Int)),SV.bool u u]) (SV.aD [SV.str u [],SV.bool u o]))))):=by kernel_rfl
theorem YT (t:e_)(R:SV->Prop):VC.holds (cA SF 175 X [.str o t] R)=(t.length<(9223372036854775808:Nat) /\(bO t=u ->R (SV.str o (af t))) /\(bO t=o ->R (SV.str u []))):=by kernel_rfl
theorem Rl (L:Nat)(t:e_)(R:SV->Prop):VC.holds (cA (Zr L) 205 an [.str o t] R)=(t.length<(9223372036854775808:Nat) /\Bk (bY t) (Rel L t /\Bk (bM t) (R (SV.bool u u)) (R (SV.bool u u))) (Rel L t /\Bk (bM t) (R (SV.bool u u)) (R (SV.bool u o)))):=by kernel_rfl
theorem V6 (L:Nat)(x:Nd)(R:SV->Prop):VC.holds (cA (Zt L x) 180 Tryz.f180 [x.sv] R)=((∃(y:Nat),y<=(16:Nat) /\(0:Int)=b8 x.r y /\(0:Int)=(↑y:Int) /\ah (SB.cells x.sv.cells 19 138) (SB.cells x.sv.cells 19 138) /\True) /\∀(x_1:Nat),x_1<=(16:Nat) ->Fk ((↑x_1:Int)<(16:Int)) (((0:Int)<=(↑x_1:Int) /\(↑x_1:Int)<(16:Int)) /\(↑x_1:Int).toNat<(16:Nat) /\Bk (!decide (bZ (bG x.r []) (↑x_1:Int).toNat=[])) (((-9223372036854775808:Int)<=b8 x.r x_1+(1:Int) /\b8 x.r x_1+(1:Int)<=(9223372036854775807:Int)) /\((-9223372036854775808:Int)<=(↑x_1:Int)+(1:Int) /\(↑x_1:Int)+(1:Int)<=(9223372036854775807:Int)) /\∃(y:Nat),(y<=(16:Nat) /\(16:Nat) - y<(16:Nat) - x_1) /\b8 x.r x_1+(1:Int)=b8 x.r y /\(↑x_1:Int)+(1:Int)=(↑y:Int) /\ah (SB.cells x.sv.cells 19 138) (SB.cells x.sv.cells 19 138) /\True) (((-9223372036854775808:Int)<=(↑x_1:Int)+(1:Int) /\(↑x_1:Int)+(1:Int)<=(9223372036854775807:Int)) /\∃(y:Nat),(y<=(16:Nat) /\(16:Nat) - y<(16:Nat) - x_1) /\b8 x.r x_1=b8 x.r y /\(↑x_1:Int)+(1:Int)=(↑y:Int) /\ah (SB.cells x.sv.cells 19 138) (SB.cells x.sv.cells 19 138) /\True)) (Fk (x.k=(0:Int)) (R (SV.bool (o&&u&&(o&&u&&(o&&u&&(o&&u&&(o&&u&&(o&&u&&(o&&u&&(o&&u&&(o&&u&&(o&&u&&(o&&u&&(o&&u&&(o&&u&&(o&&u&&(o&&u&&(o&&u&&(o&&u&&(o&&u&&(o&&u&&u)))))))))))))))&&u)))) (w (x.k=(0:Int))&&(w (x.p=[])&&(w (x.v=[])&&(w (x.r (0:Nat)=[])&&(w (x.r (1:Nat)=[])&&(w (x.r (2:Nat)=[])&&(w (x.r (3:Nat)=[])&&(w (x.r (4:Nat)=[])&&(w (x.r (5:Nat)=[])&&(w (x.r (6:Nat)=[])&&(w (x.r (7:Nat)=[])&&(w (x.r (8:Nat)=[])&&(w (x.r (9:Nat)=[])&&(w (x.r (10:Nat)=[])&&(w (x.r (11:Nat)=[])&&(w (x.r (12:Nat)=[])&&(w (x.r (13:Nat)=[])&&(w (x.r (14:Nat)=[])&&(w (x.r (15:Nat)=[])&&u)))))))))))))))&&u)))))) (Fk (x.k=(1:Int)) (x.p.length<(1152921504606846976:Nat) /\Bk (cY x.p) (Fk ((↑x.p.length:Int)<=(12:Int)) (Fk ((1:Int)<=(↑x.v.length:Int)) (Fk ((↑x.v.length:Int)<=(80:Int)) (R (SV.bool (o&&u) (w (b8 x.r x_1=(0:Int))))) (R (SV.bool u o))) (R (SV.bool u o))) (R (SV.bool u o))) (R (SV.bool u o))) (Fk (x.k=(2:Int)) (Rel L (x.r 0) /\Bk (bM (x.r 0)) (x.p.length<(1152921504606846976:Nat) /\Bk (cY x.p) (Fk ((↑x.p.length:Int)<=(12:Int)) (Bk (!decide (x.p=[])) (Fk (x.v=[]) (Fk (b8 x.r x_1=(1:Int)) (Rel L (x.r 0) /\Bk (fe bM (x.r 0)) (R (SV.bool (o&&u) (w ((getD (x.r 0)).k=(3:Int))))) (R (SV.bool u o))) (R (SV.bool u o))) (R (SV.bool u o))) (R (SV.bool u o))) (R (SV.bool u o))) (R (SV.bool u o))) (x.p.length<(1152921504606846976:Nat) /\Bk (cY x.p) (Fk ((↑x.p.length:Int)<=(12:Int)) (Bk (!decide (x.p=[])) (Fk (x.v=[]) (Fk (b8 x.r x_1=(1:Int)) (Rel L (x.r 0) /\Bk (fe bM (x.r 0)) (R (SV.bool u u)) (R (SV.bool u o))) (R (SV.bool u o))) (R (SV.bool u o))) (R (SV.bool u o))) (R (SV.bool u o))) (R (SV.bool u o)))) (Fk (x.k=(3:Int)) ((∃(y:Nat),(y<=(16:Nat) /\gJ bM x.r y=u) /\(0:Int)=(↑y:Int) /\ah (SB.cells x.sv.cells 19 138) (SB.cells x.sv.cells 19 138) /\True) /\∀(x_8:Nat),x_8<=(16:Nat) /\gJ bM x.r x_8=u ->Fk ((↑x_8:Int)<(16:Int)) (((0:Int)<=(↑x_8:Int) /\(↑x_8:Int)<(16:Int)) /\(↑x_8:Int).toNat<(16:Nat) /\Bk (!decide (bZ (bG x.r []) (↑x_8:Int).toNat=[])) (((0:Int)<=(↑x_8:Int) /\(↑x_8:Int)<(16:Int)) /\(↑x_8:Int).toNat<(16:Nat) /\Rel L (bZ (bG x.r []) (↑x_8:Int).toNat) /\Bk (!fe bM (bZ (bG x.r []) (↑x_8:Int).toNat)) (R (SV.bool u o)) (((-9223372036854775808:Int)<=(↑x_8:Int)+(1:Int) /\(↑x_8:Int)+(1:Int)<=(9223372036854775807:Int)) /\∃(y:Nat),((y<=(16:Nat) /\gJ bM x.r y=u) /\(16:Nat) - y<(16:Nat) - x_8) /\(↑x_8:Int)+(1:Int)=(↑y:Int) /\ah (SB.cells x.sv.cells 19 138) (SB.cells x.sv.cells 19 138) /\True)) (((-9223372036854775808:Int)<=(↑x_8:Int)+(1:Int) /\(↑x_8:Int)+(1:Int)<=(9223372036854775807:Int)) /\∃(y:Nat),((y<=(16:Nat) /\gJ bM x.r y=u) /\(16:Nat) - y<(16:Nat) - x_8) /\(↑x_8:Int)+(1:Int)=(↑y:Int) /\ah (SB.cells x.sv.cells 19 138) (SB.cells x.sv.cells 19 138) /\True)) (Bk (!decide (x.v=[])) (((-9223372036854775808:Int)<=b8 x.r x_1+(1:Int) /\b8 x.r x_1+(1:Int)<=(9223372036854775807:Int)) /\Fk (x.p=[]) (Fk ((↑x.v.length:Int)<=(80:Int)) (R (SV.bool (o&&u) (w ((2:Int)<=b8 x.r x_1+(1:Int))))) (R (SV.bool u o))) (R (SV.bool u o))) (Fk (x.p=[]) (Fk ((↑x.v.length:Int)<=(80:Int)) (R (SV.bool (o&&u) (w ((2:Int)<=b8 x.r x_1)))) (R (SV.bool u o))) (R (SV.bool u o))))) (R (SV.bool u o))))))):=by kernel_rfl
theorem V5 (x:Nd)(R:SV->Prop):VC.holds (cA (SG x) 181 Z [x.sv] R)=(Fk (x.k=(1:Int)) (Fk (x.k=(1:Int)) (x.p.length<(1073741824:Nat) /\Bk (cY x.p) (Fk (x.k=(1:Int)) (x.v.length<(1152921504606846976:Nat) /\(bK x.p (w (x.k=(1:Int)))).length<(1152921504606846976:Nat) /\(True /\gz [aq (bK x.p (w (x.k=(1:Int)))),aq x.v]) /\R (SV.str o (aN 192 (flat [aq (bK x.p (w (x.k=(1:Int)))),aq x.v]).length++flat [aq (bK x.p (w (x.k=(1:Int)))),aq x.v]))) ((bK x.p (w (x.k=(1:Int)))).length<(1152921504606846976:Nat) /\(True /\gz [aq (bK x.p (w (x.k=(1:Int)))),x.r 0]) /\R (SV.str o (aN 192 (flat [aq (bK x.p (w (x.k=(1:Int)))),x.r 0]).length++flat [aq (bK x.p (w (x.k=(1:Int)))),x.r 0])))) (Fk (x.k=(1:Int)) (x.v.length<(1152921504606846976:Nat) /\(0:Nat)<(1152921504606846976:Nat) /\(True /\gz [aq [],aq x.v]) /\R (SV.str o (aN 192 (flat [aq [],aq x.v]).length++flat [aq [],aq x.v]))) ((0:Nat)<(1152921504606846976:Nat) /\(True /\gz [aq [],x.r 0]) /\R (SV.str o (aN 192 (flat [aq [],x.r 0]).length++flat [aq [],x.r 0]))))) (Fk (x.k=(3:Int)) ((∃(y:Nat×Nat),(y.1<=(16:Nat) /\y.1<=y.2) /\y.1=(0:Nat) /\(0:Int)=(↑y.1:Int) /\(SB.rows u y.1 [aE.str (bX x.r 16)] o y.2 9).no=u /\ah (SB.cells x.sv.cells 19 138) (SB.cells x.sv.cells 19 138) /\True) /\∀(x_4:Nat×Nat),x_4.1<=(16:Nat) /\x_4.1<=x_4.2 ->Fk ((↑x_4.1:Int)<(16:Int)) (((0:Int)<=(↑x_4.1:Int) /\(↑x_4.1:Int)<(16:Int)) /\(↑x_4.1:Int).toNat<(16:Nat) /\Fk (bZ (bG x.r []) (↑x_4.1:Int).toNat=[]) ((0:Nat)<(1152921504606846976:Nat) /\((0:Nat)+x_4.1<=x_4.1 /\True /\(2:Nat)*(x_4.1+(1:Nat))*(16:Nat)<=(281474976710656:Nat) /\x_4.1+(1:Nat)<(9223372036854775808:Nat)) /\x_4.2=x_4.2*(1:Nat) /\∀(c:Nat),x_4.1+(1:Nat)<=c ->((-9223372036854775808:Int)<=(↑x_4.1:Int)+(1:Int) /\(↑x_4.1:Int)+(1:Int)<=(9223372036854775807:Int)) /\∃(y:Nat×Nat),((y.1<=(16:Nat) /\y.1<=y.2) /\(16:Nat) - y.1<(16:Nat) - x_4.1) /\((0:Nat)=(0:Nat) /\x_4.1+(1:Nat)=y.1 /\c=y.2) /\True /\(↑x_4.1:Int)+(1:Int)=(↑y.1:Int) /\ah (SB.rows u (x_4.1+(1:Nat)) [aE.str fun(j:Nat)=>if j<x_4.1 then bX x.r 16 j else bZ [aq []] (j - x_4.1)] o (c*(1:Nat)) 9) (SB.rows u y.1 [aE.str (bX x.r 16)] o y.2 9) /\ah (SB.cells x.sv.cells 19 138) (SB.cells x.sv.cells 19 138) /\True) (((0:Nat)+x_4.1<=x_4.1 /\True /\(2:Nat)*(x_4.1+(1:Nat))*(16:Nat)<=(281474976710656:Nat) /\x_4.1+(1:Nat)<(9223372036854775808:Nat)) /\x_4.2=x_4.2*(1:Nat) /\∀(c:Nat),x_4.1+(1:Nat)<=c ->((-9223372036854775808:Int)<=(↑x_4.1:Int)+(1:Int) /\(↑x_4.1:Int)+(1:Int)<=(9223372036854775807:Int)) /\∃(y:Nat×Nat),((y.1<=(16:Nat) /\y.1<=y.2) /\(16:Nat) - y.1<(16:Nat) - x_4.1) /\((0:Nat)=(0:Nat) /\x_4.1+(1:Nat)=y.1 /\c=y.2) /\True /\(↑x_4.1:Int)+(1:Int)=(↑y.1:Int) /\ah (SB.rows u (x_4.1+(1:Nat)) [aE.str fun(j:Nat)=>if j<x_4.1 then bX x.r 16 j else bZ [bZ (bG x.r []) (↑x_4.1:Int).toNat] (j - x_4.1)] o (c*(1:Nat)) 9) (SB.rows u y.1 [aE.str (bX x.r 16)] o y.2 9) /\ah (SB.cells x.sv.cells 19 138) (SB.cells x.sv.cells 19 138) /\True)) (x.v.length<(1152921504606846976:Nat) /\((0:Nat)+x_4.1<=x_4.1 /\True /\(2:Nat)*(x_4.1+(1:Nat))*(16:Nat)<=(281474976710656:Nat) /\x_4.1+(1:Nat)<(9223372036854775808:Nat)) /\x_4.2=x_4.2*(1:Nat) /\∀(c:Nat),x_4.1+(1:Nat)<=c ->((u=u /\(0:Nat)+(x_4.1+(1:Nat))<=x_4.1+(1:Nat)) /\gz (bW (fun(j:Nat)=>if j<x_4.1 then bX x.r 16 j else bZ [aq x.v] (j - x_4.1)) 0 (x_4.1+(1:Nat)))) /\R (SV.str o (aN 192 (flat (bW (fun(j:Nat)=>if j<x_4.1 then bX x.r 16 j else bZ [aq x.v] (j - x_4.1)) 0 (x_4.1+(1:Nat)))).length++flat (bW (fun(j:Nat)=>if j<x_4.1 then bX x.r 16 j else bZ [aq x.v] (j - x_4.1)) 0 (x_4.1+(1:Nat))))))) ((0:Nat)<(1152921504606846976:Nat) /\R (SV.str o (aq []))))) (Fk (x.k=(2:Int)) (x.p.length<(1073741824:Nat) /\Bk (cY x.p) (Fk (x.k=(1:Int)) (x.v.length<(1152921504606846976:Nat) /\(bK x.p (w (x.k=(1:Int)))).length<(1152921504606846976:Nat) /\(True /\gz [aq (bK x.p (w (x.k=(1:Int)))),aq x.v]) /\R (SV.str o (aN 192 (flat [aq (bK x.p (w (x.k=(1:Int)))),aq x.v]).length++flat [aq (bK x.p (w (x.k=(1:Int)))),aq x.v]))) ((bK x.p (w (x.k=(1:Int)))).length<(1152921504606846976:Nat) /\(True /\gz [aq (bK x.p (w (x.k=(1:Int)))),x.r 0]) /\R (SV.str o (aN 192 (flat [aq (bK x.p (w (x.k=(1:Int)))),x.r 0]).length++flat [aq (bK x.p (w (x.k=(1:Int)))),x.r 0])))) (Fk (x.k=(1:Int)) (x.v.length<(1152921504606846976:Nat) /\(0:Nat)<(1152921504606846976:Nat) /\(True /\gz [aq [],aq x.v]) /\R (SV.str o (aN 192 (flat [aq [],aq x.v]).length++flat [aq [],aq x.v]))) ((0:Nat)<(1152921504606846976:Nat) /\(True /\gz [aq [],x.r 0]) /\R (SV.str o (aN 192 (flat [aq [],x.r 0]).length++flat [aq [],x.r 0]))))) (Fk (x.k=(3:Int)) ((∃(y:Nat×Nat),(y.1<=(16:Nat) /\y.1<=y.2) /\y.1=(0:Nat) /\(0:Int)=(↑y.1:Int) /\(SB.rows u y.1 [aE.str (bX x.r 16)] o y.2 9).no=u /\ah (SB.cells x.sv.cells 19 138) (SB.cells x.sv.cells 19 138) /\True) /\∀(x_4:Nat×Nat),x_4.1<=(16:Nat) /\x_4.1<=x_4.2 ->Fk ((↑x_4.1:Int)<(16:Int)) (((0:Int)<=(↑x_4.1:Int) /\(↑x_4.1:Int)<(16:Int)) /\(↑x_4.1:Int).toNat<(16:Nat) /\Fk (bZ (bG x.r []) (↑x_4.1:Int).toNat=[]) ((0:Nat)<(1152921504606846976:Nat) /\((0:Nat)+x_4.1<=x_4.1 /\True /\(2:Nat)*(x_4.1+(1:Nat))*(16:Nat)<=(281474976710656:Nat) /\x_4.1+(1:Nat)<(9223372036854775808:Nat)) /\x_4.2=x_4.2*(1:Nat) /\∀(c:Nat),x_4.1+(1:Nat)<=c ->((-9223372036854775808:Int)<=(↑x_4.1:Int)+(1:Int) /\(↑x_4.1:Int)+(1:Int)<=(9223372036854775807:Int)) /\∃(y:Nat×Nat),((y.1<=(16:Nat) /\y.1<=y.2) /\(16:Nat) - y.1<(16:Nat) - x_4.1) /\((0:Nat)=(0:Nat) /\x_4.1+(1:Nat)=y.1 /\c=y.2) /\True /\(↑x_4.1:Int)+(1:Int)=(↑y.1:Int) /\ah (SB.rows u (x_4.1+(1:Nat)) [aE.str fun(j:Nat)=>if j<x_4.1 then bX x.r 16 j else bZ [aq []] (j - x_4.1)] o (c*(1:Nat)) 9) (SB.rows u y.1 [aE.str (bX x.r 16)] o y.2 9) /\ah (SB.cells x.sv.cells 19 138) (SB.cells x.sv.cells 19 138) /\True) (((0:Nat)+x_4.1<=x_4.1 /\True /\(2:Nat)*(x_4.1+(1:Nat))*(16:Nat)<=(281474976710656:Nat) /\x_4.1+(1:Nat)<(9223372036854775808:Nat)) /\x_4.2=x_4.2*(1:Nat) /\∀(c:Nat),x_4.1+(1:Nat)<=c ->((-9223372036854775808:Int)<=(↑x_4.1:Int)+(1:Int) /\(↑x_4.1:Int)+(1:Int)<=(9223372036854775807:Int)) /\∃(y:Nat×Nat),((y.1<=(16:Nat) /\y.1<=y.2) /\(16:Nat) - y.1<(16:Nat) - x_4.1) /\((0:Nat)=(0:Nat) /\x_4.1+(1:Nat)=y.1 /\c=y.2) /\True /\(↑x_4.1:Int)+(1:Int)=(↑y.1:Int) /\ah (SB.rows u (x_4.1+(1:Nat)) [aE.str fun(j:Nat)=>if j<x_4.1 then bX x.r 16 j else bZ [bZ (bG x.r []) (↑x_4.1:Int).toNat] (j - x_4.1)] o (c*(1:Nat)) 9) (SB.rows u y.1 [aE.str (bX x.r 16)] o y.2 9) /\ah (SB.cells x.sv.cells 19 138) (SB.cells x.sv.cells 19 138) /\True)) (x.v.length<(1152921504606846976:Nat) /\((0:Nat)+x_4.1<=x_4.1 /\True /\(2:Nat)*(x_4.1+(1:Nat))*(16:Nat)<=(281474976710656:Nat) /\x_4.1+(1:Nat)<(9223372036854775808:Nat)) /\x_4.2=x_4.2*(1:Nat) /\∀(c:Nat),x_4.1+(1:Nat)<=c ->((u=u /\(0:Nat)+(x_4.1+(1:Nat))<=x_4.1+(1:Nat)) /\gz (bW (fun(j:Nat)=>if j<x_4.1 then bX x.r 16 j else bZ [aq x.v] (j - x_4.1)) 0 (x_4.1+(1:Nat)))) /\R (SV.str o (aN 192 (flat (bW (fun(j:Nat)=>if j<x_4.1 then bX x.r 16 j else bZ [aq x.v] (j - x_4.1)) 0 (x_4.1+(1:Nat)))).length++flat (bW (fun(j:Nat)=>if j<x_4.1 then bX x.r 16 j else bZ [aq x.v] (j - x_4.1)) 0 (x_4.1+(1:Nat))))))) ((0:Nat)<(1152921504606846976:Nat) /\R (SV.str o (aq [])))))):=by kernel_rfl
theorem ab3 (L:Nat)(x:Nd):VC.holds (dB (Zs L) 146 T [x.sv] (Qp x))=(((eO L fun(i:Nat)=>(bG x.r []).getD i []) /\x.p.length<(1152921504606846976:Nat)) /\((!aI {k:=x.k,p:=x.p,v:=x.v,r:=fun(i:Nat)=>(bG x.r []).getD i []:Nd})=u ->(aI x=u ->aa (SV.aD [SV.str u [],SV.int .i64 u 1]) (SV.aD [SV.str o (cq x),SV.int .i64 u 0])) /\(aI x=o ->aa (SV.aD [SV.str u [],SV.int .i64 u 1]) (SV.aD [SV.str u [],SV.int .i64 u 1]))) /\((!aI {k:=x.k,p:=x.p,v:=x.v,r:=fun(i:Nat)=>(bG x.r []).getD i []:Nd})=o ->(((0:Int)<=x.k /\x.k<=(3:Int)) /\{k:=x.k,p:=x.p,v:=x.v,r:=fun(i:Nat)=>(bG x.r []).getD i []:Nd}.jZ) /\(aI x=u ->aa (SV.aD [SV.str o (cq {k:=x.k,p:=x.p,v:=x.v,r:=fun(i:Nat)=>(bG x.r []).getD i []:Nd}),SV.int .i64 u 0]) (SV.aD [SV.str o (cq x),SV.int .i64 u 0])) /\(aI x=o ->aa (SV.aD [SV.str o (cq {k:=x.k,p:=x.p,v:=x.v,r:=fun(i:Nat)=>(bG x.r []).getD i []:Nd}),SV.int .i64 u 0]) (SV.aD [SV.str u [],SV.int .i64 u 1])))):=by kernel_rfl
theorem Rk (L:Nat)(t:e_):VC.holds (dB (Nq L) 141 Q [.str o t] (TX t))=((λQ0:SV=>(Fk ((32:Int)<=(↑t.length:Int)) (Bk (bM t) (aa Q0 (SV.aD [(getD t).sv,SV.bool u u])) (aa Q0 (SV.aD [cK,SV.bool u o]))) ((t.length<=L /\t.length<(9223372036854775808:Nat)) /\Bk (aJ t) (Fk ((getD t).k=(0:Int)) (Bk (bM t) (aa Q0 (SV.aD [(getD t).sv,SV.bool u u])) (aa Q0 (SV.aD [cK,SV.bool u o]))) (Bk (bM t) (aa (SV.aD [SV.agg ((SV.int .i64 o (getD t).k)::(SV.str o (getD t).p)::(SV.str o (getD t).v)::bG (λi=>SV.str o ((getD t).r i)) []),SV.bool u u]) (SV.aD [(getD t).sv,SV.bool u u])) (aa (SV.aD [SV.agg ((SV.int .i64 o (getD t).k)::(SV.str o (getD t).p)::(SV.str o (getD t).v)::bG (λi=>SV.str o ((getD t).r i)) []),SV.bool u u]) (SV.aD [cK,SV.bool u o])))) (Bk (bM t) (aa Q0 (SV.aD [(getD t).sv,SV.bool u u])) (aa Q0 (SV.aD [cK,SV.bool u o])))))) (SV.aD [SV.agg (SV.int .i64 u 0::SV.str u []::SV.str u []::wD),SV.bool u o])):=by kernel_rfl
theorem M4 (t:e_):VC.holds (dB Ks 141 Q [.str o t] (TX t))=(Fk ((32:Int)<=(↑t.length:Int)) (Bk (bM t) (aa (SV.aD [SV.agg (SV.int .i64 u 0::SV.str u []::SV.str u []::wD),SV.bool u o]) (SV.aD [(getD t).sv,SV.bool u u])) (aa (SV.aD [SV.agg (SV.int .i64 u 0::SV.str u []::SV.str u []::wD),SV.bool u o]) (SV.aD [cK,SV.bool u o]))) False):=by kernel_rfl
theorem ab2 (L:Nat)(s:e_):VC.holds (dB (Nq L) 89 Tryz.f89 [.str o s] (HG s))=((s.length<=L /\s.length<(9223372036854775808:Nat)) /\Bk (aJ s) (Bk (aJ s) (aa (SV.aD [SV.agg ((SV.int .i64 o (getD s).k)::(SV.str o (getD s).p)::(SV.str o (getD s).v)::bG (λi=>SV.str o ((getD s).r i)) []),SV.int .i64 u 0]) (SV.aD [(getD s).sv,SV.int .i64 u 0])) (aa (SV.aD [SV.agg ((SV.int .i64 o (getD s).k)::(SV.str o (getD s).p)::(SV.str o (getD s).v)::bG (λi=>SV.str o ((getD s).r i)) []),SV.int .i64 u 0]) (SV.aD [cK,SV.int .i64 u 2]))) (Bk (aJ s) (aa (SV.aD [SV.agg (SV.int .i64 u 0::SV.str u []::SV.str u []::wD),SV.int .i64 u 2]) (SV.aD [(getD s).sv,SV.int .i64 u 0])) (aa (SV.aD [SV.agg (SV.int .i64 u 0::SV.str u []::SV.str u []::wD),SV.int .i64 u 2]) (SV.aD [cK,SV.int .i64 u 2])))):=by kernel_rfl
theorem OG (hk:x.k=1):aI x=(cY x.p&&(w ((x.p.length:Int)<=12)&&(w (1<=(x.v.length:Int))&&(w ((x.v.length:Int)<=80)&&w (b8 x.r 16=0))))):=by
 unfold aI fW;rw[hk,if_neg (by decide),if_pos rfl,HF];unfold kW gO;have h0:w ((0:Int)<=(x.p.length:Int))=true:=decide_eq_true (by omega);have h1:(!decide (x.v=[]))=w (1<=(x.v.length:Int)):=by
  cases hv:x.v with
  | nil=>rfl
  | cons b r =>rw[decide_eq_false (by simp),decide_eq_true (by simp only[C];omega)];rfl
 rw[h0,h1,O];cases cY x.p<;>cases w ((x.p.length:Int)<=12)<;>rfl
theorem abx {t:e_}(h:fe bM t=u):t≠[]:=λe=>by subst e;revert h;decide
theorem US {t:e_}(h:bY t=u):bM t=false:=by rw[Bool.eq_false_iff];intro h';have:=qu h;have:=mN h';omega
theorem YM (hk:x.k=2):aI x=(cY x.p&&(w ((x.p.length:Int)<=12)&&(!decide (x.p=[])&&(w (x.v=[])&&(w (b8 x.r 16=1)&&(fe bM (x.r 0)&&(!bM (x.r 0)||decide ((getD (x.r 0)).k=3)))))))):=by
 unfold aI fW;rw[hk,if_neg (by decide),if_neg (by decide),if_pos rfl];unfold nI gO;have h1:w ((1:Int)<=(x.p.length:Int))= !decide (x.p=[]):=by
  cases hv:x.p with
  | nil=>rfl
  | cons b r =>rw[decide_eq_false (p:=(b::r)=[]) (by simp),decide_eq_true (by simp only[C];omega)];rfl
 have h2:(bY (x.r 0)||(bM (x.r 0)&&w ((getD (x.r 0)).k=3)))=(fe bM (x.r 0)&&(!bM (x.r 0)||decide ((getD (x.r 0)).k=3))):=by
  unfold fe;cases hh:bY (x.r 0)with
  | true=>rw[US hh];rfl
  | false=>cases bM (x.r 0)<;>rfl
 have h3:(w (cr x.r 16=1)&&(fe bM (x.r 0)&&(!bM (x.r 0)||decide ((getD (x.r 0)).k=3))))=(w (b8 x.r 16=1)&&(fe bM (x.r 0)&&(!bM (x.r 0)||decide ((getD (x.r 0)).k=3)))):=by
  cases hm:fe bM (x.r 0)with
  | false=>rw[Bool.false_and,M,M]
  | true=>rw[TD (abx hm)]
 rw[h1,h2,h3];cases cY x.p<;>cases w ((x.p.length:Int)<=12)<;>cases w (x.p=[])<;>rfl
theorem OH (hk:x.k=3):aI x=(gJ bM x.r 16&&(w (x.p=[])&&(w ((x.v.length:Int)<=80)&&w (2<=(bif w (x.v=[])then 0 else 1)+b8 x.r 16)))):=by
 unfold aI fW;rw[hk,if_neg (by decide),if_neg (by decide),if_neg (by decide),if_pos rfl];unfold dO;have h1:min (x.v.length:Int) 1=bif w (x.v=[])then 0 else 1:=by
  cases hv:x.v with
  | nil=>rfl
  | cons b r =>rw[decide_eq_false (p:=(b::r)=[]) (by simp)];simp only[C,cond_false];omega
 rw[h1];cases gJ bM x.r 16<;>cases w (x.p=[])<;>cases w ((x.v.length:Int)<=80)<;>rfl
theorem OF (hk:x.k=0):aI x=lZ x:=by unfold aI fW;rw[hk,if_pos rfl]
theorem VZ (h0: ¬ x.k=0)(h1: ¬ x.k=1)(h2: ¬ x.k=2)(h3: ¬ x.k=3):aI x=false:=by unfold aI fW;rw[if_neg h0,if_neg h1,if_neg h2,if_neg h3]
theorem YN (h:aI x=u):0<=x.k/\x.k<=3:=by rcases kL h with ⟨h,_⟩ | ⟨h,_⟩ | ⟨h,_⟩ | ⟨h,_⟩<;>omega
theorem TI (hv:aI x=u)(hp:cq x=s):aJ s=u/\(getD s).zW x:=by
 have:=gY hv
 rwa [hp] at this
theorem XB (h:aJ s=u):s.length<=700:=by
 obtain⟨_,h1,h2⟩:=rM h;have:=(Yh h1).2
 rwa [h2] at this
theorem Hp:ax z 142 (bw ki):=by
 refine cn (n:=20) (fn:=S) Tryz.func142 (by kernel_rfl) (by kernel_rfl) ?_;intro args p a h hp;unfold ki at h;split at h
 ·rename_i t;cases h;refine⟨_,TM,rfl,λb=>by cases b<;>exact rfl,av.gV (YR t) (by delta Bk;exact rfl) ?_⟩
  have no:aa (.aD [.str u [],.bool u o]) (.aD [.str u [],.bool u o]):=λ_=>rfl;refine⟨λa=>⟨λh=> ?_,λ_=>no⟩,λa=> ?_⟩
  ·have a: ¬ (t.length:Int)=33:=by simpa using a
   have:=(K3.1 h).1;omega
  ·have a:(t.length:Int)=33:=by simpa using a
   refine⟨by omega,λb=>⟨λh=> ?_,λ_=>no⟩,λb=>⟨by omega,λ_=> ?_,λh=> ?_⟩⟩
   ·have b: ¬ ai t 0=160:=by simpa using b
    exact absurd (K3.1 h).2 b
   ·have b:ai t 0=160:=by simpa using b
    have e:=XM (by omega) b;exact i5 e.symm
   ·have b:ai t 0=160:=by simpa using b
    rw[K3.2 ⟨by omega,b⟩] at h;cases h
 ·cases h
theorem Tm:ax z 175 (aM x7):=by
 refine dL TM (n:=20) (fn:=X) Tryz.func175 (by kernel_rfl) (by kernel_rfl) ?_;intro args p r h hp;unfold x7 at h;split at h
 ·rename_i t;cases h;refine⟨rfl,rfl,av.of_eq (YT t _) ⟨hp,λa=>cv ?_,λa=>cv ?_⟩⟩
  ·rw[bt,a];rfl
  ·rw[bt,a];rfl
 ·cases h
theorem xu:aQ z (λf=>ay f FJ):=.cons Hp (aZ _) (.cons Tm (aG _) Dl)
theorem abO {L:Nat}(h:eO L x.r):eO L (fun(i:Nat)=>[x.r 0,x.r 1,x.r 2,x.r 3,x.r 4,x.r 5,x.r 6,x.r 7,x.r 8,x.r 9,x.r 10,x.r 11,x.r 12,x.r 13,x.r 14,x.r 15].getD i []):=λj hj=>by show Rel _ ([x.r 0,x.r 1,x.r 2,x.r 3,x.r 4,x.r 5,x.r 6,x.r 7,x.r 8,x.r 9,x.r 10,x.r 11,x.r 12,x.r 13,x.r 14,x.r 15].getD j []);rw[eE x.r j hj];exact h j hj
theorem EU (hk:0<=x.k/\x.k<=3)(hx:x.jZ):av (cA (SG x) 181 Z [x.sv] (λv=>aa v (.str o (cq x)))):=by
 refine av.gV (V5 x _) (by delta Bk Fk;exact rfl) ?_;have h1:=hx.p;have h2:=hx.v;have h0:=hx.r 0 (by decide);have jq: ∀ {a b:e_},a.length<=3000->b.length<=3000->gz [a,b]:=λ{a b} ha hb=>⟨by rw[lU];omega,by show 2<1152921504606846976;decide⟩
 have tl:=ie x.v;have pl:=λleaf=>ie (cJ x leaf);have pq:=λleaf=>l9 (x:=x) (leaf:=leaf);have pl1:=pl u;have pl2:=pl o;have pq1:=pq u;have pq2:=pq o;rcases Lg hk with e | e | e | e
 ·have k1:w (x.k=1)=false:=by rw[e];rfl
  have k2:w (x.k=2)=false:=by rw[e];rfl
  have k3:w (x.k=3)=false:=by rw[e];rfl
  simp only[k1,k2,k3,G,false_imp_iff,true_imp_iff,eq_self];exact⟨trivial,trivial,trivial,by omega,cv (by rw[cq,if_pos e];rfl)⟩
 ·have k1:w (x.k=1)=true:=by rw[e];rfl
  have k2:w (x.k=2)=false:=by rw[e];rfl
  have k3:w (x.k=3)=false:=by rw[e];rfl
  simp only[k1,k2,k3,I,G,false_imp_iff,true_imp_iff,eq_self];refine⟨⟨⟨by omega,λa=>⟨?_,trivial⟩,λa=>⟨?_,trivial⟩⟩,trivial⟩,trivial⟩
  ·have ep:bK x.p u=cJ x true:=by rw[cJ,a];rfl
   rw[ep];exact⟨by omega,by omega,⟨trivial,jq (by omega) (by omega)⟩,cv (by rw[cq,if_neg (by omega),if_pos e];rfl)⟩
  ·have ep:[]=cJ x true:=by rw[cJ,a];rfl
   rw[ep];exact⟨by omega,by omega,⟨trivial,jq (by omega) (by omega)⟩,cv (by rw[cq,if_neg (by omega),if_pos e];rfl)⟩
 ·have k1:w (x.k=1)=false:=by rw[e];rfl
  have k2:w (x.k=2)=true:=by rw[e];rfl
  have k3:w (x.k=3)=false:=by rw[e];rfl
  simp only[k1,k2,k3,I,G,false_imp_iff,true_imp_iff,eq_self];refine⟨trivial,⟨by omega,λa=>⟨trivial,?_⟩,λa=>⟨trivial,?_⟩⟩,trivial⟩
  ·have ep:bK x.p o=cJ x false:=by rw[cJ,a];rfl
   rw[ep];exact⟨by omega,⟨trivial,jq (by omega) (by omega)⟩,cv (by rw[cq,if_neg (by omega),if_neg (by omega),if_pos e];rfl)⟩
  ·have ep:[]=cJ x false:=by rw[cJ,a];rfl
   rw[ep];exact⟨by omega,⟨trivial,jq (by omega) (by omega)⟩,cv (by rw[cq,if_neg (by omega),if_neg (by omega),if_pos e];rfl)⟩
 ·have k1:w (x.k=1)=false:=by rw[e];rfl
  have k2:w (x.k=2)=false:=by rw[e];rfl
  have k3:w (x.k=3)=true:=by rw[e];rfl
  simp only[k1,k2,k3,I,G,false_imp_iff,true_imp_iff,eq_self];refine⟨trivial,trivial,⟨⟨(0,0),⟨by omega,by omega⟩,rfl,rfl,rfl,ah.refl _,trivial⟩,λg hg=>⟨λa=> ?_,λa=> ?_⟩⟩,trivial⟩
  ·have a:=of_decide_eq_true a;have hi:g.1<16:=by omega
   rw[N,n9 x.r hi]
   refine⟨by omega,by omega,λb=>⟨by omega,⟨by omega,trivial,by omega,by omega⟩,by omega,λc hc=>⟨by omega,(g.1+1,c),⟨⟨by show g.1+1<=16;omega,hc⟩,by show 16 - (g.1+1)<_;omega⟩,⟨trivial,rfl,rfl⟩,trivial,by show(g.1:Int)+1=((g.1+1:Nat):Int);omega,Sx.ah.iJ rfl (Nat.mul_one c) λj hj=> ?_,ah.refl _,trivial⟩⟩,
    λb=>⟨⟨by omega,trivial,by omega,by omega⟩,by omega,λc hc=>⟨by omega,(g.1+1,c),⟨⟨by show g.1+1<=16;omega,hc⟩,by show 16 - (g.1+1)<_;omega⟩,⟨trivial,rfl,rfl⟩,trivial,by show(g.1:Int)+1=((g.1+1:Nat):Int);omega,Sx.ah.iJ rfl (Nat.mul_one c) λj hj=> ?_,ah.refl _,trivial⟩⟩⟩
   ·have b:=of_decide_eq_true b;by_cases h:j<g.1
    ·rw[if_pos h]
    ·have ej:j=g.1:=by omega
     subst ej;rw[if_neg h,Nat.sub_self,bX,if_pos hi,if_pos b];rfl
   ·have b:=of_decide_eq_false b;by_cases h:j<g.1
    ·rw[if_pos h]
    ·have ej:j=g.1:=by omega
     subst ej;rw[if_neg h,Nat.sub_self,bX,if_pos hi,if_neg b];rfl
  ·have a:=of_decide_eq_false a;have hg1:=hg.1;have eg:g.1=16:=by omega
   rw[eg];have er:bW (fun(j:Nat)=>if j<16 then bX x.r 16 j else bZ [aq x.v] (j - 16)) 0 (16+1)=Cd x:=rfl
   rw[er];have bl:(flat (Cd x)).length<=(Cd x).length*2000:=Fc λy hy=>by
    rcases Np hy with ⟨j,hj,e⟩ | e
    ·have:=Sl hx 16 j hj;rw[e];omega
    ·rw[e];omega
   have bn:(Cd x).length=17:=rfl;exact⟨by omega,⟨by omega,trivial,by omega,by omega⟩,by omega,λc hc=>⟨⟨⟨trivial,by omega⟩,by omega,by omega⟩,cv (by rw[cq,if_neg (by omega),if_neg (by omega),if_neg (by omega)];rfl)⟩⟩
theorem O3:ax z 181 (aM (dM λx=>A ((0<=x.k/\x.k<=3)/\x.jZ,.str o (cq x)))):=by refine yO Tryz.func181 (by kernel_rfl) (by kernel_rfl) λx p v h hp=> ?_;cases h;exact⟨SG x,[x.sv],.of bz xu aU,λE=>rfl,rfl,rfl,EU hp.1 hp.2⟩
section
variable {L : Nat} (hI : ax z 141 (bw (dZ L)))
include hI
theorem xw:aQ z (λf=>ay f (FK L)):=.cons hI (aZ _) xu
theorem KF:ax z 205 (aM (uf L)):=by
 refine dL (.of bz (xw hI) aU) (cfg:=Zr L) (n:=20) (fn:=an) Tryz.func205 (by kernel_rfl) (by kernel_rfl) ?_;intro args p r h hp;unfold uf at h;split at h
 ·rename_i t;cases h;have hp:Rel L t:=hp;refine⟨rfl,rfl,av.of_eq (Rl L t _) ⟨hp.2,λa=>⟨hp,λb=>bp ?_,λb=>bp ?_⟩,λa=>⟨hp,λb=>bp ?_,λb=>bp ?_⟩⟩⟩
  ·rw[fe,a];rfl
  ·rw[fe,a];rfl
  ·rw[fe,a,b];rfl
  ·rw[fe,a,b];rfl
 ·cases h
theorem PA:aQ z (λf=>ay f (Ul L)):=.cons (KF hI) (aG _) (xw hI)
theorem O7:ax z 180 (aM (dM λx=>A (eO L x.r/\x.p.length<1152921504606846976,.bool o (aI x)))):=by
 refine yO Tryz.func180 (by kernel_rfl) (by kernel_rfl) λx p v h hp=> ?_;cases h;have hp:eO L x.r/\x.p.length<1152921504606846976:=hp;refine⟨Zt L x,[x.sv],.of bz (PA hI) aU,λE=>rfl,rfl,rfl,av.gV (V6 L x _) (by delta Bk Fk;exact rfl) ?_⟩;refine⟨⟨0,by omega,rfl,rfl,ah.refl _,trivial⟩,λi hi=>⟨λa=> ?_,λa=> ?_⟩⟩
 ·have a:=of_decide_eq_true a;have ei:i<16:=by omega
  have fn:=zA x.r i;rw[N,n9 x.r ei];refine⟨by omega,by omega,λb=>⟨by omega,by omega,i+1,⟨by omega,by omega⟩,?_,by omega,ah.refl _,trivial⟩,λb=>⟨by omega,i+1,⟨by omega,by omega⟩,?_,by omega,ah.refl _,trivial⟩⟩
  ·have b: ¬ x.r i=[]:=by simpa using b
   rw[b8,if_neg b]
  ·have b:x.r i=[]:=by simpa using b
   rw[b8,if_pos b]
 ·have a:=of_decide_eq_false a;have ei:i=16:=by omega
  subst ei;have fn:=zA x.r 16;refine⟨λk0=>bp ?_,λk0=>⟨λk1=> ?_,λk1=>⟨λk2=> ?_,λk2=>⟨λk3=> ?_,λk3=>bp ?_⟩⟩⟩⟩
  ·rw[OF (of_decide_eq_true k0),lZ,show List.range 16=[0,1,2,3,4,5,6,7,8,9,10,11,12,13,14,15] from by decide]
   simp only[List.all_cons,List.all_nil,Bool.and_true]
  ·rw[OG (of_decide_eq_true k1)];refine⟨hp.2,λa1=>⟨λa2=>⟨λa3=>⟨λa4=>bp ?_,λa4=>bp ?_⟩,λa3=>bp ?_⟩,λa2=>bp ?_⟩,λa1=>bp ?_⟩
   ·rw[a1,a2,a3,a4];rfl
   ·rw[a1,a2,a3,a4];rfl
   ·rw[a1,a2,a3];rfl
   ·rw[a1,a2];rfl
   ·rw[a1];rfl
  ·rw[YM (of_decide_eq_true k2)];have h0:=hp.1 0 (by decide)
   refine⟨h0,λb=>⟨hp.2,λa1=>⟨λa2=>⟨λa3=>⟨λa4=>⟨λa5=>⟨h0,λa6=>bp ?_,λa6=>bp ?_⟩,λa5=>bp ?_⟩,λa4=>bp ?_⟩,λa3=>bp ?_⟩,λa2=>bp ?_⟩,λa1=>bp ?_⟩,
    λb=>⟨hp.2,λa1=>⟨λa2=>⟨λa3=>⟨λa4=>⟨λa5=>⟨h0,λa6=>bp ?_,λa6=>bp ?_⟩,λa5=>bp ?_⟩,λa4=>bp ?_⟩,λa3=>bp ?_⟩,λa2=>bp ?_⟩,λa1=>bp ?_⟩⟩
   ·rw[a1,a2,a3,a4,a5,a6,b];rfl
   ·rw[a1,a2,a3,a4,a5,a6];rfl
   ·rw[a1,a2,a3,a4,a5];rfl
   ·rw[a1,a2,a3,a4];rfl
   ·rw[a1,a2,a3];rfl
   ·rw[a1,a2];rfl
   ·rw[a1];rfl
   ·rw[a1,a2,a3,a4,a5,a6,b];rfl
   ·rw[a1,a2,a3,a4,a5,a6];rfl
   ·rw[a1,a2,a3,a4,a5];rfl
   ·rw[a1,a2,a3,a4];rfl
   ·rw[a1,a2,a3];rfl
   ·rw[a1,a2];rfl
   ·rw[a1];rfl
  ·rw[OH (of_decide_eq_true k3)];refine⟨⟨0,⟨by omega,rfl⟩,rfl,ah.refl _,trivial⟩,λj hj=>⟨λb=> ?_,λb=> ?_⟩⟩
   ·have b:=of_decide_eq_true b;have ej:j<16:=by omega
    rw[N,n9 x.r ej];refine⟨by omega,by omega,λc=>⟨by omega,by omega,hp.1 j ej,λd=>bp ?_,λd=>⟨by omega,j+1,⟨⟨by omega,?_⟩,by omega⟩,by omega,ah.refl _,trivial⟩⟩,λc=>⟨by omega,j+1,⟨⟨by omega,?_⟩,by omega⟩,by omega,ah.refl _,trivial⟩⟩
    ·have c: ¬ x.r j=[]:=by simpa using c
     have d:fe bM (x.r j)=false:=by simpa using d
     rw[Bc ej c d];rfl
    ·have d:fe bM (x.r j)=true:=by simpa using d
     rw[gJ,hj.2,d,Bool.or_true];rfl
    ·have c:x.r j=[]:=by simpa using c
     rw[gJ,hj.2,decide_eq_true c];rfl
   ·have b:=of_decide_eq_false b;have hj1:=hj.1;have ej:j=16:=by omega
    subst ej;rw[hj.2];refine⟨λc=>⟨by omega,λd=>⟨λe=>bp ?_,λe=>bp ?_⟩,λd=>bp ?_⟩,λc=>⟨λd=>⟨λe=>bp ?_,λe=>bp ?_⟩,λd=>bp ?_⟩⟩
    ·have c:w (x.v=[])=false:=by simpa using c
     rw[c,d,e,Int.add_comm];rfl
    ·rw[d,e];rfl
    ·rw[d];rfl
    ·have c:w (x.v=[])=true:=by simpa using c
     rw[c,d,e];simp only[O,cond_true,Int.zero_add]
    ·rw[d,e];rfl
    ·rw[d];rfl
  ·rw[VZ (of_decide_eq_false k0) (of_decide_eq_false k1) (of_decide_eq_false k2) (of_decide_eq_false k3)]
theorem Dm:aQ z (λf=>ay f (Lr L)):=.cons (O7 hI) (aG _) (.cons O3 (aG _) (xw hI))
theorem Xt:ax z 146 (bw (mU λx=>A (eO L x.r/\x.p.length<1152921504606846976,Qp x))):=by
 refine cn (n:=20) (fn:=T) Tryz.func146 (by kernel_rfl) (by kernel_rfl) ?_;intro args p a h hp;obtain⟨x,hx,hg⟩:=tO h;subst hx;cases hg;refine⟨Zs L,.of bz (Dm hI) aU,rfl,λb=>by cases b<;>exact rfl,av.of_eq (ab3 L x) ?_⟩
 have hp:eO L x.r/\x.p.length<1152921504606846976:=hp;have e:=om (lp x);have e2:=zO (lp x);refine⟨⟨abO hp.1,hp.2⟩,λa=> ?_,λa=> ?_⟩
 ·rw[e] at a;have a:aI x=false:=by simpa using a
  rw[a];exact⟨(λh=>by cases h),λ_ _=>rfl⟩
 ·rw[e] at a;have a:aI x=true:=by simpa using a
  have hs:=fQ a;rw[e2,a];exact⟨⟨hs.k,Nd.jZ.same (lp x) hs.KS⟩,λ_ _=>rfl,λh=>by cases h⟩
theorem Dn:aQ z (λf=>ay f (Ls L)):=.cons (Xt hI) (aZ _) (Dm hI)
end
end
section
open Go Sx
set_option maxRecDepth 20000
theorem YS (L:Nat)(s:e_):VC.holds (dB (SH L s) 135 Tryz.f135 [.str o s] (Vn s))=((λS:Nat->(Nat)->SV=>((λT:Nat->(Nat)->SV=>((λU:Nat->(Nat)->SV=>((λI:Nat->(Nat)->SV=>((λV:Nat->(Nat)->SV=>((λW:Nat->(Nat)->SV=>((λX:Nat->(Nat)->SV=>((λY:Nat->(Nat)->SV=>((λJ:Nat->(Nat)->SV=>((λZ:Nat->(Nat)->SV=>((λa0:Nat->(Nat)->SV=>((λa1:Nat->(Nat)->SV=>((λa2:Nat->(Nat)->SV=>((λK:Nat->(Nat)->SV=>((λa3:Nat->(Nat)->SV=>((λa4:Nat->(Nat)->SV=>((λa5:Nat->(Nat)->SV=>((λa6:Nat->(Nat)->SV=>((λM:Nat->(Nat)->SV=>((λa7:Nat->(Nat)->SV=>((λa:SV=>((λl:SB=>((λm:SV=>((λj:Nat->SB=>((λb:SV=>((λc:SV=>((λG:SV=>((λH:SV=>((λN:SB=>((λO:Nat->SV=>((λP:Nat->SV=>((λQ:Nat->SV=>((λR:Nat->SV=>((Fk (1000<(s.length:Int)) (Bk (aJ s) (aa a b) (aa a c)) (s.length<9223372036854775808/\Bk (bO s) ((af s).length<1099511627776/\Bk (cS (af s)) (∀(d:Nat),au (af s)<=d->Bk (cy s) (Fk ((↑(au (af s)):Int)=2) (((0:Int)<=(0:Int)/\0<(↑(au (af s)):Int))/\0<au (af s)/\(aj (af s) 0).length<9223372036854775808/\(bt (aj (af s) 0)).length<536870912/\Bk (bI (bt (aj (af s) 0))) (Bk (cD (bt (aj (af s) 0))) (((0:Int)<=(1:Int)/\1<(↑(au (af s)):Int))/\1<au (af s)/\(aj (af s) 1).length<9223372036854775808/\Bk (cy s) (Fk ((↑(au (af s)):Int)=17) ((∃(C:Nat),C<=16/\0=(C:Int) /\ah (SB.cells (SV.int .i64 u 3::SV.str o (bT (bt (aj (af s) 0)))::SV.str o (bt (aj (af s) 1))::wD) 19 138) (SB.cells (SV.int .i64 o 3::SV.str o []::SV.str o []::bG (λi=>S i C) []) 19 138)/\ah (j d) (j d)/\ah l l/\True)/\∀(e:Nat),e<=16->Fk ((e:Int)<16) ((0<=(e:Int)/\(e:Int)<(↑(au (af s)):Int))/\0+(e:Int).toNat<au (af s)/\(0:Nat)<(1152921504606846976:Nat)/\A (j d)=A (j d)/\Bk (!decide (aj (af s) (0+(e:Int).toNat)=aq [])) ((0<=(e:Int)/\(e:Int)<(↑(au (af s)):Int))/\0+(e:Int).toNat<au (af s)/\(0<=(e:Int)/\(e:Int)<16)/\(e:Int).toNat<16 /\I6 ((e:Int)+1)/\∃(n:Nat),(n<=16/\16 - n<16 - e)/\(e:Int)+1=(n:Int)/\ah (SB.cells (SV.int .i64 o 3::SV.str o []::SV.str o []::bG (λi=>T i e) []) 19 138) (SB.cells (SV.int .i64 o 3::SV.str o []::SV.str o []::bG (λi=>U i n) []) 19 138)/\ah (j d) (j d)/\ah l l/\True) (I6 ((e:Int)+1)/\∃(q:Nat),(q<=16/\16 - q<16 - e)/\(e:Int)+1=(q:Int) /\ah (SB.cells (SV.int .i64 o 3::SV.str o []::SV.str o []::bG (λi=>I i e) []) 19 138) (SB.cells (SV.int .i64 o 3::SV.str o []::SV.str o []::bG (λi=>V i q) []) 19 138)/\ah (j d) (j d)/\ah l l/\True)) (((0:Int)<=(16:Int)/\16<(↑(au (af s)):Int))/\16<au (af s)/\(aj (af s) 16).length<9223372036854775808/\((eO L fun(a8:Nat)=>(bG (λi=>fO (af s) e i) []).getD a8 [])/\(0:Nat)<(1152921504606846976:Nat)) /\(aI {k:=(3:Int),p:=[],v:=bt (aj (af s) 16),r:=fun(a9:Nat)=>(bG (λi=>fO (af s) e i) []).getD a9 []:Nd}=u->((!decide (cq {k:=(3:Int),p:=[],v:=bt (aj (af s) 16),r:=fun(a_:Nat)=>(bG (λi=>fO (af s) e i) []).getD a_ []:Nd}=s))=u->Bk (aJ s) (aa a b) (aa a c)) /\((!decide (cq {k:=(3:Int),p:=[],v:=bt (aj (af s) 16),r:=fun(b0:Nat)=>(bG (λi=>fO (af s) e i) []).getD b0 []:Nd}=s))=o->Bk (aJ s) (aa (Q e) b) (aa (Q e) c)))/\(aI {k:=(3:Int),p:=[],v:=bt (aj (af s) 16),r:=fun(b1:Nat)=>(bG (λi=>fO (af s) e i) []).getD b1 []:Nd}=o->Bk (aJ s) (aa a b) (aa a c)))) (((eO L fun(b2:Nat)=>(bG (λ_=>[]) []).getD b2 [])/\(bT (bt (aj (af s) 0))).length<1152921504606846976)/\(aI {k:=(1:Int),p:=bT (bt (aj (af s) 0)),v:=bt (aj (af s) 1),r:=fun(b3:Nat)=>(bG (λ_=>[]) []).getD b3 []:Nd}=u->((!decide (cq {k:=(1:Int),p:=bT (bt (aj (af s) 0)),v:=bt (aj (af s) 1),r:=fun(b4:Nat)=>(bG (λ_=>[]) []).getD b4 []:Nd}=s))=u->Bk (aJ s) (aa a b) (aa a c))/\((!decide (cq {k:=(1:Int),p:=bT (bt (aj (af s) 0)),v:=bt (aj (af s) 1),r:=fun(b5:Nat)=>(bG (λ_=>[]) []).getD b5 []:Nd}=s))=o->Bk (aJ s) (aa G b) (aa G c))) /\(aI {k:=(1:Int),p:=bT (bt (aj (af s) 0)),v:=bt (aj (af s) 1),r:=fun(b6:Nat)=>(bG (λ_=>[]) []).getD b6 []:Nd}=o->Bk (aJ s) (aa a b) (aa a c)))) (((eO L fun(b7:Nat)=>(bG (λ_=>[]) []).getD b7 [])/\(bT (bt (aj (af s) 0))).length<1152921504606846976)/\(aI {k:=(1:Int),p:=bT (bt (aj (af s) 0)),v:=bt (aj (af s) 1),r:=fun(b8:Nat)=>(bG (λ_=>[]) []).getD b8 []:Nd}=u->((!decide (cq {k:=(1:Int),p:=bT (bt (aj (af s) 0)),v:=bt (aj (af s) 1),r:=fun(b9:Nat)=>(bG (λ_=>[]) []).getD b9 []:Nd}=s))=u->Bk (aJ s) (aa a b) (aa a c)) /\((!decide (cq {k:=(1:Int),p:=bT (bt (aj (af s) 0)),v:=bt (aj (af s) 1),r:=fun(b_:Nat)=>(bG (λ_=>[]) []).getD b_ []:Nd}=s))=o->Bk (aJ s) (aa G b) (aa G c)))/\(aI {k:=(1:Int),p:=bT (bt (aj (af s) 0)),v:=bt (aj (af s) 1),r:=fun(c0:Nat)=>(bG (λ_=>[]) []).getD c0 []:Nd}=o->Bk (aJ s) (aa a b) (aa a c)))) (((0:Int)<=(1:Int)/\1<(↑(au (af s)):Int))/\1<au (af s)/\Bk (cy s) (Fk ((↑(au (af s)):Int)=17) ((∃(D:Nat),D<=16/\0=(D:Int) /\ah (SB.cells (SV.int .i64 u 3::(SV.str o (bT (bt (aj (af s) 0))))::SV.str u []::(SV.str o (aj (af s) 1))::Nk (λ_=>SV.str u []) []) 19 138) (SB.cells (SV.int .i64 o 3::SV.str o []::SV.str o []::bG (λi=>W i D) []) 19 138)/\ah (j d) (j d)/\ah l l/\True)/\∀(f:Nat),f<=16->Fk ((f:Int)<16) ((0<=(f:Int)/\(f:Int)<(↑(au (af s)):Int))/\0+(f:Int).toNat<au (af s)/\(0:Nat)<(1152921504606846976:Nat)/\A (j d)=A (j d)/\Bk (!decide (aj (af s) (0+(f:Int).toNat)=aq [])) ((0<=(f:Int)/\(f:Int)<(↑(au (af s)):Int))/\0+(f:Int).toNat<au (af s)/\(0<=(f:Int)/\(f:Int)<16)/\(f:Int).toNat<16 /\I6 ((f:Int)+1)/\∃(t:Nat),(t<=16/\16 - t<16 - f)/\(f:Int)+1=(t:Int)/\ah (SB.cells (SV.int .i64 o 3::SV.str o []::SV.str o []::bG (λi=>X i f) []) 19 138) (SB.cells (SV.int .i64 o 3::SV.str o []::SV.str o []::bG (λi=>Y i t) []) 19 138)/\ah (j d) (j d)/\ah l l/\True) (I6 ((f:Int)+1)/\∃(w:Nat),(w<=16/\16 - w<16 - f)/\(f:Int)+1=(w:Int) /\ah (SB.cells (SV.int .i64 o 3::SV.str o []::SV.str o []::bG (λi=>J i f) []) 19 138) (SB.cells (SV.int .i64 o 3::SV.str o []::SV.str o []::bG (λi=>Z i w) []) 19 138)/\ah (j d) (j d)/\ah l l/\True)) (((0:Int)<=(16:Int)/\16<(↑(au (af s)):Int))/\16<au (af s)/\(aj (af s) 16).length<9223372036854775808/\((eO L fun(c1:Nat)=>(bG (λi=>fO (af s) f i) []).getD c1 [])/\(0:Nat)<(1152921504606846976:Nat)) /\(aI {k:=(3:Int),p:=[],v:=bt (aj (af s) 16),r:=fun(c2:Nat)=>(bG (λi=>fO (af s) f i) []).getD c2 []:Nd}=u->((!decide (cq {k:=(3:Int),p:=[],v:=bt (aj (af s) 16),r:=fun(c3:Nat)=>(bG (λi=>fO (af s) f i) []).getD c3 []:Nd}=s))=u->Bk (aJ s) (aa a b) (aa a c)) /\((!decide (cq {k:=(3:Int),p:=[],v:=bt (aj (af s) 16),r:=fun(c4:Nat)=>(bG (λi=>fO (af s) f i) []).getD c4 []:Nd}=s))=o->Bk (aJ s) (aa (R f) b) (aa (R f) c)))/\(aI {k:=(3:Int),p:=[],v:=bt (aj (af s) 16),r:=fun(c5:Nat)=>(bG (λi=>fO (af s) f i) []).getD c5 []:Nd}=o->Bk (aJ s) (aa a b) (aa a c)))) (((eO L fun(c6:Nat)=>((aj (af s) 1)::Nk (λ_=>[]) []).getD c6 [])/\(bT (bt (aj (af s) 0))).length<1152921504606846976)/\(aI {k:=(2:Int),p:=bT (bt (aj (af s) 0)),v:=[],r:=fun(c7:Nat)=>((aj (af s) 1)::Nk (λ_=>[]) []).getD c7 []:Nd}=u->((!decide (cq {k:=(2:Int),p:=bT (bt (aj (af s) 0)),v:=[],r:=fun(c8:Nat)=>((aj (af s) 1)::Nk (λ_=>[]) []).getD c8 []:Nd}=s))=u->Bk (aJ s) (aa a b) (aa a c))/\((!decide (cq {k:=(2:Int),p:=bT (bt (aj (af s) 0)),v:=[],r:=fun(c9:Nat)=>((aj (af s) 1)::Nk (λ_=>[]) []).getD c9 []:Nd}=s))=o->Bk (aJ s) (aa H b) (aa H c))) /\(aI {k:=(2:Int),p:=bT (bt (aj (af s) 0)),v:=[],r:=fun(c_:Nat)=>((aj (af s) 1)::Nk (λ_=>[]) []).getD c_ []:Nd}=o->Bk (aJ s) (aa a b) (aa a c)))) (((eO L fun(d0:Nat)=>((aj (af s) 1)::Nk (λ_=>[]) []).getD d0 [])/\(bT (bt (aj (af s) 0))).length<1152921504606846976)/\(aI {k:=(2:Int),p:=bT (bt (aj (af s) 0)),v:=[],r:=fun(d1:Nat)=>((aj (af s) 1)::Nk (λ_=>[]) []).getD d1 []:Nd}=u->((!decide (cq {k:=(2:Int),p:=bT (bt (aj (af s) 0)),v:=[],r:=fun(d2:Nat)=>((aj (af s) 1)::Nk (λ_=>[]) []).getD d2 []:Nd}=s))=u->Bk (aJ s) (aa a b) (aa a c)) /\((!decide (cq {k:=(2:Int),p:=bT (bt (aj (af s) 0)),v:=[],r:=fun(d3:Nat)=>((aj (af s) 1)::Nk (λ_=>[]) []).getD d3 []:Nd}=s))=o->Bk (aJ s) (aa H b) (aa H c)))/\(aI {k:=(2:Int),p:=bT (bt (aj (af s) 0)),v:=[],r:=fun(d4:Nat)=>((aj (af s) 1)::Nk (λ_=>[]) []).getD d4 []:Nd}=o->Bk (aJ s) (aa a b) (aa a c))))) (Bk (aJ s) (aa a b) (aa a c))) (Bk (cy s) (Fk ((↑(au (af s)):Int)=17) ((∃(E:Nat),E<=16/\0=(E:Int)/\ah N (SB.cells (SV.int .i64 o 3::SV.str o []::SV.str o []::bG (λi=>a0 i E) []) 19 138)/\ah (j d) (j d)/\ah l l/\True) /\∀(g:Nat),g<=16->Fk ((g:Int)<16) ((0<=(g:Int)/\(g:Int)<(↑(au (af s)):Int))/\0+(g:Int).toNat<au (af s)/\(0:Nat)<(1152921504606846976:Nat)/\A (j d)=A (j d)/\Bk (!decide (aj (af s) (0+(g:Int).toNat)=aq [])) ((0<=(g:Int)/\(g:Int)<(↑(au (af s)):Int))/\0+(g:Int).toNat<au (af s)/\(0<=(g:Int)/\(g:Int)<16)/\(g:Int).toNat<16/\I6 ((g:Int)+1)/\∃(x:Nat),(x<=16/\16 - x<16 - g)/\(g:Int)+1=(x:Int)/\ah (SB.cells (SV.int .i64 o 3::SV.str o []::SV.str o []::bG (λi=>a1 i g) []) 19 138) (SB.cells (SV.int .i64 o 3::SV.str o []::SV.str o []::bG (λi=>a2 i x) []) 19 138) /\ah (j d) (j d)/\ah l l/\True) (I6 ((g:Int)+1)/\∃(y:Nat),(y<=16/\16 - y<16 - g)/\(g:Int)+1=(y:Int)/\ah (SB.cells (SV.int .i64 o 3::SV.str o []::SV.str o []::bG (λi=>K i g) []) 19 138) (SB.cells (SV.int .i64 o 3::SV.str o []::SV.str o []::bG (λi=>a3 i y) []) 19 138)/\ah (j d) (j d)/\ah l l/\True)) (((0:Int)<=(16:Int)/\16<(↑(au (af s)):Int))/\16<au (af s)/\(aj (af s) 16).length<9223372036854775808 /\((eO L fun(d5:Nat)=>(bG (λi=>fO (af s) g i) []).getD d5 [])/\(0:Nat)<(1152921504606846976:Nat))/\(aI {k:=(3:Int),p:=[],v:=bt (aj (af s) 16),r:=fun(d6:Nat)=>(bG (λi=>fO (af s) g i) []).getD d6 []:Nd}=u ->((!decide (cq {k:=(3:Int),p:=[],v:=bt (aj (af s) 16),r:=fun(d7:Nat)=>(bG (λi=>fO (af s) g i) []).getD d7 []:Nd}=s))=u->Bk (aJ s) (aa a b) (aa a c))/\((!decide (cq {k:=(3:Int),p:=[],v:=bt (aj (af s) 16),r:=fun(d8:Nat)=>(bG (λi=>fO (af s) g i) []).getD d8 []:Nd}=s))=o->Bk (aJ s) (aa (O g) b) (aa (O g) c))) /\(aI {k:=(3:Int),p:=[],v:=bt (aj (af s) 16),r:=fun(d9:Nat)=>(bG (λi=>fO (af s) g i) []).getD d9 []:Nd}=o->Bk (aJ s) (aa a b) (aa a c)))) (((eO L fun(d_:Nat)=>(bG (λ_=>[]) []).getD d_ [])/\(0:Nat)<(1152921504606846976:Nat))/\(aI {k:=(0:Int),p:=[],v:=[],r:=fun(e0:Nat)=>(bG (λ_=>[]) []).getD e0 []:Nd}=u->((!decide (cq {k:=(0:Int),p:=[],v:=[],r:=fun(e1:Nat)=>(bG (λ_=>[]) []).getD e1 []:Nd}=s))=u->Bk (aJ s) (aa a b) (aa a c)) /\((!decide (cq {k:=(0:Int),p:=[],v:=[],r:=fun(e2:Nat)=>(bG (λ_=>[]) []).getD e2 []:Nd}=s))=o->Bk (aJ s) (aa m b) (aa m c)))/\(aI {k:=(0:Int),p:=[],v:=[],r:=fun(e3:Nat)=>(bG (λ_=>[]) []).getD e3 []:Nd}=o->Bk (aJ s) (aa a b) (aa a c)))) (((eO L fun(e4:Nat)=>(bG (λ_=>[]) []).getD e4 [])/\(0:Nat)<(1152921504606846976:Nat))/\(aI {k:=(0:Int),p:=[],v:=[],r:=fun(e5:Nat)=>(bG (λ_=>[]) []).getD e5 []:Nd}=u->((!decide (cq {k:=(0:Int),p:=[],v:=[],r:=fun(e6:Nat)=>(bG (λ_=>[]) []).getD e6 []:Nd}=s))=u->Bk (aJ s) (aa a b) (aa a c)) /\((!decide (cq {k:=(0:Int),p:=[],v:=[],r:=fun(e7:Nat)=>(bG (λ_=>[]) []).getD e7 []:Nd}=s))=o->Bk (aJ s) (aa m b) (aa m c)))/\(aI {k:=(0:Int),p:=[],v:=[],r:=fun(e8:Nat)=>(bG (λ_=>[]) []).getD e8 []:Nd}=o->Bk (aJ s) (aa a b) (aa a c))))) (Bk (cy s) (Fk ((↑(au (af s)):Int)=17) ((∃(F:Nat),F<=16/\0=(F:Int)/\ah N (SB.cells (SV.int .i64 o 3::SV.str o []::SV.str o []::bG (λi=>a4 i F) []) 19 138)/\ah (j d) (j d)/\ah l l/\True)/\∀(h:Nat),h<=16->Fk ((h:Int)<16) ((0<=(h:Int)/\(h:Int)<(↑(au (af s)):Int))/\0+(h:Int).toNat<au (af s)/\(0:Nat)<(1152921504606846976:Nat)/\A (j d)=A (j d) /\Bk (!decide (aj (af s) (0+(h:Int).toNat)=aq [])) ((0<=(h:Int)/\(h:Int)<(↑(au (af s)):Int))/\0+(h:Int).toNat<au (af s)/\(0<=(h:Int)/\(h:Int)<16)/\(h:Int).toNat<16/\I6 ((h:Int)+1)/\∃(z:Nat),(z<=16/\16 - z<16 - h)/\(h:Int)+1=(z:Int)/\ah (SB.cells (SV.int .i64 o 3::SV.str o []::SV.str o []::bG (λi=>a5 i h) []) 19 138) (SB.cells (SV.int .i64 o 3::SV.str o []::SV.str o []::bG (λi=>a6 i z) []) 19 138)/\ah (j d) (j d)/\ah l l/\True) (I6 ((h:Int)+1)/\∃(B:Nat),(B<=16 /\16 - B<16 - h)/\(h:Int)+1=(B:Int)/\ah (SB.cells (SV.int .i64 o 3::SV.str o []::SV.str o []::bG (λi=>M i h) []) 19 138) (SB.cells (SV.int .i64 o 3::SV.str o []::SV.str o []::bG (λi=>a7 i B) []) 19 138)/\ah (j d) (j d)/\ah l l/\True)) (((0:Int)<=(16:Int)/\16<(↑(au (af s)):Int))/\16<au (af s)/\(aj (af s) 16).length<9223372036854775808/\((eO L fun(e9:Nat)=>(bG (λi=>fO (af s) h i) []).getD e9 []) /\(0:Nat)<(1152921504606846976:Nat))/\(aI {k:=(3:Int),p:=[],v:=bt (aj (af s) 16),r:=fun(f0:Nat)=>(bG (λi=>fO (af s) h i) []).getD f0 []:Nd}=u->((!decide (cq {k:=(3:Int),p:=[],v:=bt (aj (af s) 16),r:=fun(f1:Nat)=>(bG (λi=>fO (af s) h i) []).getD f1 []:Nd}=s))=u->Bk (aJ s) (aa a b) (aa a c)) /\((!decide (cq {k:=(3:Int),p:=[],v:=bt (aj (af s) 16),r:=fun(f2:Nat)=>(bG (λi=>fO (af s) h i) []).getD f2 []:Nd}=s))=o->Bk (aJ s) (aa (P h) b) (aa (P h) c)))/\(aI {k:=(3:Int),p:=[],v:=bt (aj (af s) 16),r:=fun(f3:Nat)=>(bG (λi=>fO (af s) h i) []).getD f3 []:Nd}=o->Bk (aJ s) (aa a b) (aa a c)))) (((eO L fun(f4:Nat)=>(bG (λ_=>[]) []).getD f4 [])/\(0:Nat)<(1152921504606846976:Nat))/\(aI {k:=(0:Int),p:=[],v:=[],r:=fun(f5:Nat)=>(bG (λ_=>[]) []).getD f5 []:Nd}=u->((!decide (cq {k:=(0:Int),p:=[],v:=[],r:=fun(f6:Nat)=>(bG (λ_=>[]) []).getD f6 []:Nd}=s))=u->Bk (aJ s) (aa a b) (aa a c))/\((!decide (cq {k:=(0:Int),p:=[],v:=[],r:=fun(f7:Nat)=>(bG (λ_=>[]) []).getD f7 []:Nd}=s))=o->Bk (aJ s) (aa m b) (aa m c)))/\(aI {k:=(0:Int),p:=[],v:=[],r:=fun(f8:Nat)=>(bG (λ_=>[]) []).getD f8 []:Nd}=o->Bk (aJ s) (aa a b) (aa a c)))) (((eO L fun(f9:Nat)=>(bG (λ_=>[]) []).getD f9 []) /\(0:Nat)<(1152921504606846976:Nat))/\(aI {k:=(0:Int),p:=[],v:=[],r:=fun(f_:Nat)=>(bG (λ_=>[]) []).getD f_ []:Nd}=u->((!decide (cq {k:=(0:Int),p:=[],v:=[],r:=fun(g0:Nat)=>(bG (λ_=>[]) []).getD g0 []:Nd}=s))=u->Bk (aJ s) (aa a b) (aa a c))/\((!decide (cq {k:=(0:Int),p:=[],v:=[],r:=fun(g1:Nat)=>(bG (λ_=>[]) []).getD g1 []:Nd}=s))=o->Bk (aJ s) (aa m b) (aa m c)))/\(aI {k:=(0:Int),p:=[],v:=[],r:=fun(g2:Nat)=>(bG (λ_=>[]) []).getD g2 []:Nd}=o->Bk (aJ s) (aa a b) (aa a c))))) (Bk (cy s) (Bk (cy s) (((eO L fun(g3:Nat)=>(bG (λ_=>[]) []).getD g3 [])/\(0:Nat)<(1152921504606846976:Nat)) /\(aI {k:=(0:Int),p:=[],v:=[],r:=fun(g4:Nat)=>(bG (λ_=>[]) []).getD g4 []:Nd}=u->((!decide (cq {k:=(0:Int),p:=[],v:=[],r:=fun(g5:Nat)=>(bG (λ_=>[]) []).getD g5 []:Nd}=s))=u->Bk (aJ s) (aa a b) (aa a c))/\((!decide (cq {k:=(0:Int),p:=[],v:=[],r:=fun(g6:Nat)=>(bG (λ_=>[]) []).getD g6 []:Nd}=s))=o->Bk (aJ s) (aa m b) (aa m c)))/\(aI {k:=(0:Int),p:=[],v:=[],r:=fun(g7:Nat)=>(bG (λ_=>[]) []).getD g7 []:Nd}=o->Bk (aJ s) (aa a b) (aa a c))) (((eO L fun(g8:Nat)=>(bG (λ_=>[]) []).getD g8 [])/\(0:Nat)<(1152921504606846976:Nat)) /\(aI {k:=(0:Int),p:=[],v:=[],r:=fun(g9:Nat)=>(bG (λ_=>[]) []).getD g9 []:Nd}=u->((!decide (cq {k:=(0:Int),p:=[],v:=[],r:=fun(g_:Nat)=>(bG (λ_=>[]) []).getD g_ []:Nd}=s))=u->Bk (aJ s) (aa a b) (aa a c))/\((!decide (cq {k:=(0:Int),p:=[],v:=[],r:=fun(h0:Nat)=>(bG (λ_=>[]) []).getD h0 []:Nd}=s))=o->Bk (aJ s) (aa m b) (aa m c)))/\(aI {k:=(0:Int),p:=[],v:=[],r:=fun(h1:Nat)=>(bG (λ_=>[]) []).getD h1 []:Nd}=o->Bk (aJ s) (aa a b) (aa a c)))) (Bk (cy s) (((eO L fun(h2:Nat)=>(bG (λ_=>[]) []).getD h2 [])/\(0:Nat)<(1152921504606846976:Nat)) /\(aI {k:=(0:Int),p:=[],v:=[],r:=fun(u9:Nat)=>(bG (λ_=>[]) []).getD u9 []:Nd}=u->((!decide (cq {k:=(0:Int),p:=[],v:=[],r:=fun(u8:Nat)=>(bG (λ_=>[]) []).getD u8 []:Nd}=s))=u->Bk (aJ s) (aa a b) (aa a c))/\((!decide (cq {k:=(0:Int),p:=[],v:=[],r:=fun(u7:Nat)=>(bG (λ_=>[]) []).getD u7 []:Nd}=s))=o->Bk (aJ s) (aa m b) (aa m c)))/\(aI {k:=(0:Int),p:=[],v:=[],r:=fun(u6:Nat)=>(bG (λ_=>[]) []).getD u6 []:Nd}=o->Bk (aJ s) (aa a b) (aa a c))) (((eO L fun(u5:Nat)=>(bG (λ_=>[]) []).getD u5 [])/\(0:Nat)<(1152921504606846976:Nat)) /\(aI {k:=(0:Int),p:=[],v:=[],r:=fun(u4:Nat)=>(bG (λ_=>[]) []).getD u4 []:Nd}=u->((!decide (cq {k:=(0:Int),p:=[],v:=[],r:=fun(u3:Nat)=>(bG (λ_=>[]) []).getD u3 []:Nd}=s))=u->Bk (aJ s) (aa a b) (aa a c))/\((!decide (cq {k:=(0:Int),p:=[],v:=[],r:=fun(u2:Nat)=>(bG (λ_=>[]) []).getD u2 []:Nd}=s))=o->Bk (aJ s) (aa m b) (aa m c)))/\(aI {k:=(0:Int),p:=[],v:=[],r:=fun(u1:Nat)=>(bG (λ_=>[]) []).getD u1 []:Nd}=o->Bk (aJ s) (aa a b) (aa a c)))))) ((0:Nat)<(1099511627776:Nat)/\Bk (cS []) (∀(u0:Nat),0<=u0->Bk (aJ s) (aa a b) (aa a c)) (Bk (aJ s) (aa a b) (aa a c))))))) (fun(f:Nat)=>(SV.aD [SV.agg (SV.int .i64 o 3::SV.str o []::(SV.str o (bt (aj (af s) 16)))::bG (λi=>J i f) []),SV.bool u u])))) (fun(e:Nat)=>(SV.aD [SV.agg (SV.int .i64 o 3::SV.str o []::(SV.str o (bt (aj (af s) 16)))::bG (λi=>I i e) []),SV.bool u u])))) (fun(h:Nat)=>(SV.aD [SV.agg (SV.int .i64 o 3::SV.str o []::(SV.str o (bt (aj (af s) 16)))::bG (λi=>M i h) []),SV.bool u u])))) (fun(g:Nat)=>(SV.aD [SV.agg (SV.int .i64 o 3::SV.str o []::(SV.str o (bt (aj (af s) 16)))::bG (λi=>K i g) []),SV.bool u u])))) (SB.cells (SV.int .i64 u 3::SV.str u []::SV.str u []::wD) 19 138))) (SV.aD [SV.agg (SV.int .i64 u 2::(SV.str o (bT (bt (aj (af s) 0))))::SV.str u []::(aE.at 1 (aE.str (aj (af s))))::Nk (λ_=>SV.str u []) []),SV.bool u u]))) (SV.aD [SV.agg (SV.int .i64 u 1::SV.str o (bT (bt (aj (af s) 0)))::SV.str o (bt (aj (af s) 1))::wD),SV.bool u u]))) (SV.aD [cK,SV.bool u o]))) (SV.aD [(getD s).sv,SV.bool u u]))) (fun(d:Nat)=>(SB.rows u (au (af s)) [aE.str (aj (af s))] o d 9)))) (SV.aD [SV.agg (SV.int .i64 u 0::SV.str u []::SV.str u []::wD),SV.bool u u]))) (SB.cells (SV.agg (SV.int .i64 u 0::SV.str u []::SV.str u []::wD)).cells 19 138))) (SV.aD [SV.agg (SV.int .i64 u 0::SV.str u []::SV.str u []::wD),SV.bool u o]))) (fun(n0:Nat) (B:Nat)=>SV.str o (fO (af s) B n0)))) (fun(n0:Nat) (h:Nat)=>SV.str o (fO (af s) h n0)))) (fun(n0:Nat) (z:Nat)=>SV.str o (fO (af s) z n0)))) (fun(n0:Nat) (h:Nat)=>SV.str o (if(h:Int).toNat=n0 then aj (af s) (0+(h:Int).toNat)else fO (af s) h n0)))) (fun(n0:Nat) (F:Nat)=>SV.str o (fO (af s) F n0)))) (fun(n0:Nat) (y:Nat)=>SV.str o (fO (af s) y n0)))) (fun(n0:Nat) (g:Nat)=>SV.str o (fO (af s) g n0)))) (fun(n0:Nat) (x:Nat)=>SV.str o (fO (af s) x n0)))) (fun(n0:Nat) (g:Nat)=>SV.str o (if(g:Int).toNat=n0 then aj (af s) (0+(g:Int).toNat)else fO (af s) g n0)))) (fun(n0:Nat) (E:Nat)=>SV.str o (fO (af s) E n0)))) (fun(n0:Nat) (w:Nat)=>SV.str o (fO (af s) w n0)))) (fun(n0:Nat) (f:Nat)=>SV.str o (fO (af s) f n0)))) (fun(n0:Nat) (t:Nat)=>SV.str o (fO (af s) t n0)))) (fun(n0:Nat) (f:Nat)=>SV.str o (if(f:Int).toNat=n0 then aj (af s) (0+(f:Int).toNat)else fO (af s) f n0)))) (fun(n0:Nat) (D:Nat)=>SV.str o (fO (af s) D n0)))) (fun(n0:Nat) (q:Nat)=>SV.str o (fO (af s) q n0)))) (fun(n0:Nat) (e:Nat)=>SV.str o (fO (af s) e n0)))) (fun(n0:Nat) (n:Nat)=>SV.str o (fO (af s) n n0)))) (fun(n0:Nat) (e:Nat)=>SV.str o (if(e:Int).toNat=n0 then aj (af s) (0+(e:Int).toNat)else fO (af s) e n0)))) (fun(n0:Nat) (C:Nat)=>SV.str o (fO (af s) C n0))):=by kernel_rfl
end
end Go.Proofs.YtoibaecagklkaaaGreatDoor
