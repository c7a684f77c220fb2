/-
  The examples of span: the contract.
-/
import Derived.Test.YtoibaecagklkaaaGreatDoorMx
import Derived.Test.YtoibaecagklkaaaGreatDoorMj
open Bool renaming false->j,true->d
open Option.some renaming inj->u
namespace Go.Proofs.YtoibaecagklkaaaGreatDoor
open Go Sx
set_option maxRecDepth 20000
theorem HA (c:Nat):aa (SB.cells [SV.str d [(97:UInt8)],SV.str d [(49:UInt8)],SV.str d [(98:UInt8)],SV.str d [(50:UInt8)]] c 50) (SB.view j 0 2 [aq.str eF,aq.str eG]):=by
 refine aa.of rfl rfl λhno=>⟨rfl,λE o ⟨c,fr,h1,h2,h3,_⟩=>⟨c,_,fr,h1,λi k col hi hk=> ?_⟩,λh=>by cases h⟩
 match i,hi,k,hk with
 | 0,_,0,hk=>obtain rfl:=u hk;exact h3 0 (.str d [97]) rfl
 | 0,_,1,hk=>obtain rfl:=u hk;exact h3 1 (.str d [49]) rfl
 | 1,_,0,hk=>obtain rfl:=u hk;exact h3 2 (.str d [98]) rfl
 | 1,_,1,hk=>obtain rfl:=u hk;exact h3 3 (.str d [50]) rfl
 | i+2,hi,_,_=>omega
 | _,_,k+2,hk=>simp at hk
theorem YR {p:Nat->Prop}(h0:p 0)(h1:p 1)(i:Nat)(hi:i<2):p i:=by
 match i,hi with
 | 0,_=>exact h0
 | 1,_=>exact h1
theorem mI {A:It}:aa (.dR A.D [.str A.cS] 4 133 j) A.nE :=⟨rfl,λ_ _ ha=>⟨ha,λ_ _ h=>h,λh=>by cases h⟩⟩
theorem Di:aB (UF RZ 11 Tryz.f11 [] (.ret (.bool d d))):=by
 refine aB.pr Q1 ?_;have hB:xz 2 eF eG=true:=by decide +kernel
 refine⟨⟨2,eF,eG,0,2⟩,⟨by decide,hB⟩,⟨rfl,rfl,rfl⟩,HA _,λy hy=> ?_⟩;have hr:=PZ 2 eF eG;dsimp only at hy ⊢;have l1: ∀ b:UInt8,[b].length<=1000:=λb=>by show(1:Nat)<=1000;decide
 have le1:j7 [98] [99]=true:=by decide +kernel
 have le2:j7 [98] [97]=false:=by decide +kernel
 refine⟨⟨2,eF,eG,y,[98],[99],br 2 eF eG,2000⟩,⟨⟨hy,l1 _,l1 _,.inl rfl⟩,rfl,le1⟩,rfl,rfl,rfl,rfl,aa.fmap (λ_=>rfl) (λ_=>rfl),mI,λc hc=>⟨⟨⟨trivial,⟨trivial,trivial,trivial⟩,⟨rfl,by rw[Nat.zero_add];exact Nat.le_refl _⟩,trivial⟩,⟨hy.m6,hy.apart,rfl,le1,rfl,λi hi=>rfl,l1 _,l1 _⟩⟩,λc1 hc1=>⟨⟨⟨trivial,⟨trivial,trivial,trivial⟩,trivial,trivial⟩,rfl,l1 98,l1 98⟩,⟨2,eF,eG,y,[98],[97],br 2 eF eG,2000⟩,⟨⟨hy,l1 _,l1 _,.inl rfl⟩,rfl,le2⟩,rfl,rfl,rfl,rfl,aa.fmap (λ_=>rfl) (λ_=>rfl),mI,⟨2,eF,eG,y,[98],[99],[63],2000⟩,⟨⟨hy,l1 _,l1 _,.inr (by show(1:Nat)≠32;decide)⟩,λe=>by have:=congrArg List.length e;rw[hr] at this;exact absurd this (by show ¬ (1:Nat)=32;decide)⟩,rfl,rfl,rfl,rfl,aa.fmap (λ_=>rfl) (λ_=>rfl),mI,⟨⟨trivial,⟨trivial,trivial,trivial⟩,⟨rfl,by rw[Nat.zero_add];exact Nat.le_refl _⟩,trivial⟩,by decide,⟨by decide +kernel,by decide +kernel,rfl,le1,rfl,λi hi=>rfl,l1 _,l1 _⟩⟩,?_⟩⟩⟩
 repeat' first
  | exact trivial
  | exact rfl
  | exact λ_=>rfl
  | refine And.intro ?_ ?_
  | exact λh=>absurd h (by decide +kernel)
  | intro (_:_=d)
  | intro (_:_=j)
  | refine YR ?_ ?_
  | intro (_:Nat)
  | intro (_:_<=_)
  | decide +kernel
  | fail
def pV (vs:List SV):Option (Prop×cL):=match vs with
 | []=>some (True,.ret (.bool d d))
 | _=>none
theorem CO:az Tryz.prog 11 (cH pV):=by
 refine ew (n:=40) (fn:=Tryz.f11) Tryz.func11 (by kernel_rfl) (by kernel_rfl) ?_;intro vs q a h hq
 match vs,h with
 | [],h =>injection h with h;injection h with h1 h2;subst h1;subst h2;exact⟨_,ZG,rfl,rfl,Di⟩
noncomputable def Ls (n:Nat)(f g:Nat->List UInt8):List (FuncId×PT):=(11,cH pV)::(12,cD lW)::(13,cD uW)::(26,ot d UK sG)::(14,bE Dc (mA n f g))::(23,bE Xf uU)::(15,JO (bE UL jW))::(17,JO (bE Xg jV))::fP
theorem DV (n:Nat)(f g:Nat->List UInt8):bn Tryz.prog (λk=>aE k (Ls n f g)):=.cons CO (b9 _) (.cons HP (cc _) (.cons qv (cc _) (.cons (EN IQ) (tG _ _ _) (.cons (yE n f g) (bQ _ _) (.cons tU (bQ _ _) (.cons (Cz EH) (uK (bQ _ _)) (.cons (Cz Qg) (uK (bQ _ _)) cO)))))))
noncomputable def RF (n:Nat)(f g:Nat->List UInt8):fJ:={cm with cG:=λk=>aE k (Ls n f g)}
theorem Zm (n:Nat)(f g:Nat->List UInt8):Sx.Good Tryz.prog (RF n f g):=.of bR (DV n f g) bl
theorem J8 (n:Nat)(f g:Nat->List UInt8)(z:Bool)(o c:Nat)(key:Option Nat):cZ (.s 1 (.n (.n .k (.n .k (.s 0 .k))) (.n .k (.n (.s 1 (.n .k (.n .k (.n .k (.s 0 .k))))) .t)))) (gD (RF n f g) 7 Tryz.f7 [.bS 0 2 z o 0 n c] [fD z o c n f g key] (.ret (.bool j d))) ((True/\∃(u21:Yu),u21.n<9223372036854775808/\(z=u21.z/\o=u21.o/\n=u21.n/\c=u21.c)/\aa (SB.view z o n [aq.str f,aq.str g]) (SB.view u21.z u21.o u21.n [aq.str u21.f,aq.str u21.g])/\(xz u21.n u21.f u21.g=d->∀(u20:tJ),nC (lV u21.n u21.f u21.g).length (fz u21.n u21.f u21.g) (aC (fz u21.n u21.f u21.g 0)) u20->∃(u19:GS),(wS u19/\u19.root=br u19.n u19.f u19.g/\j7 u19.fr u19.to=d)/\aC (fz u21.n u21.f u21.g 0)=u19.root/\[]=u19.fr/\jz=u19.to/\2000=u19.room/\aa (SB.fmap (cn u20.Fr) (aD.ref 4 u20.g) none) (SB.fmap (cn u19.y.Fr) (aD.ref 2 u19.y.g) none)/\aa (SB.dR u20.A.D [aq.str u20.A.cS] 4 133 j) (SB.dR u19.y.A.D [aq.str u19.y.A.cS] 4 133 d)/\∀(u18:Nat),u19.ns.length<=u18->(((z=z/\o=o/\0+n<=n)/\True)/\n<9223372036854775808)/\decide (cA n f g=0)=d/\∀(u17:Nat),(aG (b8 13 (av n (fun(u16:Nat)=>ak (f u16)) g))).length<=u17->((True/\(True/\True/\True)/\(d=d/\0+u19.ns.length<=u19.ns.length)/\True) /\wV n f g (aC (fz u21.n u21.f u21.g 0)) {fr:=[],to:=jz,n:=u19.ns.length,f:=fun(u15:Nat)=>u19.ns.getD u15 [],z:=d,o:=(0:Nat),c:=u18,ad:=fun(_u14:List UInt8)=>j,ag:=fun(_u13:List UInt8)=>(0:Int):Sp})/\∀(u12:Nat),(aj [] jz (av n f g)).length<=u12->(((d=d/\0+u19.ns.length<=u19.ns.length)/\(d=d/\0+(aG (b8 13 (av n (fun(u11:Nat)=>ak (f u11)) g))).length<=(aG (b8 13 (av n (fun(u10:Nat)=>ak (f u10)) g))).length)/\True)/\u19.ns.length<9223372036854775808)/\(dQ u19.ns.length (fun(u9:Nat)=>u19.ns.getD u9 []) (aG (b8 13 (av n (fun(u8:Nat)=>ak (f u8)) g))).length fun(u7:Nat)=>(aG (b8 13 (av n (fun(u6:Nat)=>ak (f u6)) g))).getD u7 [])=d/\(((d=d /\0+(aj [] jz (av n f g)).length<=(aj [] jz (av n f g)).length)/\(z=z/\o=o/\0+n<=n)/\True)/\(aj [] jz (av n f g)).length<9223372036854775808)/\dO (aj [] jz (av n f g)).length (fun(u5:Nat)=>((aj [] jz (av n f g)).getD u5 ([],[])).1) (fun(u4:Nat)=>((aj [] jz (av n f g)).getD u4 ([],[])).2) n f g=d/\(((z=z/\o=o/\0+n<=n)/\(True/\True/\True)/\True)/\n<=1000/\(∀(u3:Nat),u3<n ->(f u3).length<1099511627776)/\(0:Nat)<=(1000:Nat)/\(7:Nat)<=(1000:Nat))/\∀(u2:Nat),(aj [] jz (av n f g)).length<=u2->(((d=d/\0+(aj [] jz (av n f g)).length<=(aj [] jz (av n f g)).length)/\(z=z/\o=o/\0+n<=n)/\True)/\(aj [] jz (av n f g)).length<9223372036854775808) /\dO (aj [] jz (av n f g)).length (fun(u1:Nat)=>((aj [] jz (av n f g)).getD u1 ([],[])).1) (fun(u0:Nat)=>((aj [] jz (av n f g)).getD u0 ([],[])).2) n f g=d/\af (SV.bool d d) (SV.bool j d))/\(xz u21.n u21.f u21.g=j->af (SV.bool d d) (SV.bool j d)))):=⟨by kernel_rfl,by kernel_rfl⟩
theorem Js (n:Nat)(f g:Nat->List UInt8):dO (av n f g).length (λi=>((av n f g).getD i ([],[])).1) (λi=>((av n f g).getD i ([],[])).2) n f g=true:=by unfold dO qE;rw[dr,decide_eq_true rfl,Bool.true_and,List.all_eq_true];intro i hi;have:=vB (f:=f) (g:=g) (List.mem_range.1 hi);simp only[this,decide_true,Bool.and_self]
theorem De (n:Nat)(f g:Nat->List UInt8)(hn:n<9223372036854775808)(z:Bool)(o c:Nat)(key:Option Nat):aB (gD (RF n f g) 7 Tryz.f7 [.bS 0 2 z o 0 n c] [fD z o c n f g key] (.ret (.bool j d))):=by
 refine aB.pr (J8 n f g z o c key) ?_;simp only[Nat.zero_add,Nat.le_refl,true_and,and_true];have T:af (SV.bool d d) (SV.bool j d):=λ_=>rfl;refine⟨⟨n,f,g,z,o,c⟩,hn,⟨rfl,rfl,rfl,rfl⟩,aa.refl _,λhB y hy=> ?_,λ_=>T⟩;have held:=vp hB hy;obtain⟨he,h40⟩:=gF held.m6;obtain⟨b1,b2⟩:=MV held.m6;have eB:aj [] jz (av n f g)=av n f g:=G3 he;have eN:jc [] jz (av n (λi=>ak (f i)) g)=aG (b8 13 (av n (λi=>ak (f i)) g)):=by rw[jQ];exact V0 he
 have hl:=dr n f g;have hs:=Js n f g;have hb:=E7 (fr:=[]) (to:=jz) (jf held.m6) (by rw[dr];exact h40);have l7:jz.length<=1000:=by decide
 have le7:j7 [] jz=true:=by decide
 have hT:dQ (jc [] jz (av n (λi=>ak (f i)) g)).length (λi=>(jc [] jz (av n (λi=>ak (f i)) g)).getD i []) (aG (b8 13 (av n (λi=>ak (f i)) g))).length (λi=>(aG (b8 13 (av n (λi=>ak (f i)) g))).getD i [])=true:=by rw[eN];exact sP.2 ⟨rfl,λ_ _=>rfl⟩
 rw[eB,hl];rw[hl] at hs;refine⟨⟨n,f,g,y,[],jz,aC (fz n f g 0),2000⟩,⟨⟨held,Nat.zero_le _,l7,.inl (rZ n f g)⟩,rZ n f g,le7⟩,rfl,rfl,rfl,rfl,aa.fmap (λ_=>rfl) (λ_=>rfl),mI,λc1 hc1=>⟨hn,decide_eq_true held.m6,λc2 hc2=>⟨⟨held.m6,held.apart,rZ n f g,le7,rfl,λi hi=>rfl,Nat.zero_le _,l7⟩,λc3 hc3=>⟨Nat.lt_of_le_of_lt hb (by decide),hT,hn,hs,⟨b1,b2,Nat.zero_le _,by decide⟩,λc4 hc4=>⟨hn,hs,T⟩⟩⟩⟩⟩
end Go.Proofs.YtoibaecagklkaaaGreatDoor
namespace Go.Proofs.YtoibaecagklkaaaGreatDoor.Sx
open Go Go.RowKit Go.WideShapes Go.ChangeShapes
theorem AO {P:Program}{W:World}{H:Type}{enc:TypeId×Value->H}{e:TypeId}{fs:Array Field}{xs:List Value}{y:DataW H×List MemPlace}{m:Nat}(he:P.underlying e=some (.struct fs))
  (h:DataW.trod enc P W 0 (λ_=>d) d m e xs=some y) {i:Nat} {f:Field} (hf:fs[i]?=some f) (h1:P.cellsOf f.type=1) {x:Value} (hx:xs[f.offset]?=some x) :
  ∃ m' y',DataW.trod enc P W 0 (λ_=>d) d m' f.type [x]=some y':=by
 obtain⟨ys,m',rfl,_,_,hyl,hfield⟩:=DataW.trod_struct he h;have:=hfield i f hf;rw[h1] at this;have hd:(xs.drop f.offset).take 1=[x]:=by rw[List.take_one,List.head?_drop,hx];rfl
 rw[hd,List.getElem?_eq_getElem (by rw[hyl];exact(Array.getElem?_eq_some_iff.1 hf).1)] at this;exact⟨m',_,this⟩
def Stood (W:World)(b:Nat)(B:SB):Prop:=B.no=j->∃ ob,W.heap[b]?=some ob/\∀ E,bz E B ob
end Go.Proofs.YtoibaecagklkaaaGreatDoor.Sx
