/- A part of the proof. -/
import Derived.Test.YtoibaecagklkaaaGreatDoorMz
open Bool renaming false->p,true->j
namespace Go.Proofs.YtoibaecagklkaaaGreatDoor
section
open Go Sx
set_option maxRecDepth 20000
theorem SW (n:Nat)(f g:Nat->f_):bp Tryz.prog (λk=>aD k (WX n f g qQ)):=.cons Po (bO _) (.cons Wi (cz _) (.cons Ga (cz _) (.cons JC (cz _) (.cons Ge (bS _ _) (.cons Ci (bO _) (.cons (Qt n f g) (bS _ _) (.cons aaa (bS _ _) (.cons MJ (bS _ _) (.cons (xX Tw) (qP (bS _ _)) dj)))))))))
theorem adW (n:Nat)(f g:Nat->f_):Sx.Good Tryz.prog (Vj n f g):=.of bR (SW n f g) bq
section
attribute [local irreducible] aK bG getD bH bw af au dL cr Pp.put Pp.ok Pp.fits bt pV
theorem Ea (n:Nat)(f g:Nat->f_)(hn:n<9223372036854775808)(z:Bool)(o c:Nat)(kk:Option Nat)(key to:f_):ay (iX (Vj n f g) 10 Tryz.f10 [.bE 0 2 z o 0 n c,.str p key,.str p to] [iY z o c n f g kk] (.ret (.bool p j))):=by
 refine ay.A5 (Jg n f g z o c kk key to) (by delta Bk Fk;exact rfl) ?_;have T:ah (SV.bool j j) (SV.bool p j):=λ_=>rfl;refine⟨trivial,⟨n,f,g,z,o,c⟩,hn,⟨rfl,rfl,rfl,rfl⟩,aa.refl _,λhB y hy=>⟨λ_=>T,λh6=>⟨λ_=>T,λt6=>⟨λ_=>T,λhle=> ?_⟩⟩⟩,λ_=>T⟩;have h6:=m_ h6;have t6:=m_ t6;have hle:Bo key to=true:=by rw[Bool.not_eq_false'] at hle;exact hle
 have held:=Kg hB hy;have hr:=gQ held.oC;have hk6:key.length<=6:=by omega
 have ht6:to.length<=6:=by omega
 have hkey:key.length<=1000:=by omega
 have hto:to.length<=1000:=by omega
 have eroot:=Qo n f g;obtain⟨b1,b2⟩:=ZQ held.oC;have f0:=D9 held.oC (root:=aK (iK n f g 0)) (key:=key) eroot hk6;have f1:=Jz held.oC (root:=aK (iK n f g 0)) (key:=key) (to:=to) eroot hk6 ht6;have V: ∀ k:Nat,True/\True/\True/\True/\(j=j/\0+k<=k)/\True:=λk=>⟨trivial,trivial,trivial,trivial,⟨rfl,by omega⟩,trivial⟩
 refine⟨⟨n,f,g,y,key,aK (iK n f g 0),2000⟩,⟨held,hkey,eroot⟩,rfl,rfl,rfl,aa.fmap (λ_=>rfl) (λ_=>rfl),GZ,λc1 hc1=>⟨⟨n,f,g,y,key,to,aK (iK n f g 0),2000⟩,⟨⟨held,hkey,hto,.inl eroot⟩,eroot,hle⟩,rfl,rfl,rfl,rfl,aa.fmap (λ_=>rfl) (λ_=>rfl),GZ,λc2 hc2=>⟨⟨⟨V _,trivial⟩,f0⟩,⟨⟨V _,trivial⟩,f1⟩,yJ f0,λq0 hq0 c3 hc3=>⟨yJ f1,λq1 hq1 c4 hc4=> ?_⟩⟩⟩⟩;have own0:=Rx held.oC held.apart eroot hk6 hq0;have own1:=ZT held.oC held.apart eroot hk6 ht6 hle hq1;obtain⟨_,k0,_,key0,to0,_⟩:=xz f0 hq0;obtain⟨_,k1,_,key1,to1,_⟩:=xz f1 hq1;have j0:q0.iM=key:=by unfold Pp.iM;rw[k0,key0];rfl
 have j1:q1.iM=to:=by unfold Pp.iM;rw[k1,to1];rfl
 have has0:qm n f g q0=m4 key (aB n f g):=by unfold qm;rw[k0,key0];rfl
 have has1:qm n f g q1=true:=by unfold qm;rw[k1];rfl
 rw[has0,has1,j0,j1,key0,key1];refine⟨⟨⟨V _,trivial⟩,own0⟩,?_⟩;have eF:Ep n f g key=(ak key key (aB n f g)).head?:=aae;have hb: ∃ v,ak key key (aB n f g)=[(key,v)]∨ak key key (aB n f g)=[]:=by
  obtain⟨yy,q,_,e⟩:=(own0.one (by rw[k0];decide)).res;rw[key0] at e;rw[e];cases dO yy q with
  | true=>exact⟨_,.inl rfl⟩
  | false=>exact⟨[],.inr rfl⟩
 have L:=ZX key to n f g;have hs: ∀(m:Nat) (f g:Nat->f_),iF m f g m f g=true:=λm f g=>by unfold iF E5;rw[n_ rfl,Bool.true_and,List.all_eq_true];intro i _;simp
 have no: ∀ {A B:Prop} {d:Decidable A},A→@decide A d=p->B:=λa h=>absurd a (m_ h);have Vf:((z=z/\o=o/\0+n<=n)/\True/\True)/\n<9223372036854775808:=⟨⟨⟨rfl,rfl,by omega⟩,trivial,trivial⟩,hn⟩
 have Vb:((z=z/\o=o/\0+n<=n)/\(True/\True/\True)/\True)/\n<=1000/\(∀ i,i<n->(f i).length<1099511627776)/\key.length<=1000/\to.length<=1000:=⟨⟨⟨rfl,rfl,by omega⟩,⟨trivial,trivial,trivial⟩,trivial⟩,b1,b2,hkey,hto⟩
 have Ve: ∀ a b:Nat,(j=j/\0+a<=a)/\(j=j/\0+b<=b)/\True:=λa b=>⟨⟨rfl,by omega⟩,⟨rfl,by omega⟩,trivial⟩
 have hL:(ak key to (aB n f g)).length<9223372036854775808:=by omega
 obtain⟨v,hb⟩:=hb;unfold m4 Eo J9;rw[eF];rcases hb with hb | hb
 ·rw[hb];refine⟨λ_ c5 hc5=>⟨⟨⟨V _,trivial⟩,own1⟩,λ_ c6 hc6=>⟨Vf,λ_=>⟨λ_=>⟨⟨by decide,Int.one_pos⟩,Nat.one_pos,λ_=>⟨⟨by decide,Int.one_pos⟩,Nat.one_pos,λ_=>⟨Vb,λc7 hc7=>⟨⟨Ve _ _,hL⟩,hs _ _ _,T⟩⟩,λh=>no rfl h⟩,λh=>no rfl h⟩,λh=>no rfl h⟩,(λh=>by cases h)⟩,(λh=>by cases h)⟩,(λh=>by cases h)⟩
 ·rw[hb];refine⟨(λh=>by cases h),λ_=>⟨⟨⟨V _,trivial⟩,own1⟩,λ_ c6 hc6=>⟨Vf,?_⟩,(λh=>by cases h)⟩⟩;exact⟨(λh=>by cases h),λ_=>⟨Vb,λc7 hc7=>⟨⟨Ve _ _,hL⟩,hs _ _ _,T⟩⟩⟩
end
end
namespace Sx
open Go Go.RowKit Go.WideShapes Go.ChangeShapes
theorem B5 {P:Program}{W:World}{H:Type}{enc:TypeId×Value->H}{e:TypeId}{fs:Array Field}{xs:List Value}{y:DataW H×List MemPlace}{m:Nat}(he:P.underlying e=some (.struct fs))
  (h:DataW.trod enc P W 0 (λ_=>j) j m e xs=some y) {i:Nat} {f:Field} (hf:fs[i]?=some f) (h1:P.cellsOf f.type=1) {x:Value} (hx:xs[f.offset]?=some x) :
  ∃ m' y',DataW.trod enc P W 0 (λ_=>j) j m' f.type [x]=some y':=by
 obtain⟨ys,m',rfl,_,_,hyl,hfield⟩:=DataW.trod_struct he h;have:=hfield i f hf;rw[h1] at this;have hd:(xs.drop f.offset).take 1=[x]:=by rw[List.take_one,List.head?_drop,hx];rfl
 rw[hd,List.getElem?_eq_getElem (by rw[hyl];exact(Array.getElem?_eq_some_iff.1 hf).1)] at this;exact⟨m',_,this⟩
def Stood (W:World)(b:Nat)(B:SB):Prop:=B.no=p->∃ ob,W.heap[b]?=some ob/\∀ E,bK E B ob
end Sx
end Go.Proofs.YtoibaecagklkaaaGreatDoor
