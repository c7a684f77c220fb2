/-
  Conditions that the executor computes, written out by a program (vcgen.py).
-/
import Derived.Test.YtoibaecagklkaaaGreatDoorMw
import Derived.Test.YtoibaecagklkaaaGreatDoorMv
import Derived.Test.YtoibaecagklkaaaGreatDoorMr
import Derived.Test.YtoibaecagklkaaaGreatDoorMj
import Derived.ChangeVars
import Derived.JoinedOf
import Derived.LaidLaws
import Derived.LaidHandle
import Derived.RowKitTokens
import Derived.Handed
namespace Go.Proofs.YtoibaecagklkaaaGreatDoor
open Go Sx
set_option maxRecDepth 20000
theorem LJ (fr to:List UInt8)(n:Nat)(f g:Nat->List UInt8)(z:Bool)(o c:Nat)(key:Option Nat):eT (.n (.s 0 (.n .k (.n .k .t))) (.n (.s 4 (.n (.s 3 (.n .k (.n (.s 0 .k) (.s 0 (.n .k .t))))) (.s 1 (.n .k (.n (.s 0 .k) (.s 0 (.n .k .t))))))) .k)) (gJ (OT fr to n f g) 23 Tryz.f23 [.bP 0 2 z o 0 n c,.agg [.str false fr,.str false to]] [gH z o c n f g key] (Kj (aW fr to (aX n f g)))) (((∃(u7:Nat×Nat),(u7.fst<=n/\(dn fr to n f g u7.fst).length<=u7.snd)/\0=(u7.fst:Int)/\(dn fr to n f g u7.fst).length=0/\(Fs true (dn fr to n f g u7.fst) u7.snd).no=true)/\∀(u6:Nat×Nat),u6.fst<=n/\(dn fr to n f g u6.fst).length<=u6.snd->(decide ((u6.fst:Int)<(n:Int))=true->(0<=(u6.fst:Int)/\(u6.fst:Int)<(n:Int))/\(o=o/\0+(u6.fst:Int).toNat<n)/\(f (0+(u6.fst:Int).toNat)).length<1099511627776/\some (SB.cells [SV.str false fr,SV.str false to] 2 28)=some (SB.cells [SV.str false fr,SV.str false to] 2 28)/\(fr.length<=1000/\to.length<=1000)/\(hasB fr to (az (f (0+(u6.fst:Int).toNat)))=true->(0+(dn fr to n f g u6.fst).length<=(dn fr to n f g u6.fst).length/\True/\2*((dn fr to n f g u6.fst).length+1)*32<=(281474976710656:Nat)/\(dn fr to n f g u6.fst).length+1<(9223372036854775808:Nat))/\∀(u5:Nat),(dn fr to n f g u6.fst).length+1<=u5->((-9223372036854775808:Int)<=(u6.fst:Int)+1/\(u6.fst:Int)+1<=(9223372036854775807:Int))/\∃(u4:Nat×Nat),((u4.fst<=n/\(dn fr to n f g u4.fst).length<=u4.snd)/\n - u4.fst<n - u6.fst) /\(u6.fst:Int)+1=(u4.fst:Int)/\((dn fr to n f g u6.fst).length+1=(dn fr to n f g u4.fst).length/\u5=u4.snd)/\ah (SB.rows true ((dn fr to n f g u6.fst).length+1) [au.str fun(u3:Nat)=>if u3<(dn fr to n f g u6.fst).length then((dn fr to n f g u6.fst).getD u3 ([],[])).fst else bq [f (0+(u6.fst:Int).toNat)] (u3 - (dn fr to n f g u6.fst).length),au.str fun(u2:Nat)=>if u2<(dn fr to n f g u6.fst).length then((dn fr to n f g u6.fst).getD u2 ([],[])).snd else bq [g (0+(u6.fst:Int).toNat)] (u2 - (dn fr to n f g u6.fst).length)] false (u5*2) 50) (SB.rows true (dn fr to n f g u4.fst).length [b8 (dn fr to n f g u4.fst),b6 (dn fr to n f g u4.fst)] false (u4.snd*2) 50))/\(hasB fr to (az (f (0+(u6.fst:Int).toNat)))=false->((-9223372036854775808:Int)<=(u6.fst:Int)+1/\(u6.fst:Int)+1<=(9223372036854775807:Int))/\∃(u1:Nat×Nat),((u1.fst<=n/\(dn fr to n f g u1.fst).length<=u1.snd)/\n - u1.fst<n - u6.fst)/\(u6.fst:Int)+1=(u1.fst:Int)/\((dn fr to n f g u6.fst).length=(dn fr to n f g u1.fst).length/\u6.snd=u1.snd) /\ah (SB.rows true (dn fr to n f g u6.fst).length [b8 (dn fr to n f g u6.fst),b6 (dn fr to n f g u6.fst)] false (u6.snd*2) 50) (SB.rows true (dn fr to n f g u1.fst).length [b8 (dn fr to n f g u1.fst),b6 (dn fr to n f g u1.fst)] false (u1.snd*2) 50)))/\(decide ((u6.fst:Int)<(n:Int))=false->∃(u0:Nat),(aW fr to (aX n f g)).length<=u0/\ah (SB.rows true (dn fr to n f g u6.fst).length [b8 (dn fr to n f g u6.fst),b6 (dn fr to n f g u6.fst)] false (u6.snd*2) 50) (SB.rows true (aW fr to (aX n f g)).length [b8 (aW fr to (aX n f g)),b6 (aW fr to (aX n f g))] false (u0*2) 50)/\af (SV.bw ((1:Nat)+(1:Nat)) 2 true 0 (dn fr to n f g u6.fst).length u6.snd) (SV.bw ((1:Nat)+(1:Nat)) 2 true 0 (aW fr to (aX n f g)).length u0)))):=⟨by kernel_rfl,by kernel_rfl⟩
theorem Wi (n:Nat)(f g:Nat->List UInt8)(z:Bool)(o c:Nat)(key:Option Nat):eT (.s 3 (.n (.s 0 .k) .k)) (gJ Ou 21 Tryz.f21 [.bP 0 2 z o 0 n c] [gH z o c n f g key] (JA n f g)) (((((z=z/\o=o/\0+n<=n)/\True)/\n<9223372036854775808)/\((!decide (bY n f g=0))=true->((!decide (bY n f g=0))=true->(decide (bY n f g=0)=true->af (SV.aL [SV.str true [],SV.int .i64 false (bY n f g)]) (SV.aL [SV.str false (b9 n f g),SV.int .i64 true 0]))/\(decide (bY n f g=0)=false->(decide (bY n f g=1)=true->af (SV.aL [SV.str true [],SV.int .i64 false (bY n f g)]) (SV.aL [SV.str true [],SV.int .i64 true 1]))/\(decide (bY n f g=1)=false->af (SV.aL [SV.str true [],SV.int .i64 false (bY n f g)]) (SV.aL [SV.str true [],SV.int .i64 true 12]))))/\((!decide (bY n f g=0))=false->(True/\Gq [[]])/\(decide (bY n f g=0)=true->af (SV.aL [Rf [[]],SV.int .i64 true 0]) (SV.aL [SV.str false (b9 n f g),SV.int .i64 true 0]))/\(decide (bY n f g=0)=false->(decide (bY n f g=1)=true->af (SV.aL [Rf [[]],SV.int .i64 true 0]) (SV.aL [SV.str true [],SV.int .i64 true 1]))/\(decide (bY n f g=1)=false->af (SV.aL [Rf [[]],SV.int .i64 true 0]) (SV.aL [SV.str true [],SV.int .i64 true 12])))))/\((!decide (bY n f g=0))=false->(((z=z /\o=o/\0+n<=n)/\True)/\n<=1000/\∀(u8:Nat),u8<n->(f u8).length<1099511627776)/\∀(u7:Nat),(aX n (fun(u6:Nat)=>az (f u6)) g).length<=u7->∃(u5:List Rw×Nat),(cW 13 u5.fst/\u5.fst.length<=1000/\(13:Nat)<=(13:Nat))/\((aX n (fun(u4:Nat)=>az (f u4)) g).length=u5.fst.length/\u7=u5.snd)/\ah (SB.rows false (aX n (fun(u3:Nat)=>az (f u3)) g).length [b8 (aX n (fun(u2:Nat)=>az (f u2)) g),b6 (aX n (fun(u1:Nat)=>az (f u1)) g)] false (u7*2) 174) (SB.rows false u5.fst.length [b8 u5.fst,b6 u5.fst] true (u5.snd*2) 174)/\∀(u0:Nat×Pd),Told u0.snd 14 u0.fst (dH 13 u5.fst)->u0.snd.D u0.fst=true/\(True/\Gq [u0.snd.iF u0.fst])/\(decide (bY n f g=0)=true->af (SV.aL [Rf [u0.snd.iF u0.fst],SV.int .i64 true 0]) (SV.aL [SV.str false (b9 n f g),SV.int .i64 true 0]))/\(decide (bY n f g=0)=false->(decide (bY n f g=1)=true->af (SV.aL [Rf [u0.snd.iF u0.fst],SV.int .i64 true 0]) (SV.aL [SV.str true [],SV.int .i64 true 1]))/\(decide (bY n f g=1)=false ->af (SV.aL [Rf [u0.snd.iF u0.fst],SV.int .i64 true 0]) (SV.aL [SV.str true [],SV.int .i64 true 12])))))):=⟨by kernel_rfl,by kernel_rfl⟩
theorem BE {n:Nat}{f g:Nat->List UInt8}{i:Nat}(hi:i<n):(aX n f g).take (i+1)=(aX n f g).take i++[(f i,g i)]:=by
 have hl:=eZ n f g
 rw[vf (by omega)]
 rw[zW hi]
theorem TF {fr to:List UInt8}{n:Nat}{f g:Nat->List UInt8}{i:Nat}(hi:i<n)(h:hasB fr to (az (f i))=true):dn fr to n f g (i+1)=dn fr to n f g i++[(f i,g i)]:=by
 unfold dn aW
 rw[BE hi,List.filter_append];congr 1
 rw[List.filter_cons,h];rfl
theorem Vo {fr to:List UInt8}{n:Nat}{f g:Nat->List UInt8}{i:Nat}(hi:i<n)(h:hasB fr to (az (f i))=false):dn fr to n f g (i+1)=dn fr to n f g i:=by
 unfold dn aW
 rw[BE hi,List.filter_append,List.filter_cons,h];simp
theorem RD (fr to:List UInt8)(n:Nat)(f g:Nat->List UInt8)(i:Nat):(dn fr to n f g i).length<=n:=by
 have h1:=List.length_filter_le (fun e:List UInt8×List UInt8=>hasB fr to (az e.1)) ((aX n f g).take i)
 have h2:((aX n f g).take i).length<=(aX n f g).length:=by rw[List.length_take];omega
 rw[eZ] at h2
 unfold dn aW;omega
theorem SW (fr to:List UInt8)(n:Nat)(f g:Nat->List UInt8)(i:Nat)(hi:n<=i):dn fr to n f g i=aW fr to (aX n f g):=by
 unfold dn;rw[List.take_of_length_le (by rw[eZ];exact hi)]
theorem GU {z:Bool}{l l':List Rw}{c c':Nat}(h:l=l')(hc:c=c'):ah (Fs z l c) (Fs z l' c'):=by
 subst h;subst hc;exact ah.refl _
theorem Nu {l l':List Rw}{a b:List UInt8}{c c':Nat}{ty:TypeId}(h:l'=l++[(a,b)])(hc:c=c'):ah (.rows true (l.length+1) [.str fun j=>if j<l.length then(l.getD j ([],[])).1 else bq [a] (j - l.length),.str fun j=>if j<l.length then(l.getD j ([],[])).2 else bq [b] (j - l.length)] false (c*2) ty) (.rows true l'.length [b8 l',b6 l'] false (c'*2) ty):=by
 subst h;subst hc;exact JP (r:=(a,b))
theorem Ax (fr to:List UInt8)(n:Nat)(f g:Nat->List UInt8)(hn:n<=1000)(hf: ∀ i,i<n->(f i).length<1099511627776)(hr:fr.length<=1000)(ht:to.length<=1000)(z:Bool)(o c:Nat)(key:Option Nat):aA (gJ (OT fr to n f g) 23 Tryz.f23 [.bP 0 2 z o 0 n c,.agg [.str false fr,.str false to]] [gH z o c n f g key] (Kj (aW fr to (aX n f g)))):=by
 refine aA.pr (LJ fr to n f g z o c key) ?_
 simp only[Int.toNat_natCast,Nat.zero_add,Nat.le_refl,true_and,decide_eq_true_eq,decide_eq_false_iff_not]
 refine⟨⟨(0,0),⟨Nat.zero_le _,Nat.le_refl _⟩,rfl,rfl,rfl⟩,fun x ⟨h1,h2⟩=>⟨fun h=> ?_,fun h=> ?_⟩⟩
 ·obtain⟨i,c⟩:=x
  have hlt:i<n:=by omega
  have hl:(dn fr to n f g (i,c).fst).length<=n:=RD fr to n f g i
  have hlt:(i,c).fst<n:=hlt
  refine⟨by omega,hlt,hf i hlt,⟨hr,ht⟩,fun hb=>⟨⟨by omega,by omega⟩,fun c' hc'=>⟨⟨by omega,by omega⟩,(i+1,c'),?_⟩⟩,fun hb=>⟨⟨by omega,by omega⟩,(i+1,c),?_⟩⟩
  ·have e:=TF (g:=g) hlt hb
   have el:(dn fr to n f g (i+1)).length=(dn fr to n f g i).length+1:=by rw[e,List.length_append];rfl
   exact⟨⟨⟨by omega,by show _<=c';rw[el];exact hc'⟩,by show n - (i+1)<n - i;omega⟩,by show(i:Int)+1=((i+1:Nat):Int);omega,⟨el.symm,rfl⟩,Nu e rfl⟩
  ·have e:=Vo (g:=g) hlt hb
   exact⟨⟨⟨by omega,by show(dn fr to n f g (i+1)).length<=c;rw[e];exact h2⟩,by show n - (i+1)<n - i;omega⟩,by show(i:Int)+1=((i+1:Nat):Int);omega,⟨congrArg List.length e.symm,rfl⟩,GU (z:=true) e.symm rfl⟩
 ·obtain⟨i,c⟩:=x
  have e:=SW fr to n f g i (by omega)
  exact⟨c,by rw[← e];exact h2,GU (z:=true) e rfl,uP rfl (congrArg List.length e) rfl⟩
theorem Qp (l:List Rw):(Kj l).Ok:=fun _=>⟨rfl,rfl,fun k=>by
 show Nat.blt k (k+1)=true
 rw[Nat.blt_eq];omega,fun E E' k k' h=>by
 cases l with
 | nil=>rfl
 | cons a r =>
   show(SV.bw k 2 true 0 (a::r).length _).val E=(SV.bw k' 2 true 0 (a::r).length _).val E'
   have:=h (SB.ic (i:=0) (Nat.succ_pos _))
   simp only[SV.val]
   rw[this]⟩
def Va:List vv:=[.of (.slice dE),.agg [.one,.one]]
def wR (vs:List SV)(l:List Seen):Option (Prop×c6):=match vs,l with
 | [_,.agg [.str false fr,.str false to]],[⟨_,_,_,n,_,[.str f,.str g]⟩]=>some (n<=1000/\(∀ i,i<n->(f i).length<1099511627776)/\fr.length<=1000/\to.length<=1000,Kj (aW fr to (aX n f g)))
 | _,_=>none
theorem xX:aB Tryz.prog 23 (cr Va wR):=by
 refine fD (n:=20) (fn:=Tryz.f23) Tryz.func23 (by kernel_rfl) (by kernel_rfl) ?_
 intro vs l q a h hq
 unfold wR at h
 split at h
 ·rename_i v fr to key z o n c f g
  injection h with h;injection h with h1 h2;subst h1;subst h2
  exact⟨_,U1 fr to n f g,rfl,Qp _,Ax fr to n f g hq.1 hq.2.1 hq.2.2.1 hq.2.2.2 z o c key⟩
 ·cases h
theorem wq {l:List Rw}(h:cW 13 l):(ctext 13 l).length<=700:=by
 cases l with
 | nil=>show(cu eN).length<=700;decide +kernel
 | cons r l=>exact jM (Nat.le_refl _) h (List.cons_ne_nil _ _)
theorem ID (n:Nat)(f g:Nat->List UInt8)(hn:n<9223372036854775808)(z:Bool)(o c:Nat)(key:Option Nat):aA (gJ Ou 21 Tryz.f21 [.bP 0 2 z o 0 n c] [gH z o c n f g key] (JA n f g)):=by
 refine aA.pr (Wi n f g z o c key) ?_
 simp only[Nat.zero_add,Nat.le_refl,true_and,and_true,Bool.not_eq_true',Bool.not_eq_false',decide_eq_true_eq,decide_eq_false_iff_not]
 refine⟨hn,fun h=>⟨fun _=>⟨fun h'=>absurd h' h,fun _=>⟨fun e=>xg e,fun e=>xg (NS h e)⟩⟩,fun h'=>absurd h' h⟩,fun h=> ?_⟩
 obtain⟨he,h40⟩:=kj h
 have hro:=yd h
 have hl:=eZ n (fun i=>az (f i)) g
 refine⟨⟨by omega,fun i hi=> ?_⟩,fun c hc=>⟨(aX n (fun i=>az (f i)) g,c),⟨hro,by rw[hl];omega⟩,⟨rfl,rfl⟩,qz,fun x hx=> ?_⟩⟩
 ·have:=(he.key (f i,g i) (by unfold aX;exact List.mem_map.2 ⟨i,List.mem_range.2 hi,rfl⟩)).2
  have:(f i).length<=6:=this
  omega
 ·obtain⟨_,_,hb3,hb4⟩:=xD hx
  have ht:x.2.iF x.1=ctext 13 (aX n (fun i=>az (f i)) g):=by injection hb3 with e _;exact e.symm
  rw[ht]
  have h7:(ctext 13 (aX n (fun i=>az (f i)) g)).length<=700:=wq hro
  have ef:flat [ctext 13 (aX n (fun i=>az (f i)) g)]=ctext 13 (aX n (fun i=>az (f i)) g):=by unfold flat;simp
  refine⟨hb4,⟨by rw[ef];omega,by show 1<_;decide⟩,fun _=> ?_,fun h'=>absurd h h'⟩
  intro E
  unfold Rf b9
  rw[ef]
noncomputable def yf (vs:List SV)(l:List Seen):Option (Prop×c6):=match vs,l with
 | [_],[⟨_,_,_,n,_,[.str f,.str g]⟩]=>some (n<9223372036854775808,JA n f g)
 | _,_=>none
theorem Ns (n:Nat)(f g:Nat->List UInt8):(JA n f g).Ok:=fun b=>by
 cases b with
 | true=>rfl
 | false=>intro b;cases b<;>rfl
theorem SA:aB Tryz.prog 21 (cr RA yf):=by
 refine fD (n:=20) (fn:=Tryz.f21) Tryz.func21 (by kernel_rfl) (by kernel_rfl) ?_
 intro vs l q a h hq
 unfold yf at h
 split at h
 ·rename_i v key z o n c f g
  injection h with h;injection h with h1 h2;subst h1;subst h2
  exact⟨_,Wd,rfl,Ns n f g,ID n f g hq z o c key⟩
 ·cases h
def uu (vs:List SV)(l:List Seen):Option (Prop×c6):=match vs,l with
 | [_],[⟨_,_,_,n,_,[.str f,.str g]⟩]=>some (n<9223372036854775808,D5 n f g)
 | _,_=>none
theorem MQ (n:Nat)(f g:Nat->List UInt8):(D5 n f g).Ok:=fun b=>by
 cases b with
 | false=>intro b;cases b<;>rfl
 | true =>
   intro c
   refine⟨rfl,rfl,fun k=>by simp[SV.wf,SV.ep,Nat.blt_eq],fun E E' k k' h=> ?_⟩
   simp only[SV.val,SV.vals]
   cases e:aK (dH 13 (aX n (fun i=>az (f i)) g))with
   | nil=>rfl
   | cons a r=>rw[h (by rw[e];exact SB.ic (i:=0) (Nat.succ_pos _))]
theorem Pb:aB Tryz.prog 26 (cr RA uu):=by
 refine fD (n:=20) (fn:=Tryz.f26) Tryz.func26 (by kernel_rfl) (by kernel_rfl) ?_
 intro vs l q a h hq
 unfold uu at h
 split at h
 ·rename_i v key z o n c f g
  injection h with h;injection h with h1 h2;subst h1;subst h2
  exact⟨_,VT,rfl,MQ n f g,Gb n f g hq z o c key⟩
 ·cases h
def qG (f g f' g':Nat->List UInt8)(i:Nat):Bool:=decide (f i=f' i)&&decide (g i=g' i)
def dz (n:Nat)(f g:Nat->List UInt8)(n':Nat)(f' g':Nat->List UInt8):Bool:=decide ((n:Int)=(n':Int))&&(List.range n).all (qG f g f' g')
def XL:List au:=[.str fun _=>[],.str fun _=>[]]
def Tg:List vv:=[.of (.slice XL),.of (.slice XL)]
def mo (z:Bool)(o c n:Nat)(f g:Nat->List UInt8)(key:Option Nat):Seen:=⟨key,z,o,n,c,[.str f,.str g]⟩
noncomputable def IM (n:Nat)(f g f' g':Nat->List UInt8):ff:={cg with cI:=fun f=>aG f e8,br:=fun h=>if h=17 then [(4,always (D3 5 n (qG f g f' g')))] else []}
theorem TJ (n:Nat)(f g f' g':Nat->List UInt8):Sx.Good Tryz.prog (IM n f g f' g'):=.of bS di bt
noncomputable def IK (n:Nat)(f g f' g':Nat->List UInt8):ff:={cg with cI:=fun f=>aG f e8,br:=fun h=>if h=57 then [(4,always (D3 13 n (qG f g f' g')))] else []}
theorem S3 (n:Nat)(f g f' g':Nat->List UInt8):Sx.Good Tryz.prog (IK n f g f' g'):=.of bS di bt
theorem Nb (n n':Nat)(f g f' g':Nat->List UInt8)(z z':Bool)(o c o' c':Nat)(key key':Option Nat):eT (.s 0 (.n (.s 0 (.n .k .t)) (.n (.s 6 (.n .k .t)) .t))) (gJ (IM n f g f' g') 17 Tryz.f17 [.bP 0 2 z o 0 n c,.bP 1 2 z' o' 0 n' c'] [mo z o c n f g key,mo z' o' c' n' f' g' key'] (.ret (.bool false (dz n f g n' f' g')))) ((((!decide ((n:Int)=(n':Int)))=true->af (SV.bool true false) (SV.bool false (dz n f g n' f' g')))/\((!decide ((n:Int)=(n':Int)))=false->(∃(u2:Nat),tG n (qG f g f' g') u2/\0=(u2:Int))/\∀(u1:Nat),tG n (qG f g f' g') u1->(decide ((u1:Int)<(n:Int))=true->(0<=(u1:Int)/\(u1:Int)<(n:Int))/\(o=o/\0+(u1:Int).toNat<n)/\(0<=(u1:Int)/\(u1:Int)<(n':Int))/\(o'=o'/\0+(u1:Int).toNat<n')/\((!(decide (f (0+(u1:Int).toNat)=f' (0+(u1:Int).toNat))&&(decide (g (0+(u1:Int).toNat)=g' (0+(u1:Int).toNat))&&true)))=true->af (SV.bool true false) (SV.bool false (dz n f g n' f' g')))/\((!(decide (f (0+(u1:Int).toNat)=f' (0+(u1:Int).toNat))&&(decide (g (0+(u1:Int).toNat)=g' (0+(u1:Int).toNat))&&true)))=false->((-9223372036854775808:Int)<=(u1:Int)+1/\(u1:Int)+1<=(9223372036854775807:Int))/\∃(u0:Nat),(tG n (qG f g f' g') u0/\n - u0<n - u1)/\(u1:Int)+1=(u0:Int)))/\(decide ((u1:Int)<(n:Int))=false->af (SV.bool true true) (SV.bool false (dz n f g n' f' g')))))):=⟨by kernel_rfl,by kernel_rfl⟩
theorem KQ (n n':Nat)(f g f' g':Nat->List UInt8)(z z':Bool)(o c o' c':Nat)(key key':Option Nat):eT (.s 0 (.n (.s 0 (.n .k .t)) (.n (.s 6 (.n .k .t)) .t))) (gJ (IK n f g f' g') 57 Tryz.f57 [.bP 0 2 z o 0 n c,.bP 1 2 z' o' 0 n' c'] [mo z o c n f g key,mo z' o' c' n' f' g' key'] (.ret (.bool false (dz n f g n' f' g')))) ((((!decide ((n:Int)=(n':Int)))=true->af (SV.bool true false) (SV.bool false (dz n f g n' f' g')))/\((!decide ((n:Int)=(n':Int)))=false->(∃(u2:Nat),tG n (qG f g f' g') u2/\0=(u2:Int))/\∀(u1:Nat),tG n (qG f g f' g') u1->(decide ((u1:Int)<(n:Int))=true->(0<=(u1:Int)/\(u1:Int)<(n:Int))/\(o=o/\0+(u1:Int).toNat<n)/\(0<=(u1:Int)/\(u1:Int)<(n':Int))/\(o'=o'/\0+(u1:Int).toNat<n')/\((!(decide (f (0+(u1:Int).toNat)=f' (0+(u1:Int).toNat))&&(decide (g (0+(u1:Int).toNat)=g' (0+(u1:Int).toNat))&&true)))=true->af (SV.bool true false) (SV.bool false (dz n f g n' f' g')))/\((!(decide (f (0+(u1:Int).toNat)=f' (0+(u1:Int).toNat))&&(decide (g (0+(u1:Int).toNat)=g' (0+(u1:Int).toNat))&&true)))=false->((-9223372036854775808:Int)<=(u1:Int)+1/\(u1:Int)+1<=(9223372036854775807:Int))/\∃(u0:Nat),(tG n (qG f g f' g') u0/\n - u0<n - u1)/\(u1:Int)+1=(u0:Int)))/\(decide ((u1:Int)<(n:Int))=false->af (SV.bool true true) (SV.bool false (dz n f g n' f' g')))))):=⟨by kernel_rfl,by kernel_rfl⟩
theorem Ws {a b:Bool}(h:(!(a&&(b&&true)))=false):(a&&b)=true:=by revert h;cases a<;>cases b<;>decide
theorem W6 {a b:Bool}(h:(!(a&&(b&&true)))=true):(a&&b)=false:=by revert h;cases a<;>cases b<;>decide
def iV (vs:List SV)(l:List Seen):Option (Prop×c6):=match vs,l with
 | [_,_],[⟨_,_,_,n,_,[.str f,.str g]⟩,⟨_,_,_,n',_,[.str f',.str g']⟩]=>some (n<9223372036854775808,.ret (.bool false (dz n f g n' f' g')))
 | _,_=>none
theorem Ea {n n':Nat}{f g f' g':Nat->List UInt8}(hn:n<9223372036854775808)(z z':Bool)(o c o' c':Nat)(key key':Option Nat):aA (gJ (IM n f g f' g') 17 Tryz.f17 [.bP 0 2 z o 0 n c,.bP 1 2 z' o' 0 n' c'] [mo z o c n f g key,mo z' o' c' n' f' g' key'] (.ret (.bool false (dz n f g n' f' g')))):=by
 refine aA.pr (Nb n n' f g f' g' z z' o c o' c' key key') ?_
 simp only[Int.toNat_natCast,Nat.zero_add,true_and]
 refine⟨fun h=>dU (by rw[dz,Sa h];rfl),fun h=>⟨⟨0,⟨Nat.zero_le _,fun j hj=>absurd hj (Nat.not_lt_zero _)⟩,rfl⟩,fun i hi=>⟨fun a=> ?_,fun a=> ?_⟩⟩⟩
 ·have a:(i:Int)<(n:Int):=of_decide_eq_true a
  have e:(n:Int)=(n':Int):=SZ h
  refine⟨by omega,by omega,by omega,by omega,fun b=> ?_,fun b=>⟨by omega,i+1,⟨qB hi a (Ws b),by omega⟩,by omega⟩⟩
  exact dU (by rw[dz,p7 a (W6 b),Bool.and_false])
 ·have a: ¬ (i:Int)<(n:Int):=of_decide_eq_false a
  exact dU (by rw[dz,sE hi a,S4 h];rfl)
theorem LR:aB Tryz.prog 17 (cr Tg iV):=by
 refine fD (n:=20) (fn:=Tryz.f17) Tryz.func17 (by kernel_rfl) (by kernel_rfl) ?_
 intro vs l q a h hq
 unfold iV at h
 split at h
 ·rename_i v v' key z o n c f g key' z' o' n' c' f' g'
  injection h with h;injection h with h1 h2;subst h1;subst h2
  exact⟨_,TJ n f g f' g',rfl,rfl,Ea hq z z' o c o' c' key key'⟩
 ·cases h
theorem AH {n n':Nat}{f g f' g':Nat->List UInt8}(hn:n<9223372036854775808)(z z':Bool)(o c o' c':Nat)(key key':Option Nat):aA (gJ (IK n f g f' g') 57 Tryz.f57 [.bP 0 2 z o 0 n c,.bP 1 2 z' o' 0 n' c'] [mo z o c n f g key,mo z' o' c' n' f' g' key'] (.ret (.bool false (dz n f g n' f' g')))):=by
 refine aA.pr (KQ n n' f g f' g' z z' o c o' c' key key') ?_
 simp only[Int.toNat_natCast,Nat.zero_add,true_and]
 refine⟨fun h=>dU (by rw[dz,Sa h];rfl),fun h=>⟨⟨0,⟨Nat.zero_le _,fun j hj=>absurd hj (Nat.not_lt_zero _)⟩,rfl⟩,fun i hi=>⟨fun a=> ?_,fun a=> ?_⟩⟩⟩
 ·have a:(i:Int)<(n:Int):=of_decide_eq_true a
  have e:(n:Int)=(n':Int):=SZ h
  refine⟨by omega,by omega,by omega,by omega,fun b=> ?_,fun b=>⟨by omega,i+1,⟨qB hi a (Ws b),by omega⟩,by omega⟩⟩
  exact dU (by rw[dz,p7 a (W6 b),Bool.and_false])
 ·have a: ¬ (i:Int)<(n:Int):=of_decide_eq_false a
  exact dU (by rw[dz,sE hi a,S4 h];rfl)
theorem Jp:aB Tryz.prog 57 (cr Tg iV):=by
 refine fD (n:=20) (fn:=Tryz.f57) Tryz.func57 (by kernel_rfl) (by kernel_rfl) ?_
 intro vs l q a h hq
 unfold iV at h
 split at h
 ·rename_i v v' key z o n c f g key' z' o' n' c' f' g'
  injection h with h;injection h with h1 h2;subst h1;subst h2
  exact⟨_,S3 n f g f' g',rfl,rfl,AH hq z z' o c o' c' key key'⟩
 ·cases h
structure Xr where
 n:Nat
 f:Nat->List UInt8
 g:Nat->List UInt8
 z:Bool
 o:Nat
 c:Nat
 fr:List UInt8
 to:List UInt8
 m:Nat
 h:Nat->List UInt8
 z':Bool
 o':Nat
 c':Nat
def Xr.sp (x:Xr):Sp:=⟨x.fr,x.to,x.m,x.h,x.z',x.o',x.c',fun _=>false,fun _=>0⟩
noncomputable def Xr.U (x:Xr):List (List UInt8):=aK (dH 13 (aX x.n (fun i=>az (x.f i)) x.g))
def Xr.Uq (x:Xr):List Rw:=aW x.fr x.to (aX x.n x.f x.g)
noncomputable def Xr.told (x:Xr):List Rw:=i5 (b9 x.n x.f x.g) x.sp
noncomputable def Xr.E7 (x:Xr)(s:List UInt8)(j:Nat):Bool:=!cm s (x.U.getD j [])
noncomputable def Xr.free (x:Xr)(i:Nat):Bool:=(List.range x.U.length).all (x.E7 (x.h i))
noncomputable def Xr.ask (x:Xr):Bool:=decide (bY x.n x.f x.g=0)&&((cw (b9 x.n x.f x.g) x.sp).isSome&& !decide (x.told=x.Uq))
noncomputable def Xr.hit (x:Xr):Bool:=x.ask&& !(List.range x.m).all x.free
noncomputable def Xo (x:Xr):c6:=.fork x.hit fun b=>match b with
 | true=>.all (List UInt8×List UInt8) fun p=>.req (cm p.1 p.2=true/\(p.1.length<=1000/\p.2.length<=1000)) (.ret (.aL [.str false p.1,.str false p.2,.bool true true]))
 | false=>.ret (.aL [.str true [],.str true [],.bool true false])
noncomputable def WK (x:Xr):sj:=[(11,always (zE 49 x.m x.free)),(14,fun st=>match slot st.tmps 14 with
 | some (.str _ s)=>some (one (zE 55 x.U.length (x.E7 s)))
 | _=>none)]
noncomputable def He:List (FuncId×PT):=(21,cr RA yf)::(14,cr SQ pU)::(23,cr Va wR)::(57,cr Tg iV)::(26,cr RA uu)::(24,aU lq)::jA
theorem Ba:bl Tryz.prog (fun f=>aG f He):=.cons SA (cG _ _) (.cons Fa (cG _ _) (.cons xX (cG _ _) (.cons Jp (cG _ _) (.cons Pb (cG _ _) (.cons x6 (aN _) eG)))))
noncomputable def Ql (x:Xr):ff:={cg with cI:=fun f=>aG f He,br:=fun h=>if h=22 then WK x else []}
theorem V4 (x:Xr):Sx.Good Tryz.prog (Ql x):=.of bS Ba bt
def Xr.args (x:Xr):List SV:=[.bP 0 2 x.z x.o 0 x.n x.c,.agg [.str false x.fr,.str false x.to],.bP 1 1 x.z' x.o' 0 x.m x.c']
def Xr.seen (x:Xr)(k k':Option Nat):List Seen:=[gH x.z x.o x.c x.n x.f x.g k,⟨k',x.z',x.o',x.m,x.c',[.str x.h]⟩]
theorem MD (x:Xr)(k k':Option Nat):eT (.s 0 (.n (.s 0 (.n (.s 3 (.n (.n (.s 0 (.n .k .t)) (.n (.s 1 (.n (.s 0 (.n .k .t)) (.n (.s 5 (.n .k .t)) (.s 1 (.n .k .t))))) .t)) .t)) .t)) .t)) (gJ (Ql x) 22 Tryz.f22 x.args (x.seen k k') (Xo x)) ((fun P0:SV=>(((((x.z=x.z/\x.o=x.o/\0+x.n<=x.n)/\True)/\x.n<9223372036854775808)/\(decide (bY x.n x.f x.g=0)=true->((True/\(True/\True/\True)/\(x.z'=x.z'/\x.o'=x.o'/\0+x.m<=x.m)/\True)/\{fr:=x.fr,to:=x.to,n:=x.m,f:=x.h,z:=x.z',o:=x.o'+0,c:=x.c',ad:=fun(_u63:List UInt8)=>false,ag:=fun(_u62:List UInt8)=>(0:Int):Sp}.mQ)/\((cw (b9 x.n x.f x.g) {fr:=x.fr,to:=x.to,n:=x.m,f:=x.h,z:=x.z',o:=x.o'+0,c:=x.c',ad:=fun(_u61:List UInt8)=>false,ag:=fun(_u60:List UInt8)=>(0:Int):Sp}).isSome=true->∀(u59:Nat),(i5 (b9 x.n x.f x.g) {fr:=x.fr,to:=x.to,n:=x.m,f:=x.h,z:=x.z',o:=x.o'+0,c:=x.c',ad:=fun(_u58:List UInt8)=>false,ag:=fun(_u57:List UInt8)=>(0:Int):Sp}).length<=u59->(((x.z=x.z/\x.o=x.o/\0+x.n<=x.n)/\(True/\True/\True)/\True)/\x.n<=1000/\(∀(u56:Nat),u56<x.n->(x.f u56).length<1099511627776)/\x.fr.length<=1000/\x.to.length<=1000)/\∀(u55:Nat),(aW x.fr x.to (aX x.n x.f x.g)).length<=u55->(((true=true /\0+(i5 (b9 x.n x.f x.g) {fr:=x.fr,to:=x.to,n:=x.m,f:=x.h,z:=x.z',o:=x.o'+0,c:=x.c',ad:=fun(_u54:List UInt8)=>false,ag:=fun(_u53:List UInt8)=>(0:Int):Sp}).length<=(i5 (b9 x.n x.f x.g) {fr:=x.fr,to:=x.to,n:=x.m,f:=x.h,z:=x.z',o:=x.o'+0,c:=x.c',ad:=fun(_u52:List UInt8)=>false,ag:=fun(_u51:List UInt8)=>(0:Int):Sp}).length)/\(true=true/\0+(aW x.fr x.to (aX x.n x.f x.g)).length<=(aW x.fr x.to (aX x.n x.f x.g)).length)/\True)/\(i5 (b9 x.n x.f x.g) {fr:=x.fr,to:=x.to,n:=x.m,f:=x.h,z:=x.z',o:=x.o'+0,c:=x.c',ad:=fun(_u50:List UInt8)=>false,ag:=fun(_u49:List UInt8)=>(0:Int):Sp}).length<9223372036854775808) /\((dz (i5 (b9 x.n x.f x.g) {fr:=x.fr,to:=x.to,n:=x.m,f:=x.h,z:=x.z',o:=x.o'+0,c:=x.c',ad:=fun(_u48:List UInt8)=>false,ag:=fun(_u47:List UInt8)=>(0:Int):Sp}).length (fun(u46:Nat)=>((i5 (b9 x.n x.f x.g) {fr:=x.fr,to:=x.to,n:=x.m,f:=x.h,z:=x.z',o:=x.o'+0,c:=x.c',ad:=fun(_u45:List UInt8)=>false,ag:=fun(_u44:List UInt8)=>(0:Int):Sp}).getD u46 ([],[])).fst) (fun(u43:Nat)=>((i5 (b9 x.n x.f x.g) {fr:=x.fr,to:=x.to,n:=x.m,f:=x.h,z:=x.z',o:=x.o'+0,c:=x.c',ad:=fun(_u42:List UInt8)=>false,ag:=fun(_u41:List UInt8)=>(0:Int):Sp}).getD u43 ([],[])).snd) (aW x.fr x.to (aX x.n x.f x.g)).length (fun(u40:Nat)=>((aW x.fr x.to (aX x.n x.f x.g)).getD u40 ([],[])).fst) fun(u39:Nat)=>((aW x.fr x.to (aX x.n x.f x.g)).getD u39 ([],[])).snd)=true->(x.hit=true->∃(u38:List UInt8×List UInt8),(cm u38.fst u38.snd=true/\u38.fst.length<=1000/\u38.snd.length<=1000)/\af P0 (SV.aL [SV.str false u38.fst,SV.str false u38.snd,SV.bool true true]))/\(x.hit=false->af P0 P0)) /\((dz (i5 (b9 x.n x.f x.g) {fr:=x.fr,to:=x.to,n:=x.m,f:=x.h,z:=x.z',o:=x.o'+0,c:=x.c',ad:=fun(_u37:List UInt8)=>false,ag:=fun(_u36:List UInt8)=>(0:Int):Sp}).length (fun(u35:Nat)=>((i5 (b9 x.n x.f x.g) {fr:=x.fr,to:=x.to,n:=x.m,f:=x.h,z:=x.z',o:=x.o'+0,c:=x.c',ad:=fun(_u34:List UInt8)=>false,ag:=fun(_u33:List UInt8)=>(0:Int):Sp}).getD u35 ([],[])).fst) (fun(u32:Nat)=>((i5 (b9 x.n x.f x.g) {fr:=x.fr,to:=x.to,n:=x.m,f:=x.h,z:=x.z',o:=x.o'+0,c:=x.c',ad:=fun(_u31:List UInt8)=>false,ag:=fun(_u30:List UInt8)=>(0:Int):Sp}).getD u32 ([],[])).snd) (aW x.fr x.to (aX x.n x.f x.g)).length (fun(u29:Nat)=>((aW x.fr x.to (aX x.n x.f x.g)).getD u29 ([],[])).fst) fun(u28:Nat)=>((aW x.fr x.to (aX x.n x.f x.g)).getD u28 ([],[])).snd)=false->(((x.z=x.z/\x.o=x.o/\0+x.n<=x.n)/\True)/\x.n<9223372036854775808)/\(decide (bY x.n x.f x.g=0)=true->∀(u27:Nat),(aK (dH 13 (aX x.n (fun(u26:Nat)=>az (x.f u26)) x.g))).length<=u27->(∃(u25:Nat),dw x.m x.free u25 /\0=(u25:Int))/\∀(u24:Nat),dw x.m x.free u24->(decide ((u24:Int)<(x.m:Int))=true->(0<=(u24:Int)/\(u24:Int)<(x.m:Int))/\(x.o'=x.o'/\0+(u24:Int).toNat<x.m)/\(∃(u23:Nat),dw x.U.length (x.E7 (x.h (0+(u24:Int).toNat))) u23/\0=(u23:Int))/\∀(u22:Nat),dw x.U.length (x.E7 (x.h (0+(u24:Int).toNat))) u22->(decide ((u22:Int)<(↑(aK (dH 13 (aX x.n (fun(u21:Nat)=>az (x.f u21)) x.g))).length:Int))=true->(0<=(u22:Int)/\(u22:Int)<(↑(aK (dH 13 (aX x.n (fun(u20:Nat)=>az (x.f u20)) x.g))).length:Int))/\0+(u22:Int).toNat<(aK (dH 13 (aX x.n (fun(u19:Nat)=>az (x.f u19)) x.g))).length/\((x.h (0+(u24:Int).toNat)).length<1152921504606846976/\((aK (dH 13 (aX x.n (fun(u18:Nat)=>az (x.f u18)) x.g))).getD (0+(u22:Int).toNat) []).length<1152921504606846976)/\(cm (x.h (0+(u24:Int).toNat)) ((aK (dH 13 (aX x.n (fun(u17:Nat)=>az (x.f u17)) x.g))).getD (0+(u22:Int).toNat) [])=true->(x.hit=true->∃(u16:List UInt8×List UInt8),(cm u16.fst u16.snd=true/\u16.fst.length<=1000 /\u16.snd.length<=1000)/\af (SV.aL [au.at (0+(u24:Int).toNat) (au.str x.h),au.at (0+(u22:Int).toNat) (au.str fun(u15:Nat)=>(aK (dH 13 (aX x.n (fun(u14:Nat)=>az (x.f u14)) x.g))).getD u15 []),SV.bool true true]) (SV.aL [SV.str false u16.fst,SV.str false u16.snd,SV.bool true true]))/\(x.hit=false->af (SV.aL [au.at (0+(u24:Int).toNat) (au.str x.h),au.at (0+(u22:Int).toNat) (au.str fun(u13:Nat)=>(aK (dH 13 (aX x.n (fun(u12:Nat)=>az (x.f u12)) x.g))).getD u13 []),SV.bool true true]) P0))/\(cm (x.h (0+(u24:Int).toNat)) ((aK (dH 13 (aX x.n (fun(u11:Nat)=>az (x.f u11)) x.g))).getD (0+(u22:Int).toNat) [])=false->((-9223372036854775808:Int)<=(u22:Int)+1/\(u22:Int)+1<=(9223372036854775807:Int))/\∃(u10:Nat),(dw x.U.length (x.E7 (x.h (0+(u24:Int).toNat))) u10/\x.U.length - u10<x.U.length - u22)/\(u22:Int)+1=(u10:Int)))/\(decide ((u22:Int)<(↑(aK (dH 13 (aX x.n (fun(u9:Nat)=>az (x.f u9)) x.g))).length:Int))=false->((-9223372036854775808:Int)<=(u24:Int)+1/\(u24:Int)+1<=(9223372036854775807:Int)) /\∃(u8:Nat),(dw x.m x.free u8/\x.m - u8<x.m - u24)/\(u24:Int)+1=(u8:Int)))/\(decide ((u24:Int)<(x.m:Int))=false->(x.hit=true->∃(u7:List UInt8×List UInt8),(cm u7.fst u7.snd=true/\u7.fst.length<=1000/\u7.snd.length<=1000)/\af P0 (SV.aL [SV.str false u7.fst,SV.str false u7.snd,SV.bool true true]))/\(x.hit=false->af P0 P0)))/\(decide (bY x.n x.f x.g=0)=false->(decide (bY x.n x.f x.g=1)=true->(x.hit=true->∃(u6:List UInt8×List UInt8),(cm u6.fst u6.snd=true/\u6.fst.length<=1000/\u6.snd.length<=1000)/\af P0 (SV.aL [SV.str false u6.fst,SV.str false u6.snd,SV.bool true true]))/\(x.hit=false->af P0 P0))/\(decide (bY x.n x.f x.g=1)=false->(x.hit=true->∃(u5:List UInt8×List UInt8),(cm u5.fst u5.snd=true/\u5.fst.length<=1000/\u5.snd.length<=1000)/\af P0 (SV.aL [SV.str false u5.fst,SV.str false u5.snd,SV.bool true true]))/\(x.hit=false->af P0 P0))))) /\((cw (b9 x.n x.f x.g) {fr:=x.fr,to:=x.to,n:=x.m,f:=x.h,z:=x.z',o:=x.o'+0,c:=x.c',ad:=fun(_u4:List UInt8)=>false,ag:=fun(_u3:List UInt8)=>(0:Int):Sp}).isSome=false->(x.hit=true->∃(u2:List UInt8×List UInt8),(cm u2.fst u2.snd=true/\u2.fst.length<=1000/\u2.snd.length<=1000)/\af P0 (SV.aL [SV.str false u2.fst,SV.str false u2.snd,SV.bool true true]))/\(x.hit=false->af P0 P0)))/\(decide (bY x.n x.f x.g=0)=false->(decide (bY x.n x.f x.g=1)=true->(x.hit=true->∃(u1:List UInt8×List UInt8),(cm u1.fst u1.snd=true/\u1.fst.length<=1000/\u1.snd.length<=1000)/\af P0 (SV.aL [SV.str false u1.fst,SV.str false u1.snd,SV.bool true true]))/\(x.hit=false->af P0 P0))/\(decide (bY x.n x.f x.g=1)=false->(x.hit=true->∃(u0:List UInt8×List UInt8),(cm u0.fst u0.snd=true/\u0.fst.length<=1000/\u0.snd.length<=1000)/\af P0 (SV.aL [SV.str false u0.fst,SV.str false u0.snd,SV.bool true true]))/\(x.hit=false->af P0 P0)))))) (SV.aL [SV.str true [],SV.str true [],SV.bool true false])):=⟨by kernel_rfl,by kernel_rfl⟩
theorem AY (L L':List Rw):dz L.length (fun i=>(L.getD i ([],[])).1) (fun i=>(L.getD i ([],[])).2) L'.length (fun i=>(L'.getD i ([],[])).1) (fun i=>(L'.getD i ([],[])).2)=decide (L=L'):=by
 rw[Bool.eq_iff_iff,decide_eq_true_eq]
 unfold dz qG
 rw[Bool.and_eq_true,decide_eq_true_eq,List.all_eq_true]
 constructor
 ·rintro⟨h1,h2⟩
  refine List.ext_getElem (by omega) fun i i1 i2=> ?_
  have:=h2 i (List.mem_range.2 i1)
  rw[Bool.and_eq_true,decide_eq_true_eq,decide_eq_true_eq] at this
  simp only[List.getD_eq_getElem?_getD,List.getElem?_eq_getElem i1,List.getElem?_eq_getElem i2,Option.getD_some] at this
  exact Prod.ext this.1 this.2
 ·rintro rfl
  exact⟨rfl,fun i _=>by simp⟩
namespace Xr
theorem vw {x:Xr}(h:x.ask=false):x.hit=false:=by unfold hit;rw[h];rfl
theorem Jz {x:Xr}(h: ¬ bY x.n x.f x.g=0):x.ask=false:=by unfold ask;rw[decide_eq_false h];rfl
theorem Ed {x:Xr}(h:(cw (b9 x.n x.f x.g) x.sp).isSome=false):x.ask=false:=by unfold ask;rw[h];simp
theorem Fj {x:Xr}(h:x.told=x.Uq):x.ask=false:=by unfold ask;rw[decide_eq_true h];simp
theorem KB {x:Xr}(h1:bY x.n x.f x.g=0)(h2:(cw (b9 x.n x.f x.g) x.sp).isSome=true)(h3: ¬ x.told=x.Uq):x.ask=true:=by unfold ask;rw[decide_eq_true h1,h2,decide_eq_false h3];rfl
theorem O6 {x:Xr}(ha:x.ask=true){i j:Nat}(hi:i<x.m)(hj:j<x.U.length)(h:cm (x.h i) (x.U.getD j [])=true):x.hit=true:=by
 have h1:x.E7 (x.h i) j=false:=by unfold E7;rw[h];rfl
 have h2:x.free i=false:=List.all_eq_false.2 ⟨j,List.mem_range.2 hj,by rw[h1];decide⟩
 have h3:(List.range x.m).all x.free=false:=List.all_eq_false.2 ⟨i,List.mem_range.2 hi,by rw[h2];decide⟩
 unfold hit;rw[ha,h3];rfl
theorem SP {x:Xr}{i:Nat}(h:dw x.m x.free i)(hi: ¬ (i:Int)<(x.m:Int)):x.hit=false:=by
 unfold hit;rw[h.done hi];simp
structure Ok (x:Xr):Prop where
 n:x.n<9223372036854775808
 U9:x.sp.mQ
end Xr
theorem Mj {root:List UInt8}{w:Sp}{l:List Rw}(h:cw root w=some l):l.length<=400:=by
 unfold cw at h
 cases hc:(Sl w.fr w.to&&(decide (0<w.n)&&(decide (w.n<=200)&&decide (cL (w.f 0)=root))))with
 | false=>rw[hc] at h;cases h
 | true =>
   rw[hc,cond_true] at h
   split at h
   ·rename_i s hs
    cases hsame:gM s.ns.length (fun i=>s.ns.getD i []) w.n w.f with
    | false=>rw[hsame] at h;cases h
    | true =>
      rw[hsame,cond_true] at h
      injection h with h;subst h
      unfold oI at hs
      cases hL:cT w.full root with
      | false=>rw[hL] at hs;cases hs
      | true =>
        rw[hL,cond_true] at hs
        have k1:=(wX w.full 401 _ _ _ _ (AT w.full root) hs).1
        exact Nat.le_trans k1.fs k1.lk
   ·cases h
theorem TC {root:List UInt8}{w:Sp}(h:(cw root w).isSome=true):w.n<=200:=by
 unfold cw at h
 cases hc:(Sl w.fr w.to&&(decide (0<w.n)&&(decide (w.n<=200)&&decide (cL (w.f 0)=root))))with
 | false=>rw[hc] at h;cases h
 | true =>
   simp only[Bool.and_eq_true,decide_eq_true_eq] at hc
   exact hc.2.2.1
theorem Ku (root:List UInt8)(w:Sp):(i5 root w).length<=400:=by
 unfold i5
 split
 ·rename_i l e;exact Mj e
 ·exact Nat.zero_le _
theorem Ag: ∀ {m:Nat} {l:List Rw},m<=13->cW m l->∀ t,t∈ ey m l->t.length<=700
 | 0,_,_,_,t,ht=>by cases ht
 | m+1,l,hm,h,t,ht=>by
   unfold ey at ht
   obtain⟨i,_,hi⟩:=List.mem_flatMap.1 ht
   by_cases hk:bM l i=[]
   ·rw[if_pos hk] at hi;cases hi
   ·rw[if_neg hk,List.mem_append] at hi
    have hr:cW m (bM l i):=jJ h i
    rcases hi with hi | hi
    ·split at hi
     ·cases hi
     ·rw[List.mem_singleton] at hi;subst hi
      exact jM (by omega) hr hk
    ·exact Ag (by omega) hr t hi
theorem N3 {l:List Rw}(h:cW 13 l)(t:List UInt8)(ht:t∈ dH 13 l):t.length<=700:=by
 unfold dH at ht
 rcases List.mem_cons.1 ht with e | e
 ·subst e;exact wq h
 ·exact Ag (Nat.le_refl _) h t e
theorem Xe {x:Xr}(h:bY x.n x.f x.g=0)(j:Nat):(x.U.getD j []).length<=700:=by
 rw[List.getD_eq_getElem?_getD]
 cases e:x.U[j]? with
 | none=>exact Nat.zero_le _
 | some t=>exact N3 (yd h) t ((oJ _ _ rfl t).1 (List.mem_of_getElem? e))
theorem Au (x:Xr)(hx:x.Ok)(k k':Option Nat):aA (gJ (Ql x) 22 Tryz.f22 x.args (x.seen k k') (Xo x)):=by
 refine aA.pr (MD x k k') ?_
 have esp:(⟨x.fr,x.to,x.m,x.h,x.z',x.o',x.c',fun _=>false,fun _=>0⟩:Sp)=x.sp:=rfl
 simp only[Int.toNat_natCast,Nat.zero_add,Nat.add_zero,Nat.le_refl,true_and,and_true,decide_eq_true_eq,decide_eq_false_iff_not,esp]
 have no:x.hit=false->(x.hit=true->∃(p:List UInt8×List UInt8),(cm p.1 p.2=true/\(p.1.length<=1000/\p.2.length<=1000))/\af (SV.aL [SV.str true [],SV.str true [],SV.bool true false]) (SV.aL [SV.str false p.1,SV.str false p.2,SV.bool true true]))/\(x.hit=false->af (SV.aL [SV.str true [],SV.str true [],SV.bool true false]) (SV.aL [SV.str true [],SV.str true [],SV.bool true false])):=fun h=>⟨fun e=>absurd (h.symm.trans e) (by decide),fun _ _=>rfl⟩
 have hs:=AY x.told x.Uq
 have hl:=Ku (b9 x.n x.f x.g) x.sp
 refine⟨hx.n,fun h0=>⟨hx.U9,fun h1 c1 hc1=>⟨?_,fun c2 hc2=>⟨by omega,fun h2=>no (Xr.vw (Xr.Fj ?_)),fun h2=>⟨hx.n,fun _ c3 hc3=>⟨⟨0,dw.zero _ _,rfl⟩,fun i hi=>⟨fun hlt=> ?_,fun hge=>no (Xr.SP hi hge)⟩⟩,fun h3=> ?_⟩⟩⟩,fun h1=>no (Xr.vw (Xr.Ed h1))⟩,fun h0=> ?_⟩
 ·obtain⟨he,h40⟩:=kj h0
  refine⟨by omega,fun i hi=> ?_,hx.U9.fr,hx.U9.to⟩
  have:=(he.key (x.f i,x.g i) (by unfold aX;exact List.mem_map.2 ⟨i,List.mem_range.2 hi,rfl⟩)).2
  have:(x.f i).length<=6:=this
  omega
 ·exact of_decide_eq_true (hs.symm.trans h2)
 ·have hlt':(i:Int)<(x.m:Int):=hlt
  have hlt:i<x.m:=by omega
  have hsm:x.m<=1000:=Nat.le_trans (TC h1) (by decide)
  have hask:=Xr.KB h0 h1 (of_decide_eq_false (hs.symm.trans h2))
  have hf:=hx.U9.f i hlt
  have hf:(x.h i).length<=1000:=hf
  have hU:x.U.length<=600:=by
   have h1:=xq _ (dH 13 (aX x.n (fun i=>az (x.f i)) x.g)) rfl
   have h2:=J9 13 (aX x.n (fun i=>az (x.f i)) x.g)
   have h3:=(kj h0).2
   rw[eZ] at h2
   show(aK _).length<=_
   omega
  refine⟨⟨by omega,hlt'⟩,hlt,⟨0,dw.zero _ _,rfl⟩,fun j hj=>⟨fun hl'=> ?_,fun hg=> ?_⟩⟩
  ·have hl':(j:Int)<(x.U.length:Int):=hl'
   have hjl:j<x.U.length:=by omega
   have h700:=Xe h0 j
   refine⟨⟨by omega,hl'⟩,hjl,⟨by omega,by show(x.U.getD j []).length<_;omega⟩,fun hc=> ?_,fun hc=>⟨⟨by omega,by omega⟩,j+1,⟨hj.next hl' (by unfold Xr.E7;rw[show cm (x.h i) (x.U.getD j [])=false from hc];rfl),by omega⟩,by omega⟩⟩
   have hh:=Xr.O6 hask hlt hjl hc
   exact⟨fun _=>⟨(x.h i,x.U.getD j []),⟨hc,hf,by show(x.U.getD j []).length<=1000;omega⟩,fun _=>rfl⟩,fun e=>by rw[hh] at e;cases e⟩
  ·have hg: ¬ (j:Int)<(x.U.length:Int):=hg
   exact⟨⟨by omega,by omega⟩,i+1,⟨hi.next hlt' (hj.done hg),by omega⟩,by omega⟩
 ·exact absurd h0 h3
 ·exact⟨fun _=>no (Xr.vw (Xr.Jz h0)),fun _=>no (Xr.vw (Xr.Jz h0))⟩
def Tm:List vv:=[.of (.slice dE),.agg [.one,.one],.of (.slice [.str fun _=>[]])]
def Ur (vs:List SV)(l:List Seen):Option (Xr×Option Nat×Option Nat):=match vs,l with
 | [_,.agg [.str false fr,.str false to],_],[⟨k,z,o,n,c,[.str f,.str g]⟩,⟨k',z',o',m,c',[.str h]⟩]=>some (⟨n,f,g,z,o,c,fr,to,m,h,z',o',c'⟩,k,k')
 | _,_=>none
theorem RK {vs:List SV}{l:List Seen}{x:Xr}{k k':Option Nat}(h:Ur vs l=some (x,k,k')):filled Tm vs l=x.args/\l=x.seen k k':=by
 unfold Ur at h
 split at h
 ·injection h with h;injection h with h1 h;injection h with h2 h3
  subst h1;subst h2;subst h3
  exact⟨rfl,rfl⟩
 ·cases h
noncomputable def DR (vs:List SV)(l:List Seen):Option (Prop×c6):=match Ur vs l with
 | some (x,_,_)=>some (x.Ok,Xo x)
 | none=>none
theorem We (x:Xr):(Xo x).Ok:=fun b=>by
 cases b with
 | false=>rfl
 | true=>intro p;rfl
theorem zu:aB Tryz.prog 22 (cr Tm DR):=by
 refine fD (n:=20) (fn:=Tryz.f22) Tryz.func22 (by kernel_rfl) (by kernel_rfl) ?_
 intro vs l q a h hq
 unfold DR at h
 split at h
 ·rename_i x k k' hx
  injection h with h;injection h with h1 h2;subst h1;subst h2
  obtain⟨e1,e2⟩:=RK hx
  rw[e1,e2]
  exact⟨_,V4 x,rfl,We x,Au x hq k k'⟩
 ·cases h
noncomputable def Pc:List (FuncId×PT):=(26,BT)::(25,xH Vv (pn Gq Rf))::(14,nh SQ pU)::(23,nh Va wR)::(22,nh Tm DR)::IP
theorem K3:bl Tryz.prog (fun f=>aG f Pc):=.cons IU CK (.cons (xM Ro) (rW (oe _ _)) (.cons (yB Fa) (nF _ _) (.cons (yB xX) (nF _ _) (.cons (yB zu) (nF _ _) Br))))
noncomputable def M4:ff:={cg with cI:=fun f=>aG f Pc}
theorem Wg:Sx.Good Tryz.prog M4:=.of bS K3 bt
theorem OO:VC.holds (TM M4 11 Tryz.f11 [] (.ret (.bool true true)))=(∀(c:Nat),(1:Nat)<=c ->(True /\Gq [cB]) /\∀(c:Nat),(1:Nat)<=c ->((24:Nat)<=(9223372036854775808:Nat) /\(24:Nat)<(1099511627776:Nat)) /\(True /\Gq [cB]) /\Fits {k:=(2:Int),p:=cV (aa (aj (aa cB) (0:Nat))),v:=[],r:=fun(i:Nat)=>[ak (aj (aa cB) (1:Nat)) (0:Nat),ak (aj (aa cB) (1:Nat)) (1:Nat),ak (aj (aa cB) (1:Nat)) (2:Nat),ak (aj (aa cB) (1:Nat)) (3:Nat),ak (aj (aa cB) (1:Nat)) (4:Nat),ak (aj (aa cB) (1:Nat)) (5:Nat),ak (aj (aa cB) (1:Nat)) (6:Nat),ak (aj (aa cB) (1:Nat)) (7:Nat),ak (aj (aa cB) (1:Nat)) (8:Nat),ak (aj (aa cB) (1:Nat)) (9:Nat),ak (aj (aa cB) (1:Nat)) (10:Nat),ak (aj (aa cB) (1:Nat)) (11:Nat),ak (aj (aa cB) (1:Nat)) (12:Nat),ak (aj (aa cB) (1:Nat)) (13:Nat),ak (aj (aa cB) (1:Nat)) (14:Nat),ak (aj (aa cB) (1:Nat)) (15:Nat)].getD i []:Nd} /\∀(x:Nat),(0:Nat)<=x ->(True /\Gq [cB]) /\∀(c:Nat),(1:Nat)<=c ->((24:Nat)<=(9223372036854775808:Nat) /\(24:Nat)<(1099511627776:Nat)) /\∀(c:Nat),(1:Nat)<=c ->∀(R:Loop),R=R /\Rel (9223372036854775808:Nat) (ak (aj (aa cB) (1:Nat)) (0:Nat)) /\∀(R:Loop),R=R /\Rel (9223372036854775808:Nat) ((getD (ak (aj (aa cB) (1:Nat)) (0:Nat))).r (2:Nat)) /\(2:Nat)<(1152921504606846976:Nat) /\((!fB ([]++cV (aa (aj (aa cB) (0:Nat)))++(getD (ak (aj (aa cB) (1:Nat)) (0:Nat))).p++[UInt8.ofNat (2:Nat)]++cV (aa (aj (aa ((getD (ak (aj (aa cB) (1:Nat)) (0:Nat))).r (2:Nat))) (0:Nat)))))=true ->∀(_R:Loop),((True /\(True /\True /\True) /\True /\True) /\{fr:=[(98:UInt8)],to:=[(99:UInt8)],n:=(1:Nat),f:=fun(i:Nat)=>k5 ((List.drop (0:Nat) [SV.str true cB]).getD (i*(1:Nat)+(0:Nat)) SV.bD),z:=false,o:=(0:Nat),c:=c,ad:=fun(_x:List UInt8)=>false,ag:=fun(_x:List UInt8)=>(0:Int):Sp}.mQ) /\∀(x:Nat),(1:Nat)<=x ->((True /\(True /\True /\True) /\True /\True) /\{fr:=[(98:UInt8)],to:=[(99:UInt8)],n:=(0:Nat),f:=fun(_x:Nat)=>[],z:=true,o:=(0:Nat),c:=(0:Nat),ad:=fun(_x:List UInt8)=>false,ag:=fun(_x:List UInt8)=>(0:Int):Sp}.mQ) /\((True /\(True /\True /\True) /\True /\True) /\{n:=(2:Nat),f:=fun(i:Nat)=>k5 ((List.drop (0:Nat) [SV.str true [(97:UInt8)],SV.str true [(49:UInt8)],SV.str true [(98:UInt8)],SV.str true [(50:UInt8)]]).getD (i*(2:Nat)+(0:Nat)) SV.bD),g:=fun(i:Nat)=>k5 ((List.drop (0:Nat) [SV.str true [(97:UInt8)],SV.str true [(49:UInt8)],SV.str true [(98:UInt8)],SV.str true [(50:UInt8)]]).getD (i*(2:Nat)+(1:Nat)) SV.bD),z:=false,o:=(0:Nat),c:=(2:Nat),fr:=[(98:UInt8)],to:=[(99:UInt8)],m:=(1:Nat),h:=fun(i:Nat)=>k5 ((List.drop (0:Nat) [SV.str true cB]).getD (i*(1:Nat)+(0:Nat)) SV.bD),z':=false,o':=(0:Nat),c':=c:Xr}.Ok) /\((True /\(True /\True /\True) /\True) /\(2:Nat)<=(1000:Nat) /\(∀(i:Nat),i<(2:Nat) ->(k5 ((List.drop (0:Nat) [SV.str true [(97:UInt8)],SV.str true [(49:UInt8)],SV.str true [(98:UInt8)],SV.str true [(50:UInt8)]]).getD (i*(2:Nat)+(0:Nat)) SV.bD)).length<(1099511627776:Nat)) /\(1:Nat)<=(1000:Nat) /\(1:Nat)<=(1000:Nat)) /\∀(x:Nat),(1:Nat)<=x ->af (SV.bool (true&&true) (decide ((1:Int)=(1:Int)))) (SV.bool true true)) /\((!fB ([]++cV (aa (aj (aa cB) (0:Nat)))++(getD (ak (aj (aa cB) (1:Nat)) (0:Nat))).p++[UInt8.ofNat (2:Nat)]++cV (aa (aj (aa ((getD (ak (aj (aa cB) (1:Nat)) (0:Nat))).r (2:Nat))) (0:Nat)))))=false ->some (SB.cells [SV.str true [(98:UInt8)],SV.str true [(99:UInt8)],SV.func (Fn.func (47:Nat)) [SV.ptr ((2:Nat)+(1:Nat)) true (0:Nat)] [],SV.map ((2:Nat)+(1:Nat)+(1:Nat)+(1:Nat)+(1:Nat)+(1:Nat)+(1:Nat)+(1:Nat)+(1:Nat)+(1:Nat)+(1:Nat)+(1:Nat)+(1:Nat)+(1:Nat)+(1:Nat)+(1:Nat)+(1:Nat)+(1:Nat)+(1:Nat)),SV.slc ((2:Nat)+(1:Nat)+(1:Nat)+(1:Nat)+(1:Nat)+(1:Nat)+(1:Nat)+(1:Nat)+(1:Nat)+(1:Nat)+(1:Nat)+(1:Nat)+(1:Nat)+(1:Nat)+(1:Nat)+(1:Nat)+(1:Nat)+(1:Nat)+(1:Nat)+(1:Nat)+(1:Nat)+(1:Nat)+(1:Nat)+(1:Nat)) (0:Nat) (1:Nat) false c,SV.int IntKind.i64 true (3:Int),SV.aO] (7:Nat) (92:Nat))=some (SB.cells [SV.str true [(98:UInt8)],SV.str true [(99:UInt8)],SV.func (Fn.func (47:Nat)) [SV.ptr ((2:Nat)+(1:Nat)) true (0:Nat)] [],SV.map ((2:Nat)+(1:Nat)+(1:Nat)+(1:Nat)+(1:Nat)+(1:Nat)+(1:Nat)+(1:Nat)+(1:Nat)+(1:Nat)+(1:Nat)+(1:Nat)+(1:Nat)+(1:Nat)+(1:Nat)+(1:Nat)+(1:Nat)+(1:Nat)+(1:Nat)),SV.slc ((2:Nat)+(1:Nat)+(1:Nat)+(1:Nat)+(1:Nat)+(1:Nat)+(1:Nat)+(1:Nat)+(1:Nat)+(1:Nat)+(1:Nat)+(1:Nat)+(1:Nat)+(1:Nat)+(1:Nat)+(1:Nat)+(1:Nat)+(1:Nat)+(1:Nat)+(1:Nat)+(1:Nat)+(1:Nat)+(1:Nat)+(1:Nat)) (0:Nat) (1:Nat) false c,SV.int IntKind.i64 true (3:Int),SV.aO] (7:Nat) (92:Nat)) /\some (SB.cells [SV.ptr ((2:Nat)+(1:Nat)+(1:Nat)+(1:Nat)+(1:Nat)+(1:Nat)+(1:Nat)+(1:Nat)+(1:Nat)+(1:Nat)+(1:Nat)+(1:Nat)+(1:Nat)+(1:Nat)+(1:Nat)+(1:Nat)+(1:Nat)+(1:Nat)+(1:Nat)+(1:Nat)) true (0:Nat)] (1:Nat) (82:Nat))=some (SB.cells [SV.ptr ((2:Nat)+(1:Nat)+(1:Nat)+(1:Nat)+(1:Nat)+(1:Nat)+(1:Nat)+(1:Nat)+(1:Nat)+(1:Nat)+(1:Nat)+(1:Nat)+(1:Nat)+(1:Nat)+(1:Nat)+(1:Nat)+(1:Nat)+(1:Nat)+(1:Nat)+(1:Nat)) true (0:Nat)] (1:Nat) (82:Nat)) /\some (SB.cells [SV.ptr ((2:Nat)+(1:Nat)+(1:Nat)+(1:Nat)+(1:Nat)+(1:Nat)+(1:Nat)+(1:Nat)+(1:Nat)+(1:Nat)+(1:Nat)+(1:Nat)+(1:Nat)+(1:Nat)+(1:Nat)+(1:Nat)+(1:Nat)+(1:Nat)+(1:Nat)+(1:Nat)) true (0:Nat)] (1:Nat) (82:Nat))=some (SB.cells [SV.ptr ((2:Nat)+(1:Nat)+(1:Nat)+(1:Nat)+(1:Nat)+(1:Nat)+(1:Nat)+(1:Nat)+(1:Nat)+(1:Nat)+(1:Nat)+(1:Nat)+(1:Nat)+(1:Nat)+(1:Nat)+(1:Nat)+(1:Nat)+(1:Nat)+(1:Nat)+(1:Nat)) true (0:Nat)] (1:Nat) (82:Nat)) /\∀(c_1:Nat),(1:Nat)<=c_1 ->some (SB.cells [SV.ptr ((2:Nat)+(1:Nat)+(1:Nat)+(1:Nat)+(1:Nat)+(1:Nat)+(1:Nat)+(1:Nat)+(1:Nat)+(1:Nat)+(1:Nat)+(1:Nat)+(1:Nat)+(1:Nat)+(1:Nat)+(1:Nat)+(1:Nat)+(1:Nat)+(1:Nat)+(1:Nat)) true (0:Nat)] (1:Nat) (82:Nat))=some (SB.cells [SV.ptr ((2:Nat)+(1:Nat)+(1:Nat)+(1:Nat)+(1:Nat)+(1:Nat)+(1:Nat)+(1:Nat)+(1:Nat)+(1:Nat)+(1:Nat)+(1:Nat)+(1:Nat)+(1:Nat)+(1:Nat)+(1:Nat)+(1:Nat)+(1:Nat)+(1:Nat)+(1:Nat)) true (0:Nat)] (1:Nat) (82:Nat)) /\∀(_R:Loop),((True /\(True /\True /\True) /\True /\True) /\{fr:=[(98:UInt8)],to:=[(99:UInt8)],n:=(1:Nat),f:=fun(i:Nat)=>k5 ((List.drop (0:Nat) [SV.str true cB]).getD (i*(1:Nat)+(0:Nat)) SV.bD),z:=false,o:=(0:Nat),c:=c,ad:=fun(_x:List UInt8)=>false,ag:=fun(_x:List UInt8)=>(0:Int):Sp}.mQ) /\∀(x:Nat),(1:Nat)<=x ->((True /\(True /\True /\True) /\True /\True) /\{fr:=[(98:UInt8)],to:=[(99:UInt8)],n:=(0:Nat),f:=fun(_x:Nat)=>[],z:=true,o:=(0:Nat),c:=(0:Nat),ad:=fun(_x:List UInt8)=>false,ag:=fun(_x:List UInt8)=>(0:Int):Sp}.mQ) /\((True /\(True /\True /\True) /\True /\True) /\{n:=(2:Nat),f:=fun(i:Nat)=>k5 ((List.drop (0:Nat) [SV.str true [(97:UInt8)],SV.str true [(49:UInt8)],SV.str true [(98:UInt8)],SV.str true [(50:UInt8)]]).getD (i*(2:Nat)+(0:Nat)) SV.bD),g:=fun(i:Nat)=>k5 ((List.drop (0:Nat) [SV.str true [(97:UInt8)],SV.str true [(49:UInt8)],SV.str true [(98:UInt8)],SV.str true [(50:UInt8)]]).getD (i*(2:Nat)+(1:Nat)) SV.bD),z:=false,o:=(0:Nat),c:=(2:Nat),fr:=[(98:UInt8)],to:=[(99:UInt8)],m:=(1:Nat),h:=fun(i:Nat)=>k5 ((List.drop (0:Nat) [SV.str true cB]).getD (i*(1:Nat)+(0:Nat)) SV.bD),z':=false,o':=(0:Nat),c':=c:Xr}.Ok) /\((True /\(True /\True /\True) /\True) /\(2:Nat)<=(1000:Nat) /\(∀(i:Nat),i<(2:Nat) ->(k5 ((List.drop (0:Nat) [SV.str true [(97:UInt8)],SV.str true [(49:UInt8)],SV.str true [(98:UInt8)],SV.str true [(50:UInt8)]]).getD (i*(2:Nat)+(0:Nat)) SV.bD)).length<(1099511627776:Nat)) /\(1:Nat)<=(1000:Nat) /\(1:Nat)<=(1000:Nat)) /\∀(x:Nat),(1:Nat)<=x ->af (SV.bool (true&&true) (decide ((1:Int)=(1:Int)))) (SV.bool true true))):=by kernel_rfl
theorem Vs {p:Nat->Prop}(h0:p 0)(h1:p 1)(i:Nat)(hi:i<2):p i:=by
 match i,hi with
 | 0,_=>exact h0
 | 1,_=>exact h1
theorem VY {fr to:List UInt8}{n:Nat}{f:Nat->List UInt8}{z:Bool}{o c:Nat}{ad:List UInt8->Bool}{ag:List UInt8->Int}(h1: ∀ i,i<n->(f i).length<=1000)(h2:fr.length<=1000)(h3:to.length<=1000):Sp.mQ ⟨fr,to,n,f,z,o,c,ad,ag⟩:=⟨h1,h2,h3⟩
theorem WQ {n:Nat}{f g:Nat->List UInt8}{z:Bool}{o c:Nat}{fr to:List UInt8}{m:Nat}{h:Nat->List UInt8}{z':Bool}{o' c':Nat}(h0:n<9223372036854775808)(h1: ∀ i,i<m->(h i).length<=1000)(h2:fr.length<=1000)(h3:to.length<=1000):Xr.Ok ⟨n,f,g,z,o,c,fr,to,m,h,z',o',c'⟩:=⟨h0,⟨h1,h2,h3⟩⟩
theorem CI:aA (TM M4 11 Tryz.f11 [] (.ret (.bool true true))):=by
 refine aA.of_eq OO ?_
 repeat' first
  | exact trivial
  | exact ah.refl _
  | exact KD (by decide +kernel)
  | exact rfl
  | refine And.intro ?_ ?_
  | omega
  | intro (_:Loop)
  | refine Vs ?_ ?_
  | intro (_:Nat)
  | intro (_:_<=_)
  | decide +kernel
  | exact fun _=>rfl
  | exact⟨rfl,rfl⟩
  | exact fun h=>absurd h (by decide +kernel)
  | intro (_:(!fB _)=false)
  | exact VY (by decide +kernel) (by decide +kernel) (by decide +kernel)
  | exact WQ (by decide +kernel) (by decide +kernel) (by decide +kernel) (by decide +kernel)
  | fail
def yX (vs:List SV):Option (Prop×c6):=match vs with
 | []=>some (True,.ret (.bool true true))
 | _=>none
theorem LD:aB Tryz.prog 11 (cE yX):=by
 refine dA (n:=40) (fn:=Tryz.f11) Tryz.func11 (by kernel_rfl) (by kernel_rfl) ?_
 intro vs q a h hq
 match vs,h with
 | [],h =>
   injection h with h;injection h with h1 h2;subst h1;subst h2
   exact⟨_,Wg,rfl,rfl,CI⟩
def node7 (f:Nat->List UInt8)(i:Nat):Bool:=!decide ((700:Int)<((f i).length:Int))
def o8 (n:Nat)(f:Nat->List UInt8):Bool:=decide ((n:Int)<=45)&&(List.range n).all (node7 f)
structure CB (n:Nat)(t:Nat->Bool)(i:Nat):Prop where
 up:tG n t i
 le:i<=46
noncomputable def Xf (tmp:Nat)(n:Nat)(t:Nat->Bool):bC :=
 {α:=Nat,pre:=fun _ i=>CB n t i,nY:=fun _ i=>n - i,fresh:=0,slots:=fun _ i=>[(tmp,.int .i64 false i)],mem:=fun _ _=>[]}
def TR (z:Bool)(o c n:Nat)(f:Nat->List UInt8)(key:Option Nat):Seen:=⟨key,z,o,n,c,[.str f]⟩
def XQ:List vv:=[.of (.slice dP)]
noncomputable def D6 (n:Nat)(f:Nat->List UInt8):ff:={cg with cI:=fun f=>aG f e8,br:=fun g=>if g=20 then [(2,always (Xf 3 n (node7 f)))] else []}
theorem OD (n:Nat)(f:Nat->List UInt8):Sx.Good Tryz.prog (D6 n f):=.of bS di bt
theorem UU (n:Nat)(f:Nat->List UInt8)(z:Bool)(o c:Nat)(key:Option Nat):eT (.n (.s 0 (.n .k .t)) (.n (.n (.s 4 (.n .k .t)) .t) .t)) (gJ (D6 n f) 20 Tryz.f20 [.bP 0 1 z o 0 n c] [TR z o c n f key] (.ret (.bool false (o8 n f)))) (((∃(u2:Nat),CB n (node7 f) u2/\0=(u2:Int))/\∀(u1:Nat),CB n (node7 f) u1->(decide ((u1:Int)<(n:Int))=true->(decide ((u1:Int)<=45)=true->(0<=(u1:Int)/\(u1:Int)<(n:Int))/\(o=o/\0+(u1:Int).toNat<n)/\(decide (700<(↑(f (0+(u1:Int).toNat)).length:Int))=true->af (SV.bool true false) (SV.bool false (o8 n f)))/\(decide (700<(↑(f (0+(u1:Int).toNat)).length:Int))=false->((-9223372036854775808:Int)<=(u1:Int)+1/\(u1:Int)+1<=(9223372036854775807:Int))/\∃(u0:Nat),(CB n (node7 f) u0/\n - u0<n - u1)/\(u1:Int)+1=(u0:Int)))/\(decide ((u1:Int)<=45)=false->af (SV.bool (false&&true) (decide ((n:Int)<=45))) (SV.bool false (o8 n f))))/\(decide ((u1:Int)<(n:Int))=false->af (SV.bool (false&&true) (decide ((n:Int)<=45))) (SV.bool false (o8 n f))))):=⟨by kernel_rfl,by kernel_rfl⟩
theorem Ie {f:Nat->List UInt8}{i:Nat}(h: ¬ (700:Int)<((f i).length:Int)):node7 f i=true:=by
 rw[node7,decide_eq_false h];rfl
theorem Ta {f:Nat->List UInt8}{i:Nat}(h:(700:Int)<((f i).length:Int)):node7 f i=false:=by
 rw[node7,decide_eq_true h];rfl
theorem Iq (n:Nat)(f:Nat->List UInt8)(z:Bool)(o c:Nat)(key:Option Nat):aA (gJ (D6 n f) 20 Tryz.f20 [.bP 0 1 z o 0 n c] [TR z o c n f key] (.ret (.bool false (o8 n f)))):=by
 refine aA.pr (UU n f z o c key) ?_
 simp only[Int.toNat_natCast,Nat.zero_add,true_and,decide_eq_true_eq,decide_eq_false_iff_not]
 refine⟨⟨0,⟨⟨Nat.zero_le _,fun j hj=>absurd hj (Nat.not_lt_zero _)⟩,Nat.zero_le _⟩,rfl⟩,fun i hi=>⟨fun h1=>⟨fun h2=>⟨by omega,by omega,fun h3=> ?_,fun h3=>⟨by omega,i+1,⟨⟨qB hi.up h1 (Ie h3),by omega⟩,by omega⟩,by omega⟩⟩,fun h2=> ?_⟩,fun h1=> ?_⟩⟩
 ·exact dU (by rw[o8,p7 h1 (Ta h3),Bool.and_false])
 ·refine dU ?_
  have: ¬ (n:Int)<=45:=by omega
  rw[o8,decide_eq_false this];rfl
 ·exact dU (by rw[o8,sE hi.up h1,Bool.and_true])
def yQ (vs:List SV)(l:List Seen):Option (Prop×c6):=match vs,l with
 | [_],[⟨_,_,_,n,_,[.str f]⟩]=>some (True,.ret (.bool false (o8 n f)))
 | _,_=>none
theorem SU:aB Tryz.prog 20 (cr XQ yQ):=by
 refine fD (n:=20) (fn:=Tryz.f20) Tryz.func20 (by kernel_rfl) (by kernel_rfl) ?_
 intro vs l q a h hq
 unfold yQ at h
 split at h
 ·rename_i v key z o n c f
  injection h with h;injection h with h1 h2;subst h1;subst h2
  exact⟨_,OD n f,rfl,rfl,Iq n f z o c key⟩
 ·cases h
noncomputable def Rn:List (FuncId×PT):=(11,cE yX)::(19,cr RA zq)::(20,cr XQ yQ)::(22,cr Tm DR)::(17,cr Tg iV)::He
theorem Ml:bl Tryz.prog (fun f=>aG f Rn):=.cons LD (cj _) (.cons SF (cG _ _) (.cons SU (cG _ _) (.cons zu (cG _ _) (.cons LR (cG _ _) Ba))))
noncomputable def QF:ff:={cg with cI:=fun f=>aG f Rn}
theorem VF:Sx.Good Tryz.prog QF:=.of bS Ml bt
def Xr.TN (x:Xr):List SV:=[.bP 0 2 x.z x.o 0 x.n x.c,.str false x.fr,.str false x.to,.bP 1 1 x.z' x.o' 0 x.m x.c']
theorem Ew (x:Xr)(k k':Option Nat):eT .t (gJ QF 4 Tryz.f4 x.TN (x.seen k k') (.ret (.bool false true))) ((True/\(((x.z=x.z/\x.o=x.o/\0+x.n<=x.n)/\True)/\True)/\(vi x.n x.f x.g=true->(((x.z'=x.z'/\x.o'=x.o'/\0+x.m<=x.m)/\True)/\True)/\(((x.z=x.z/\x.o=x.o/\0+x.n<=x.n)/\True)/\x.n<9223372036854775808)/\(decide (bY x.n x.f x.g=0)=true->((!o8 x.m x.h)=true->af (SV.bool true true) (SV.bool false true))/\((!o8 x.m x.h)=false->(decide (50<(x.fr.length:Int))=true->af (SV.bool true true) (SV.bool false true))/\(decide (50<(x.fr.length:Int))=false->(decide (50<(x.to.length:Int))=true->af (SV.bool true true) (SV.bool false true))/\(decide (50<(x.to.length:Int))=false->((True/\(True/\True/\True)/\(x.z'=x.z'/\x.o'=x.o'/\0+x.m<=x.m)/\True)/\{fr:=x.fr,to:=x.to,n:=x.m,f:=x.h,z:=x.z',o:=x.o'+0,c:=x.c',ad:=fun(_u66:List UInt8)=>false,ag:=fun(_u65:List UInt8)=>(0:Int):Sp}.mQ)/\((cw (b9 x.n x.f x.g) {fr:=x.fr,to:=x.to,n:=x.m,f:=x.h,z:=x.z',o:=x.o'+0,c:=x.c',ad:=fun(_u64:List UInt8)=>false,ag:=fun(_u63:List UInt8)=>(0:Int):Sp}).isSome=true ->∀(u62:Nat),(i5 (b9 x.n x.f x.g) {fr:=x.fr,to:=x.to,n:=x.m,f:=x.h,z:=x.z',o:=x.o'+0,c:=x.c',ad:=fun(_u61:List UInt8)=>false,ag:=fun(_u60:List UInt8)=>(0:Int):Sp}).length<=u62->(((x.z=x.z/\x.o=x.o/\0+x.n<=x.n)/\(True/\True/\True)/\(x.z'=x.z'/\x.o'=x.o'/\0+x.m<=x.m)/\True)/\{n:=x.n,f:=x.f,g:=x.g,z:=x.z,o:=x.o+0,c:=x.c,fr:=x.fr,to:=x.to,m:=x.m,h:=x.h,z':=x.z',o':=x.o'+0,c':=x.c':Xr}.Ok)/\({n:=x.n,f:=x.f,g:=x.g,z:=x.z,o:=x.o+0,c:=x.c,fr:=x.fr,to:=x.to,m:=x.m,h:=x.h,z':=x.z',o':=x.o'+0,c':=x.c':Xr}.hit=true->∀(u59:List UInt8×List UInt8),cm u59.fst u59.snd=true/\u59.fst.length<=1000/\u59.snd.length<=1000->(((x.z=x.z/\x.o=x.o/\0+x.n<=x.n)/\(True/\True/\True)/\True)/\x.n<=1000/\(∀(u58:Nat),u58<x.n->(x.f u58).length<1099511627776)/\x.fr.length<=1000/\x.to.length<=1000)/\∀(u57:Nat),(aW x.fr x.to (aX x.n x.f x.g)).length<=u57->(((true=true /\0+(i5 (b9 x.n x.f x.g) {fr:=x.fr,to:=x.to,n:=x.m,f:=x.h,z:=x.z',o:=x.o'+0,c:=x.c',ad:=fun(_u56:List UInt8)=>false,ag:=fun(_u55:List UInt8)=>(0:Int):Sp}).length<=(i5 (b9 x.n x.f x.g) {fr:=x.fr,to:=x.to,n:=x.m,f:=x.h,z:=x.z',o:=x.o'+0,c:=x.c',ad:=fun(_u54:List UInt8)=>false,ag:=fun(_u53:List UInt8)=>(0:Int):Sp}).length)/\(true=true/\0+(aW x.fr x.to (aX x.n x.f x.g)).length<=(aW x.fr x.to (aX x.n x.f x.g)).length)/\True)/\(i5 (b9 x.n x.f x.g) {fr:=x.fr,to:=x.to,n:=x.m,f:=x.h,z:=x.z',o:=x.o'+0,c:=x.c',ad:=fun(_u52:List UInt8)=>false,ag:=fun(_u51:List UInt8)=>(0:Int):Sp}).length<9223372036854775808) /\((dz (i5 (b9 x.n x.f x.g) {fr:=x.fr,to:=x.to,n:=x.m,f:=x.h,z:=x.z',o:=x.o'+0,c:=x.c',ad:=fun(_u50:List UInt8)=>false,ag:=fun(_u49:List UInt8)=>(0:Int):Sp}).length (fun(u48:Nat)=>((i5 (b9 x.n x.f x.g) {fr:=x.fr,to:=x.to,n:=x.m,f:=x.h,z:=x.z',o:=x.o'+0,c:=x.c',ad:=fun(_u47:List UInt8)=>false,ag:=fun(_u46:List UInt8)=>(0:Int):Sp}).getD u48 ([],[])).fst) (fun(u45:Nat)=>((i5 (b9 x.n x.f x.g) {fr:=x.fr,to:=x.to,n:=x.m,f:=x.h,z:=x.z',o:=x.o'+0,c:=x.c',ad:=fun(_u44:List UInt8)=>false,ag:=fun(_u43:List UInt8)=>(0:Int):Sp}).getD u45 ([],[])).snd) (aW x.fr x.to (aX x.n x.f x.g)).length (fun(u42:Nat)=>((aW x.fr x.to (aX x.n x.f x.g)).getD u42 ([],[])).fst) fun(u41:Nat)=>((aW x.fr x.to (aX x.n x.f x.g)).getD u41 ([],[])).snd)=true->af (SV.bool true false) (SV.bool false true)) /\((dz (i5 (b9 x.n x.f x.g) {fr:=x.fr,to:=x.to,n:=x.m,f:=x.h,z:=x.z',o:=x.o'+0,c:=x.c',ad:=fun(_u40:List UInt8)=>false,ag:=fun(_u39:List UInt8)=>(0:Int):Sp}).length (fun(u38:Nat)=>((i5 (b9 x.n x.f x.g) {fr:=x.fr,to:=x.to,n:=x.m,f:=x.h,z:=x.z',o:=x.o'+0,c:=x.c',ad:=fun(_u37:List UInt8)=>false,ag:=fun(_u36:List UInt8)=>(0:Int):Sp}).getD u38 ([],[])).fst) (fun(u35:Nat)=>((i5 (b9 x.n x.f x.g) {fr:=x.fr,to:=x.to,n:=x.m,f:=x.h,z:=x.z',o:=x.o'+0,c:=x.c',ad:=fun(_u34:List UInt8)=>false,ag:=fun(_u33:List UInt8)=>(0:Int):Sp}).getD u35 ([],[])).snd) (aW x.fr x.to (aX x.n x.f x.g)).length (fun(u32:Nat)=>((aW x.fr x.to (aX x.n x.f x.g)).getD u32 ([],[])).fst) fun(u31:Nat)=>((aW x.fr x.to (aX x.n x.f x.g)).getD u31 ([],[])).snd)=false->(u59.fst.length<1152921504606846976/\u59.snd.length<1152921504606846976)/\af (SV.bool false (cm u59.fst u59.snd)) (SV.bool false true))) /\({n:=x.n,f:=x.f,g:=x.g,z:=x.z,o:=x.o+0,c:=x.c,fr:=x.fr,to:=x.to,m:=x.m,h:=x.h,z':=x.z',o':=x.o'+0,c':=x.c':Xr}.hit=false->(((x.z=x.z/\x.o=x.o/\0+x.n<=x.n)/\(True/\True/\True)/\True)/\x.n<=1000/\(∀(u30:Nat),u30<x.n->(x.f u30).length<1099511627776)/\x.fr.length<=1000/\x.to.length<=1000)/\∀(u29:Nat),(aW x.fr x.to (aX x.n x.f x.g)).length<=u29->(((true=true/\0+(i5 (b9 x.n x.f x.g) {fr:=x.fr,to:=x.to,n:=x.m,f:=x.h,z:=x.z',o:=x.o'+0,c:=x.c',ad:=fun(_u28:List UInt8)=>false,ag:=fun(_u27:List UInt8)=>(0:Int):Sp}).length<=(i5 (b9 x.n x.f x.g) {fr:=x.fr,to:=x.to,n:=x.m,f:=x.h,z:=x.z',o:=x.o'+0,c:=x.c',ad:=fun(_u26:List UInt8)=>false,ag:=fun(_u25:List UInt8)=>(0:Int):Sp}).length)/\(true=true/\0+(aW x.fr x.to (aX x.n x.f x.g)).length<=(aW x.fr x.to (aX x.n x.f x.g)).length)/\True) /\(i5 (b9 x.n x.f x.g) {fr:=x.fr,to:=x.to,n:=x.m,f:=x.h,z:=x.z',o:=x.o'+0,c:=x.c',ad:=fun(_u24:List UInt8)=>false,ag:=fun(_u23:List UInt8)=>(0:Int):Sp}).length<9223372036854775808)/\((dz (i5 (b9 x.n x.f x.g) {fr:=x.fr,to:=x.to,n:=x.m,f:=x.h,z:=x.z',o:=x.o'+0,c:=x.c',ad:=fun(_u22:List UInt8)=>false,ag:=fun(_u21:List UInt8)=>(0:Int):Sp}).length (fun(u20:Nat)=>((i5 (b9 x.n x.f x.g) {fr:=x.fr,to:=x.to,n:=x.m,f:=x.h,z:=x.z',o:=x.o'+0,c:=x.c',ad:=fun(_u19:List UInt8)=>false,ag:=fun(_u18:List UInt8)=>(0:Int):Sp}).getD u20 ([],[])).fst) (fun(u17:Nat)=>((i5 (b9 x.n x.f x.g) {fr:=x.fr,to:=x.to,n:=x.m,f:=x.h,z:=x.z',o:=x.o'+0,c:=x.c',ad:=fun(_u16:List UInt8)=>false,ag:=fun(_u15:List UInt8)=>(0:Int):Sp}).getD u17 ([],[])).snd) (aW x.fr x.to (aX x.n x.f x.g)).length (fun(u14:Nat)=>((aW x.fr x.to (aX x.n x.f x.g)).getD u14 ([],[])).fst) fun(u13:Nat)=>((aW x.fr x.to (aX x.n x.f x.g)).getD u13 ([],[])).snd)=true ->af (SV.bool (true&&true) (decide ( ([]:List UInt8)=[]))) (SV.bool false true))/\((dz (i5 (b9 x.n x.f x.g) {fr:=x.fr,to:=x.to,n:=x.m,f:=x.h,z:=x.z',o:=x.o'+0,c:=x.c',ad:=fun(_u12:List UInt8)=>false,ag:=fun(_u11:List UInt8)=>(0:Int):Sp}).length (fun(u10:Nat)=>((i5 (b9 x.n x.f x.g) {fr:=x.fr,to:=x.to,n:=x.m,f:=x.h,z:=x.z',o:=x.o'+0,c:=x.c',ad:=fun(_u9:List UInt8)=>false,ag:=fun(_u8:List UInt8)=>(0:Int):Sp}).getD u10 ([],[])).fst) (fun(u7:Nat)=>((i5 (b9 x.n x.f x.g) {fr:=x.fr,to:=x.to,n:=x.m,f:=x.h,z:=x.z',o:=x.o'+0,c:=x.c',ad:=fun(_u6:List UInt8)=>false,ag:=fun(_u5:List UInt8)=>(0:Int):Sp}).getD u7 ([],[])).snd) (aW x.fr x.to (aX x.n x.f x.g)).length (fun(u4:Nat)=>((aW x.fr x.to (aX x.n x.f x.g)).getD u4 ([],[])).fst) fun(u3:Nat)=>((aW x.fr x.to (aX x.n x.f x.g)).getD u3 ([],[])).snd)=false->af (SV.bool true false) (SV.bool false true)))) /\((cw (b9 x.n x.f x.g) {fr:=x.fr,to:=x.to,n:=x.m,f:=x.h,z:=x.z',o:=x.o'+0,c:=x.c',ad:=fun(_u2:List UInt8)=>false,ag:=fun(_u1:List UInt8)=>(0:Int):Sp}).isSome=false->(((x.z=x.z/\x.o=x.o/\0+x.n<=x.n)/\(True/\True/\True)/\(x.z'=x.z'/\x.o'=x.o'/\0+x.m<=x.m)/\True)/\{n:=x.n,f:=x.f,g:=x.g,z:=x.z,o:=x.o+0,c:=x.c,fr:=x.fr,to:=x.to,m:=x.m,h:=x.h,z':=x.z',o':=x.o'+0,c':=x.c':Xr}.Ok)/\({n:=x.n,f:=x.f,g:=x.g,z:=x.z,o:=x.o+0,c:=x.c,fr:=x.fr,to:=x.to,m:=x.m,h:=x.h,z':=x.z',o':=x.o'+0,c':=x.c':Xr}.hit=true->∀(u0:List UInt8×List UInt8),cm u0.fst u0.snd=true/\u0.fst.length<=1000/\u0.snd.length<=1000->af (SV.bool true false) (SV.bool false true))/\({n:=x.n,f:=x.f,g:=x.g,z:=x.z,o:=x.o+0,c:=x.c,fr:=x.fr,to:=x.to,m:=x.m,h:=x.h,z':=x.z',o':=x.o'+0,c':=x.c':Xr}.hit=false->af (SV.bool (true&&true) (decide ( ([]:List UInt8)=[]))) (SV.bool false true)))))))/\(decide (bY x.n x.f x.g=0)=false->(decide (bY x.n x.f x.g=1)=true ->((!o8 x.m x.h)=true->af (SV.bool true true) (SV.bool false true))/\((!o8 x.m x.h)=false->af (SV.bool true true) (SV.bool false true)))/\(decide (bY x.n x.f x.g=1)=false->((!o8 x.m x.h)=true->af (SV.bool true true) (SV.bool false true))/\((!o8 x.m x.h)=false->af (SV.bool true true) (SV.bool false true)))))/\(vi x.n x.f x.g=false->(((x.z=x.z/\x.o=x.o/\0+x.n<=x.n)/\True)/\x.n<9223372036854775808)/\(decide (bY x.n x.f x.g=0)=true->af (SV.bool true true) (SV.bool false true))/\(decide (bY x.n x.f x.g=0)=false->(decide (bY x.n x.f x.g=1)=true->af (SV.bool true true) (SV.bool false true))/\(decide (bY x.n x.f x.g=1)=false->af (SV.bool true true) (SV.bool false true)))))):=⟨by kernel_rfl,by kernel_rfl⟩
theorem La {x:Xr}(h:(cw (b9 x.n x.f x.g) x.sp).isSome=true):cw (b9 x.n x.f x.g) x.sp=some x.told:=by
 unfold Xr.told i5
 cases e:cw (b9 x.n x.f x.g) x.sp with
 | none=>rw[e] at h;cases h
 | some l=>rfl
theorem L7 {x:Xr}(h0:bY x.n x.f x.g=0)(h1:(cw (b9 x.n x.f x.g) x.sp).isSome=true)(h2: ¬ x.told=x.Uq):x.hit=true:=by
 have hs:=sound (kj h0).1 (w:=x.sp) (root:=b9 x.n x.f x.g) (by unfold b9;rw[uH]) (La h1)
 rcases hs with hs | ⟨i,t,hi,ht,hc⟩
 ·exact absurd hs h2
 ·have hu:t∈ x.U:=(oJ _ _ rfl t).2 (by rw[uH];exact ht)
  obtain⟨j,hj,rfl⟩:=List.getElem_of_mem hu
  refine Xr.O6 (Xr.KB h0 h1 h2) hi hj ?_
  rw[List.getD_eq_getElem?_getD,List.getElem?_eq_getElem hj];exact hc
theorem OV {x:Xr}(h:x.hit=true)(h2:x.told=x.Uq):False:=by
 rw[Xr.vw (Xr.Fj h2)] at h;cases h
theorem Tv {n:Nat}{f:Nat->List UInt8}(h:o8 n f=true){i:Nat}(hi:i<n):(f i).length<=700:=by
 unfold o8 at h
 rw[Bool.and_eq_true] at h
 have:=List.all_eq_true.1 h.2 i (List.mem_range.2 hi)
 unfold node7 at this
 by_cases e:(700:Int)<((f i).length:Int)
 ·rw[decide_eq_true e] at this;cases this
 ·omega
theorem AE (x:Xr)(hn:x.n<9223372036854775808)(k k':Option Nat):aA (gJ QF 4 Tryz.f4 x.TN (x.seen k k') (.ret (.bool false true))):=by
 refine aA.pr (Ew x k k') ?_
 have esp:(⟨x.fr,x.to,x.m,x.h,x.z',x.o',x.c',fun _=>false,fun _=>0⟩:Sp)=x.sp:=rfl
 have exx:(⟨x.n,x.f,x.g,x.z,x.o,x.c,x.fr,x.to,x.m,x.h,x.z',x.o',x.c'⟩:Xr)=x:=rfl
 simp only[Nat.zero_add,Nat.add_zero,Nat.le_refl,true_and,and_true,Bool.not_eq_true',Bool.not_eq_false',decide_eq_true_eq,decide_eq_false_iff_not,esp,exx]
 have T:af (SV.bool true true) (SV.bool false true):=fun _=>rfl
 have hs:=AY x.told x.Uq
 have hl:=Ku (b9 x.n x.f x.g) x.sp
 have T2:af (SV.bool (true&&true) (decide True)) (SV.bool false true):=fun _=>rfl
 refine⟨fun _=>⟨hn,fun h0=>⟨fun _=>T,fun hfn=>⟨fun _=>T,fun h50=>⟨fun _=>T,fun h51=> ?_⟩⟩⟩,fun _=>⟨fun _=>⟨fun _=>T,fun _=>T⟩,fun _=>⟨fun _=>T,fun _=>T⟩⟩⟩,fun _=>⟨hn,fun _=>T,fun _=>⟨fun _=>T,fun _=>T⟩⟩⟩
 have hfew:x.sp.mQ:=⟨fun i hi=>by
  have:=Tv hfn hi
  show(x.h i).length<=1000
  omega,by show x.fr.length<=1000;omega,by show x.to.length<=1000;omega⟩
 have hok:x.Ok:=⟨hn,hfew⟩
 obtain⟨he,h40⟩:=kj h0
 have hpre:x.n<=1000/\(∀(i:Nat),i<x.n->(x.f i).length<1099511627776)/\x.fr.length<=1000/\x.to.length<=1000:=by
  refine⟨by omega,fun i hi=> ?_,hfew.fr,hfew.to⟩
  have:=(he.key (x.f i,x.g i) (by unfold aX;exact List.mem_map.2 ⟨i,List.mem_range.2 hi,rfl⟩)).2
  have:(x.f i).length<=6:=this
  omega
 refine⟨hfew,fun h1 c1 hc1=>⟨hok,fun hh p hp=>⟨hpre,fun c2 hc2=>⟨by omega,fun hd=>(OV hh (of_decide_eq_true (hs.symm.trans hd))).elim,fun hd=>⟨⟨by omega,by omega⟩,?_⟩⟩⟩,fun hh=>⟨hpre,fun c2 hc2=>⟨by omega,fun hd=>T2,fun hd=> ?_⟩⟩⟩,fun h1=>⟨hok,fun hh=> ?_,fun _=>T2⟩⟩
 ·rw[hp.1];exact T
 ·exact absurd (L7 h0 h1 (of_decide_eq_false (hs.symm.trans hd))) (by rw[hh];decide)
 ·rw[Xr.vw (Xr.Ed h1)] at hh;cases hh
end Go.Proofs.YtoibaecagklkaaaGreatDoor
namespace Go.Proofs.YtoibaecagklkaaaGreatDoor.Sx
open Go Go.RowKit Go.WideShapes Go.ChangeShapes
theorem zG {P:Program}{W:World}{H:Type}{enc:TypeId×Value->H}{e:TypeId}{fs:Array Field}{xs:List Value}{y:DataW H×List MemPlace}{m:Nat}(he:P.underlying e=some (.struct fs))
  (h:DataW.trod enc P W 0 (fun _=>true) true m e xs=some y) {i:Nat} {f:Field} (hf:fs[i]?=some f) (h1:P.cellsOf f.type=1) {x:Value} (hx:xs[f.offset]?=some x) :
  ∃ m' y',DataW.trod enc P W 0 (fun _=>true) true m' f.type [x]=some y':=by
 obtain⟨ys,m',rfl,_,_,hyl,hfield⟩:=DataW.trod_struct he h
 have:=hfield i f hf
 rw[h1] at this
 have hd:(xs.drop f.offset).take 1=[x]:=by
  rw[List.take_one,List.head?_drop,hx];rfl
 rw[hd,List.getElem?_eq_getElem (by rw[hyl];exact(Array.getElem?_eq_some_iff.1 hf).1)] at this
 exact⟨m',_,this⟩
def Stood (W:World)(b:Nat)(B:SB):Prop:=B.no=false->∃ ob,W.heap[b]?=some ob/\∀ E,bn E B ob
theorem Po {H:Type}{enc:TypeId×Value->H}{C:Checked}{os:Os}{f:FuncId}{fn:Func}{s:ChangeSpec}{apart fresh handsOn again:Bool}{boolT:TypeId}{X:World->Prop}
  (hX: ∀(w w':World),w.heap=w'.heap->X w->X w')
  (own:ownKnob C.prog.godebug=none) (started:os.Started) (noInit:C.prog.inits.idxOf? f=none) (hfn:C.prog.funcs[f]?=some fn)
  (witness: ∃(w:World) (tape:Tape) (i:Input),w.os=os/\(w.forCall tape i).Shaped C.prog/\i.vars=[]/\Input.okWide C.prog (w.forCall tape i) .any w.heap.size f i /\
    ((s.pre enc C.prog fn [] apart (w.forCall tape i).memory i.args/\X (w.forCall tape i).memory)/\sizedMet enc C.prog fn (OpenSpec.ofChange s) apart (w.forCall tape i).memory i.args)/\({}:Assume).holds C.prog (lone (Frame.enter C.prog f i.args .normal) [] (w.forCall tape i)))
  (hl:laidOutB C.prog=true) (hr:fn.resultTypes=#[boolT]) (hbt:C.prog.underlying boolT=some .bool) (_hformed:C.prog.cellsOf boolT=1)
  (hp: ∀ t∈ fn.params.toList,C.prog.readableRec t=true/\t<C.prog.types.size) (hvars:s.vars=[])
  (hspec: ∀ ds:List (DataW H),ds.length=fn.params.toList.length->s.fn H ds={results:=[.lit (.bool true)],args:=ds})
  (hcall: ∀(W:World) (args:Array Value) (ds:List (DataW H)) (ps:List MemPlace),
    (∀(j:Nat) t v,fn.params[j]?=some t->args[j]?=some v->∃ base,Value.okWide C.prog W .any base t v) ->
    DataW.TrodAll enc C.prog W 0 (fun _=>true) true fn.params.toList args.toList ds ps->X W ->
    Calls C.prog f args W fun e W'=>e=.returned (.bool true)/\Below W.heap.size W W') :
  ReturnsInHanded {} C os f .any (fun w args=>(s.pre enc C.prog fn [] apart w args/\X w)/\sizedMet enc C.prog fn (OpenSpec.ofChange s) apart w args) (s.post enc C.prog fn apart fresh handsOn again):=by
 refine returnsInHanded_of_change_and (C:=C) (X:=fun w _=>X w) (fun w w' _ hh h=>hX w w' hh h) own started noInit hfn witness ?_
 intro W base args ds gs before hval hW _ _ hXW _
 have hW':=hW
 obtain⟨p,q,hA,hV,rfl,hfz,hnd⟩:=hW
 rw[hvars] at hV
 obtain⟨rfl,rfl⟩:=trodVars_none hV
 have hlen:=(vX hA).1
 refine(hcall W args ds p (fun j t v h1 h2=>⟨base,hval j t v h1 h2⟩) hA hXW).mono fun e W' ⟨he,hb⟩=> ?_
 subst he
 have hs:=hspec ds hlen
 refine⟨_,rfl,Am (pa:=p) (pv:=[]) hW' ?_ ?_ ?_ rfl hb ?_⟩
 ·intro b sp hd
  rw[List.append_nil,hs,hr]
  exact trodAll_mk1 (shut_bool hbt true)
 ·intro sp hsp
  rw[List.append_nil,hs]
  exact qQ hl hb hp hA (fun x hx=>by have:=hW'.lt x (by simpa using hx);exact this) (fun x hx=>hsp x (by simpa using hx))
 ·intro sp _
  rw[hvars,List.append_nil,hs]
  rfl
 ·exact ok_one hr (by rfl) (okWide_bool_mk hbt _)
theorem cells_of_cell {W:World}{b:Nat}{v:Value}(h:W.cell? ⟨b,0,none⟩=some v): ∃ c ty fr,W.heap[b]?=some (.cells c ty fr)/\c[0]?=some v:=by
 unfold World.cell? at h
 cases hb:W.heap[b]? with
 | none=>rw[hb] at h;cases h
 | some o =>
   rw[hb] at h
   cases o<;>first | exact⟨_,_,_,rfl,h⟩ | cases h
end Go.Proofs.YtoibaecagklkaaaGreatDoor.Sx
