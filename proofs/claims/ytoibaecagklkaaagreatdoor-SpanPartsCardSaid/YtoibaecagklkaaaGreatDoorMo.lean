/-
  Hashes: what is written behind what was written: the contract.
-/
import Derived.Test.YtoibaecagklkaaaGreatDoorMn
import Derived.Test.YtoibaecagklkaaaGreatDoorMk
import Derived.Test.YtoibaecagklkaaaGreatDoorMl
import Derived.Test.YtoibaecagklkaaaGreatDoorMm
open Bool renaming and_eq_true->O,false->C,true->A
open Go.Proofs.Tryz renaming f25->Y,f60->ct,f61->Z,prog->I
open Int renaming toNat_natCast->ag
open List renaming append_assoc->an,append_nil->aK,ext_getElem?->cx,getD_eq_getElem?_getD->J,getElem?_append_left->a_,getElem?_append_right->a!,getElem?_eq_getElem->bf,getElem?_eq_none->R,getElem?_eq_some_iff->cy,getElem?_map->cS,getElem?_range->c4,getElem?_take_of_lt->c5,length_append->M,length_cons->c6,length_drop->c7,length_nil->c8,length_replicate->c9,length_take->bU,mem_append->c_,replicate->b_
open Nat renaming add_assoc->S,add_mul->c!,add_sub_cancel_left->dD,blt_eq->dR,div_add_mod->b!,le_refl->d_,mod_lt->d!,not_lt_zero->Q,zero_add->N,zero_le->V
open Option renaming map_some->ec,none->H,some->G
open UInt8 renaming ofNat->F
namespace Go.Proofs.YtoibaecagklkaaaGreatDoor
open Go Sx
set_option maxRecDepth 20000
theorem J' {B B':Nat->Int}(h: ∀ j,j<64->B j=B' j): ∀(n j:Nat),wL B n j=wL B' n j
 | 0,j=>by
   unfold wL;by_cases e:j<16
   ·simp only[e,if_true,VD,h (4*j) (by omega),h (4*j+1) (by omega),h (4*j+2) (by omega),h (4*j+3) (by omega)]
   ·simp only[e,if_false]
 | n+1,j=>by simp only[GN,J' h n]
theorem Gv {v v':Nat->Int}(h: ∀ j,j<8->v j=v' j)(k w:Int): ∀ j,j<8->yd v k w j=yd v' k w j:=by
 have h0:=h 0 (by decide);have h1:=h 1 (by decide);have h2:=h 2 (by decide);have h3:=h 3 (by decide);have h4:=h 4 (by decide);have h5:=h 5 (by decide);have h6:=h 6 (by decide);have h7:=h 7 (by decide);intro j hj
 match j,hj with
 | 0,_=>simp only[yd,Yq,t2F,h0,h1,h2,h4,h5,h6,h7]
 | 1,_=>exact h0
 | 2,_=>exact h1
 | 3,_=>exact h2
 | 4,_=>simp only[yd,Yq,h3,h4,h5,h6,h7]
 | 5,_=>exact h4
 | 6,_=>exact h5
 | 7,_=>exact h6
theorem ET {W W' B B':Nat->Int}(hW: ∀ j,j<8->W j=W' j)(hB: ∀ j,j<64->B j=B' j): ∀ i j,j<8->cW W B i j=cW W' B' i j
 | 0,j,hj=>hW j hj
 | i+1,j,hj=>by simp only[cW];rw[Gv (ET hW hB i) _ _ j hj,J' hB]
theorem BI {W W' B B':Nat->Int}(hW: ∀ j,j<8->W j=W' j)(hB: ∀ j,j<64->B j=B' j)(j:Nat)(hj:j<8):lq W B j=lq W' B' j:=by simp only[lq,hW j hj,ET hW hB 64 j hj]
theorem Az (T:List UInt8)(q j:Nat):yR T q j=((T.getD (64*q+j) 0).toNat:Int):=by unfold yR ai;rw[ag]
theorem AA {T:List UInt8}(D:List UInt8){q j:Nat}(h:64*q+j<T.length):yR (T++D) q j=yR T q j:=by rw[Az,Az,J,J,a_ h]
theorem G6 {T:List UInt8}(D:List UInt8){q j:Nat}(h:T.length<=64*q+j):yR (T++D) q j=((D.getD (64*q+j - T.length) 0).toNat:Int):=by rw[Az,J,J,a! h]
theorem p7 (T D:List UInt8): ∀ q,64*q<=T.length->∀ j,j<8->p6 (T++D) q j=p6 T q j
 | 0,_,_,_=>rfl
 | q+1,h,j,hj=>by simp only[p6];exact BI (p7 T D q (by omega)) (λi hi=>AA D (by omega)) j hj
theorem Z4 {W B:Nat->Int}(j:Nat):U (lq W B j):=um _
theorem SK (D:List UInt8)(i:Nat):0<=((D.getD i 0).toNat:Int)/\((D.getD i 0).toNat:Int)<=255:=by have:=(D.getD i 0).toNat_lt;omega
theorem getD_take {D:List UInt8}{n i:Nat}(h:i<n):(D.take n).getD i 0=D.getD i 0:=by rw[J,J,c5 h]
theorem L2 {x:Sh}{T:List UInt8}(h:qm x T)(D:List UInt8):(mc x D).Ok:=by
 refine⟨h.ok.w,λj hj=> ?_⟩;unfold mc;simp only;split
 ·exact SK _ _
 ·exact h.ok.b j hj
theorem Yi {x:Sh}{T:List UInt8}(h:qm x T){D:List UInt8}(j:Nat)(hj:j<T.length% 64+min D.length (64 - T.length% 64)):(mc x D).B j=yR (T++D.take (min D.length (64 - T.length% 64))) (T.length / 64) j:=by
 have hh:=h.h;have e:x.held.toNat=T.length% 64:=by omega
 unfold mc;simp only[e];have hd:=b! T.length 64;by_cases c:j<T.length% 64
 ·rw[if_neg (by omega),h.b j c,AA _ (by omega)]
 ·rw[if_pos (by omega),G6 _ (by omega),getD_take (by omega)];congr 3;omega
theorem Uh {x:Sh}{T D:List UInt8}(h:qm x T)(hc:T.length% 64+min D.length (64 - T.length% 64)<64):qm (mc x D) (T++D.take (min D.length (64 - T.length% 64))):=by
 have hl:(T++D.take (min D.length (64 - T.length% 64))).length=T.length+min D.length (64 - T.length% 64):=by rw[M,bU];omega
 have hd:=b! T.length 64;have e1:(T++D.take (min D.length (64 - T.length% 64))).length / 64=T.length / 64:=by omega
 have e2:(T++D.take (min D.length (64 - T.length% 64))).length% 64=T.length% 64+min D.length (64 - T.length% 64):=by omega
 refine⟨L2 h D,λj hj=> ?_,λj hj=> ?_,?_⟩
 ·rw[e1,p7 _ _ _ (by omega) j hj];exact h.w j hj
 ·rw[e2] at hj;rw[e1];exact Yi h j hj
 ·have hh:=h.h;have e:x.held.toNat=T.length% 64:=by omega
  rw[e2];show x.held+((min D.length (64 - x.held.toNat):Nat):Int)=_;rw[e];omega
theorem Ug {x:Sh}{T D:List UInt8}(h:qm x T)(hc:T.length% 64+min D.length (64 - T.length% 64)=64):qm ⟨lq (mc x D).W (mc x D).B,(mc x D).B,0,(mc x D).size⟩ (T++D.take (min D.length (64 - T.length% 64))):=by
 have hl:(T++D.take (min D.length (64 - T.length% 64))).length=T.length+min D.length (64 - T.length% 64):=by rw[M,bU];omega
 have hd:=b! T.length 64;have e1:(T++D.take (min D.length (64 - T.length% 64))).length / 64=T.length / 64+1:=by omega
 have e2:(T++D.take (min D.length (64 - T.length% 64))).length% 64=0:=by omega
 refine⟨⟨λj hj=>Z4 j,(L2 h D).b⟩,λj hj=> ?_,λj hj=> ?_,?_⟩
 ·rw[e1];simp only[p6];refine BI (λi hi=> ?_) (λi hi=> ?_) j hj
  ·rw[p7 _ _ _ (by omega) i hi];exact h.w i hi
  ·exact Yi h i (by omega)
 ·rw[e2] at hj;exact absurd hj (Q _)
 ·rw[e2];rfl
theorem Kc {x:Sh}{T s:List UInt8}(hx:Dj x T)(_hs:s.length<1152921504606846976) :
  aB (ry (M8 T s (((T++s).length:Int)% 18446744073709551616)) 60 ct [.ptr 0 A 0,.str C s] yg (x,T) (λy:Sh=>(Dj y (T++s),.ptr 0 A 0,(y,T++s)))):=by
 refine aB.of_eq (XM x T s _) ?_;dsimp only;obtain⟨hx,hz⟩:=hx;refine⟨⟨(0,⟨x.W,x.B,x.held,(x.size+(s.length:Int)% 18446744073709551616)% 18446744073709551616⟩),⟨V _,?_,?_⟩,rfl,aa.refl _,trivial⟩,λg hg=>⟨λa=> ?_,λa=> ?_⟩⟩
 ·show qm _ (T++s.take 0);rw[List.take_zero,aK];exact⟨⟨hx.ok.w,hx.ok.b⟩,hx.w,hx.b,hx.h⟩
 ·show(x.size+(s.length:Int)% 18446744073709551616)% 18446744073709551616=_;rw[hz,M];omega
 ·obtain⟨hk,hi,hsz⟩:=hg;have hD:s.drop g.1≠[]:=by simpa using a
  have hh:=hi.h;generalize hT:T++s.take g.1=T' at hi hh;have e:g.2.held.toNat=T'.length% 64:=by omega
  have hlt:T'.length% 64<64:=d! _ (by decide);have hp:=List.length_pos_iff.2 hD;have hdl:(s.drop g.1).length=s.length - g.1:=c7 ..;have hmin:min (s.drop g.1).length (64 - g.2.held.toNat)=min (s.drop g.1).length (64 - T'.length% 64):=by rw[e]
  generalize hc:min (s.drop g.1).length (64 - g.2.held.toNat)=cnt at hmin ⊢;have hT2:T++s.take (g.1+cnt)=T'++(s.drop g.1).take cnt:=by rw[← hT,an,List.take_add]
  have hsub:cj (s.drop g.1) (G (Operand.tmp 37)) H (cnt:Int) ((s.drop g.1).length:Int)=s.drop (g.1+cnt):=by simp only[cj,ag,List.drop_drop]
  have rest: ∀ {p:Prop},(8<=8+g.2.held.toNat/\8+g.2.held.toNat+(64 - g.2.held.toNat)<=8+64->(-9223372036854775808<=g.2.held+(cnt:Int)/\g.2.held+(cnt:Int)<=9223372036854775807)->(0<=(cnt:Int)/\(cnt:Int)<=((s.drop g.1).length:Int)/\((s.drop g.1).length:Int)<=((s.drop g.1).length:Int))->p)->p:=λh=>h (by omega) (by omega) (by omega);refine⟨by omega,λb=>absurd (of_decide_eq_true b) (by omega),λ_=>rest λr1 r2 r3=>⟨r1,r2,r3,λb=> ?_,λb=> ?_⟩⟩
  ·have b:=of_decide_eq_true b;refine⟨mc g.2 (s.drop g.1),?_,L2 hi _,λ_ _=>⟨(g.1+cnt,⟨lq (mc g.2 (s.drop g.1)).W (mc g.2 (s.drop g.1)).B,(mc g.2 (s.drop g.1)).B,0,(mc g.2 (s.drop g.1)).size⟩),⟨⟨?_,?_,hsz⟩,?_⟩,hsub,Sx.aa.cells (λE=>rfl) rfl,trivial⟩⟩
   ·subst hc;exact aa.refl _
   ·show g.1+cnt<=s.length;omega
   ·show qm _ (T++s.take (g.1+cnt));rw[hT2,hmin];exact Ug hi (by omega)
   ·show s.length - (g.1+cnt)<s.length - g.1;omega
  ·have b:=of_decide_eq_false b;refine⟨(g.1+cnt,mc g.2 (s.drop g.1)),⟨⟨?_,?_,hsz⟩,?_⟩,hsub,?_,trivial⟩
   ·show g.1+cnt<=s.length;omega
   ·show qm _ (T++s.take (g.1+cnt));rw[hT2,hmin];exact Uh hi (by omega)
   ·show s.length - (g.1+cnt)<s.length - g.1;omega
   ·subst hc;exact aa.refl _
 ·obtain⟨hk,hi,hsz⟩:=hg;have hD:s.drop g.1=[]:=by simpa using a
  have hl:(s.drop g.1).length=0:=by rw[hD];rfl
  rw[c7] at hl;rw[List.take_of_length_le (by omega)] at hi;exact⟨g.2,⟨hi,hsz⟩,aa.refl _,λ_=>rfl⟩
theorem Ob (x:Sh×List UInt8):(yg x).wf 0=A/\(yg x).ro=C/\(yg x).no=false:=⟨rfl,rfl,rfl⟩
theorem VG:az I 60 (qa yg yI):=by
 refine E8 (n:=20) (fn:=ct) Tryz.func60 (by kernel_rfl) (by kernel_rfl) Ob ?_;intro args g x h hp;unfold yI at h;split at h
 ·rename_i s;injection h with h;subst h;obtain⟨x,T⟩:=x;exact⟨M8 T s (((T++s).length:Int)% 18446744073709551616),[.ptr 0 A 0,.str C s],ZI _ _ _,λE=>rfl,rfl,λ_=>rfl,Kc hp.1 hp.2⟩
 ·cases h
end Go.Proofs.YtoibaecagklkaaaGreatDoor
namespace Go.Proofs.YtoibaecagklkaaaGreatDoor.Sx
open Go
theorem aq.E4 (c:aq)(i:Nat)(E E':Nat->Nat):(c.at i).val E=(c.at i).val E':=by cases c<;>rfl
structure Seen where
 key:Option Nat
 z:Bool
 o:Nat
 n:Nat
 c:Nat
 ay:List aq
def Seen.B (s:Seen):SB:=.view s.z s.o s.n s.ay
def Seen.sv (j:Nat)(s:Seen):SV:=.bS j s.ay.length s.z s.o 0 s.n s.c
def Seen.wU (m:Mem)(s:Seen):Prop:=∀ Γ E nx w,aL Γ E m nx w->s.B.no=C->∃ key X,s.key=G key/\m.get key=G X/\X.no=C/\∃ ob,w.heap[E key]?=G ob/\∀ E',bz E' s.B ob
def Ao (m:Mem)(v:SV)(s:Seen):Prop:=(∀(E E':Nat->Nat) (j:Nat),(∀ key,s.key=G key->E' j=E key)->v.val E=(s.sv j).val E')/\s.wU m
theorem pY {z:Bool}{o n:Nat}{ay:List aq}{ce:Array Value}{ty:TypeId}{fr:Nat×Nat}(h: ∀(i k:Nat) (col:aq),i<n->ay[k]?=G col->ce[o+i*ay.length+k]?=G ((col.at i).val (λ_=>0)))(E':Nat->Nat) :
  bz E' (.view z o n ay) (.cells ce ty fr):=⟨ce,ty,fr,rfl,λi k col hi hk=>by rw[aq.E4 col i E' (λ_=>0)];exact h i k col hi hk⟩
theorem UG (m:Mem)(ay:List aq):Ao m .aM ⟨H,A,0,0,0,ay⟩:=⟨λ_ _ _ _=>rfl,λ_ _ _ _ _ h=>by cases h⟩
theorem tF (i:Nat)(ay:List aq)(k:Nat)(col:aq)(h:(eU i ay)[k]?=G col): ∃ d,ay[k]?=G d/\∀(j:Nat) (E:Nat->Nat),(col.at j).val E=(d.at (i+j)).val E:=by obtain⟨d,h1,h2⟩:=nv h;exact⟨d,h1,λj E=>by rw[h2 j]⟩
theorem Qj {m:Mem}{key i n c n':Nat}{z:Bool}{ay:List aq}{ro:Bool}{tot:Nat}{ty:TypeId}(hk:m.get key=G (SB.rows z n' ay ro tot ty))(hn:i+n<=n') :
  Ao m (.aZ key ay.length z i n c) ⟨G key,z,i*ay.length,n,c,eU i ay⟩:=by
 refine⟨λE E' j h=>by simp[SV.val,Seen.sv,h key rfl],λΓ E nx w hs h=> ?_⟩;have hno:(SB.rows z n' ay ro tot ty).no=false:=by
  cases n with
  | zero =>
    have hz:z=false:=by
     cases z with
     | false=>rfl
     | true=>cases h
    subst hz;rfl
  | succ n=>exact SB.jo (i:=0) (by omega)
 obtain⟨ob,ho,ce,fr,rfl,_,_,_,h4⟩:=hs.nG key _ hk hno;refine⟨key,_,rfl,hk,hno,_,ho,pY λa b col ha hb=> ?_⟩;obtain⟨d,h1,h2⟩:=tF _ _ _ _ hb;have:=h4 (i+a) b d (by simp only at ha;omega) h1;rw[h2 a,aq.E4 d _ _ E,gq,← this];congr 1;rw[c!]
theorem Qk {m:Mem}{key o i n c n':Nat}{z:Bool}{ay:List aq}(hk:m.get key=G (SB.view z o n' ay))(hn:i+n<=n') :
  Ao m (.bS key ay.length z o i n c) ⟨G key,z,o+i*ay.length,n,c,eU i ay⟩:=by
 refine⟨λE E' j h=>by simp[SV.val,Seen.sv,h key rfl],λΓ E nx w hs h=> ?_⟩;have hno:(SB.view z o n' ay).no=false:=by
  cases n with
  | zero =>
    have hz:z=false:=by
     cases z with
     | false=>rfl
     | true=>cases h
    subst hz;rfl
  | succ n=>exact SB.Ae (i:=0) (by omega)
 obtain⟨ob,ho,ce,ty,fr,rfl,h4⟩:=hs.nG key _ hk hno;refine⟨key,_,rfl,hk,hno,_,ho,pY λa b col ha hb=> ?_⟩;obtain⟨d,h1,h2⟩:=tF _ _ _ _ hb;have:=h4 (i+a) b d (by simp only at ha;omega) h1;rw[h2 a,aq.E4 d _ _ E,gq,← this];congr 1;show o+i*ay.length+a*ay.length+b=o+(i+a)*ay.length+b;rw[c!];omega
def Yn:SV->Int
 | .int _ _ n=>n
 | _=>0
def US:SV->Bool
 | .bool _ b=>b
 | _=>C
def rE:SV->List UInt8
 | .str _ s=>s
 | _=>[]
def Hh (l:List SV)(w j:Nat):Option aq:=match l[j]? with
 | some (.int k _ _)=>G (.int k λi=>Yn (l.getD (i*w+j) .bO))
 | some (.bool _ _)=>G (.bool λi=>US (l.getD (i*w+j) .bO))
 | some (.str _ _)=>G (.str λi=>rE (l.getD (i*w+j) .bO))
 | _=>H
def kindOk:aq->SV->Bool
 | .int k _,.int k' _ _=>decide (k=k')
 | .bool _,.bool _ _=>A
 | .str _,.str _ _=>A
 | _,_=>C
theorem OI {l:List SV}{w j i:Nat}{col:aq}(h:Hh l w j=G col)(hk:kindOk col (l.getD (i*w+j) .bO)=A)(E:Nat->Nat):(l.getD (i*w+j) .bO).val E=(col.at i).val E:=by
 unfold Hh at h;split at h
 ·injection h with h;subst h;unfold kindOk at hk;split at hk
  ·rename_i e1 e2;injection e1 with e1 _;subst e1;simp only[decide_eq_true_eq] at hk;rw[e2];simp only[aq.at,e2,Yn,SV.val,hk]
  ·cases ‹aq.int _ _=aq.bool _›
  ·cases ‹aq.int _ _=aq.str _›
  ·cases hk
 ·injection h with h;subst h;unfold kindOk at hk;split at hk
  ·cases ‹aq.bool _=aq.int _ _›
  ·rename_i e1 e2;rw[e2];simp only[aq.at,e2,US,SV.val]
  ·cases ‹aq.bool _=aq.str _›
  ·cases hk
 ·injection h with h;subst h;unfold kindOk at hk;split at hk
  ·cases ‹aq.str _=aq.int _ _›
  ·cases ‹aq.str _=aq.bool _›
  ·rename_i e1 e2;rw[e2];simp only[aq.at,e2,rE,SV.val]
  ·cases hk
 ·cases h
theorem seen_cells {m:Mem}{key o n c tot:Nat}{cl:Bool}{ty:TypeId}{cs:List SV}{ay:List aq}(hk:m.get key=G (.cells cs tot ty))
  (hc: ∀(i j:Nat) (col:aq),i<n->ay[j]?=G col->∃ v,cs[o+i*ay.length+j]?=G v/\∀ E,v.val E=(col.at i).val E):Ao m (.slc key o n cl c) ⟨G key,C,o,n,c,ay⟩:=by
 refine⟨λE E' j h=>by simp[SV.val,Seen.sv,h key rfl],λΓ E nx w hs _=> ?_⟩;obtain⟨ob,ho,ce,fr,rfl,_,h4,_⟩:=hs.nG key _ hk rfl;refine⟨key,_,rfl,hk,rfl,_,ho,pY λi j col hi hj=> ?_⟩;obtain⟨v,g1,g2⟩:=hc i j col hi hj;rw[h4 _ _ g1,g2 E,aq.E4 col i E (λ_=>0)]
def AI (l:List SV)(w:Nat):Nat->Nat->Option (List aq)
 | _,0=>G []
 | j,r+1=>match Hh l w j,AI l w (j+1) r with
   | some c,G cs=>G (c::cs)
   | _,_=>H
theorem AJ {l:List SV}{w:Nat}: ∀ {r j:Nat} {ay:List aq},AI l w j r=G ay->ay.length=r/\∀(k:Nat) (c:aq),ay[k]?=G c->Hh l w (j+k)=G c
 | 0,_,_,h=>by injection h with h;subst h;exact⟨rfl,λk c hc=>by simp at hc⟩
 | r+1,j,ay,h=>by
   unfold AI at h;split at h
   ·rename_i c cs h1 h2;injection h with h;subst h;obtain⟨g1,g2⟩:=AJ h2;refine⟨by simp[g1],λk d hd=> ?_⟩;cases k with
    | zero=>injection hd with hd;subst hd;exact h1
    | succ k =>have:=g2 k d (by simpa using hd);rw[show j+(k+1)=j+1+k by omega];exact this
   ·cases h
def rQ (l:List SV)(w i j:Nat):List aq->Bool
 | []=>A
 | col::r=>Nat.blt (i*w+j) l.length&&kindOk col (l.getD (i*w+j) .bO)&&rQ l w i (j+1) r
theorem yV {l:List SV}{w i:Nat}: ∀ {ay:List aq} {j:Nat},rQ l w i j ay=A->∀(k:Nat) (c:aq),ay[k]?=G c->i*w+(j+k)<l.length/\kindOk c (l.getD (i*w+(j+k)) .bO)=A
 | [],_,_,k,c,hc=>by simp at hc
 | d::r,j,h,k,c,hc=>by
   simp only[rQ,O,dR] at h;obtain⟨⟨h1,h2⟩,h3⟩:=h;cases k with
   | zero=>injection hc with hc;subst hc;exact⟨h1,h2⟩
   | succ k =>have:=yV h3 k c (by simpa using hc);rw[show j+(k+1)=j+1+k by omega];exact this
def Dl (l:List SV)(w:Nat)(ay:List aq):Nat->Bool
 | 0=>A
 | i+1=>rQ l w i 0 ay&&Dl l w ay i
theorem Dm {l:List SV}{w:Nat}{ay:List aq}: ∀ {n:Nat},Dl l w ay n=A->∀ i,i<n->rQ l w i 0 ay=A
 | 0,_,i,hi=>absurd hi (Q _)
 | n+1,h,i,hi=>by
   simp only[Dl,O] at h;by_cases e:i=n
   ·subst e;exact h.1
   ·exact Dm h.2 i (by omega)
def yF (d:List aq)(m:Mem):SV->Option (Prop×Seen)
 | .aM=>G (True,⟨H,A,0,0,0,d⟩)
 | .aZ key w z i n c=>(match m.get key with
   | some (.rows z' n' ay _ _ _)=>if w=ay.length then G (z=z'/\i+n<=n',⟨G key,z,i*w,n,c,eU i ay⟩)else H
   | _=>H)
 | .bS key w z o i n c=>(match m.get key with
   | some (.view z' o' n' ay)=>if w=ay.length then G (z=z'/\o'=o/\i+n<=n',⟨G key,z,o+i*w,n,c,eU i ay⟩)else H
   | _=>H)
 | .slc key o n _ c=>(match m.get key with
   | some (.cells cs _ _)=>(match n with
     | 0=>G (True,⟨G key,C,o,0,c,d⟩)
     | n+1=>(match AI (cs.drop o) d.length 0 d.length with
       | some ay=>if Dl (cs.drop o) d.length ay (n+1)=A then G (True,⟨G key,C,o,n+1,c,ay⟩)else H
       | none=>H))
   | _=>H)
 | _=>H
theorem Q4 {d:List aq}{m:Mem}{v:SV}{p:Prop}{s:Seen}(h:yF d m v=G (p,s))(hp:p):Ao m v s:=by
 unfold yF at h;split at h
 ·injection h with h;injection h with h1 h2;subst h2;exact UG m d
 ·rename_i key w z i n c;split at h
  ·rename_i z' n' ay ro tot ty hk;split at h
   ·rename_i hc;subst hc;injection h with h;injection h with h1 h2;subst h1;subst h2;obtain⟨rfl,hp⟩:=hp;exact Qj hk hp
   ·cases h
  ·cases h
 ·rename_i key w z o i n c;split at h
  ·rename_i z' o' n' ay hk;split at h
   ·rename_i hc;subst hc;injection h with h;injection h with h1 h2;subst h1;subst h2;obtain⟨rfl,rfl,hp⟩:=hp;exact Qk hk hp
   ·cases h
  ·cases h
 ·rename_i key o n cl c;split at h
  ·rename_i cs tot ty hk;split at h
   ·injection h with h;injection h with h1 h2;subst h2;exact seen_cells hk λi j col hi=>absurd hi (Q _)
   ·rename_i n;split at h
    ·rename_i ay hcols;split at h
     ·rename_i hall;injection h with h;injection h with h1 h2;subst h2;obtain⟨g1,g2⟩:=AJ hcols;refine seen_cells hk λi j col hi hj=> ?_;have h1:=g2 j col hj;obtain⟨h2,h3⟩:=yV (Dm hall i hi) j col hj;rw[N] at h1 h2 h3;have h4:=OI h1 h3;refine⟨(cs.drop o).getD (i*d.length+j) .bO,?_,h4⟩;rw[g1,S,← List.getElem?_drop,J,bf h2];rfl
     ·cases h
    ·cases h
  ·cases h
 ·cases h
inductive Q7 where
 | one
 | slice (d:List aq)
inductive tO where
 | of (h:Q7)
 | agg (l:List Q7)
abbrev Pk (α:Type):=Option (α×Prop×List Seen)
def B3 (m:Mem)(j:Nat)(h:Q7)(v:SV):Pk SV:=match h with
 | .one=>if v.wf 0=A then G (CI v,True,[])else H
 | .slice d=>match yF d m v with
   | some (p,s)=>G (s.sv j,p,[s])
   | none=>H
def xZ (m:Mem):Nat->List Q7->List SV->Pk (List SV)
 | _,[],[]=>G ([],True,[])
 | j,h::hs,v::vs=>(match B3 m j h v with
   | some (v',p,l)=>(match xZ m (j+l.length) hs vs with
     | some (vs',q,r)=>G (v'::vs',p/\q,l++r)
     | none=>H)
   | none=>H)
 | _,_,_=>H
def Es (m:Mem)(j:Nat)(h:tO)(v:SV):Pk SV:=match h,v with
 | .of h,v=>B3 m j h v
 | .agg hs,.agg vs=>(match xZ m j hs vs with
   | some (vs',p,l)=>G (.agg vs',p,l)
   | none=>H)
 | _,_=>H
def mb (m:Mem):Nat->List tO->List SV->Pk (List SV)
 | _,[],[]=>G ([],True,[])
 | j,h::hs,v::vs=>(match Es m j h v with
   | some (v',p,l)=>(match mb m (j+l.length) hs vs with
     | some (vs',q,r)=>G (v'::vs',p/\q,l++r)
     | none=>H)
   | none=>H)
 | _,_,_=>H
def Names (E E':Nat->Nat)(j:Nat)(l:List Seen):Prop:=∀(i:Nat) (s:Seen),l[i]?=G s->∀ key,s.key=G key->E' (j+i)=E key
theorem Names.left {E E':Nat->Nat}{j:Nat}{l r:List Seen}(h:Names E E' j (l++r)):Names E E' j l:=λi s hi=>h i s (by rw[a_ (cy.1 hi).1];exact hi)
theorem Names.right {E E':Nat->Nat}{j:Nat}{l r:List Seen}(h:Names E E' j (l++r)):Names E E' (j+l.length) r:=λi s hi=>by rw[S];exact h (l.length+i) s (by rw[a! (by omega)];rw[dD];exact hi)
theorem I5 {m:Mem}{j:Nat}{h:Q7}{v v':SV}{p:Prop}{l:List Seen}(e:B3 m j h v=G (v',p,l))(hp:p):(∀ E E',Names E E' j l->v.val E=v'.val E')/\∀ s∈ l,s.wU m:=by
 unfold B3 at e;split at e
 ·split at e
  ·rename_i hw;injection e with e;injection e with e1 e;injection e with e2 e3;subst e1;subst e3;exact⟨λE E' _=>by rw[ER];exact SV.wG hw E E',λs hs=>by cases hs⟩
  ·cases e
 ·split at e
  ·rename_i q s hq;injection e with e;injection e with e1 e;injection e with e2 e3;subst e1;subst e2;subst e3;obtain⟨h1,h2⟩:=Q4 hq hp;exact⟨λE E' hn=>h1 E E' j λkey hk=>hn 0 s rfl key hk,λt ht=>by rw[List.mem_singleton] at ht;subst ht;exact h2⟩
  ·cases e
theorem Et {m:Mem}: ∀ {hs:List Q7} {j:Nat} {vs vs':List SV} {p:Prop} {l:List Seen},xZ m j hs vs=G (vs',p,l)->p->(∀ E E',Names E E' j l->SV.vals E vs=SV.vals E' vs')/\∀ s∈ l,s.wU m
 | [],_,[],_,_,_,e,_=>by injection e with e;injection e with e1 e;injection e with e2 e3;subst e1;subst e3;exact⟨λ_ _ _=>rfl,λs hs=>by cases hs⟩
 | h::hs,j,v::vs,vs',p,l,e,hp=>by
   simp only[xZ] at e;split at e
   ·rename_i v1 p1 l1 h1;split at e
    ·rename_i vs2 p2 l2 h2;injection e with e;injection e with e1 e;injection e with e2 e3;subst e1;subst e2;subst e3;obtain⟨a1,a2⟩:=I5 h1 hp.1;obtain⟨b1,b2⟩:=Et h2 hp.2;refine⟨λE E' hn=>by simp only[SV.vals];rw[a1 E E' hn.left,b1 E E' hn.right],λs hs=> ?_⟩;rcases c_.1 hs with hs | hs
     ·exact a2 s hs
     ·exact b2 s hs
    ·cases e
   ·cases e
 | [],_,_::_,_,_,_,e,_=>by cases e
 | _::_,_,[],_,_,_,e,_=>by cases e
theorem Ub {m:Mem}{j:Nat}{h:tO}{v v':SV}{p:Prop}{l:List Seen}(e:Es m j h v=G (v',p,l))(hp:p):(∀ E E',Names E E' j l->v.val E=v'.val E')/\∀ s∈ l,s.wU m:=by
 unfold Es at e;split at e
 ·exact I5 e hp
 ·split at e
  ·rename_i vs' p' l' h';injection e with e;injection e with e1 e;injection e with e2 e3;subst e1;subst e2;subst e3;obtain⟨a1,a2⟩:=Et h' hp;exact⟨λE E' hn=>by simp only[SV.val];rw[a1 E E' hn],a2⟩
  ·cases e
 ·cases e
theorem Eu {m:Mem}: ∀ {hs:List tO} {j:Nat} {vs vs':List SV} {p:Prop} {l:List Seen},mb m j hs vs=G (vs',p,l)->p->(∀ E E',Names E E' j l->SV.vals E vs=SV.vals E' vs')/\∀ s∈ l,s.wU m
 | [],_,[],_,_,_,e,_=>by injection e with e;injection e with e1 e;injection e with e2 e3;subst e1;subst e3;exact⟨λ_ _ _=>rfl,λs hs=>by cases hs⟩
 | h::hs,j,v::vs,vs',p,l,e,hp=>by
   simp only[mb] at e;split at e
   ·rename_i v1 p1 l1 h1;split at e
    ·rename_i vs2 p2 l2 h2;injection e with e;injection e with e1 e;injection e with e2 e3;subst e1;subst e2;subst e3;obtain⟨a1,a2⟩:=Ub h1 hp.1;obtain⟨b1,b2⟩:=Eu h2 hp.2;refine⟨λE E' hn=>by simp only[SV.vals];rw[a1 E E' hn.left,b1 E E' hn.right],λs hs=> ?_⟩;rcases c_.1 hs with hs | hs
     ·exact a2 s hs
     ·exact b2 s hs
    ·cases e
   ·cases e
 | [],_,_::_,_,_,_,e,_=>by cases e
 | _::_,_,[],_,_,_,e,_=>by cases e
def SD (j:Nat)(h:Q7)(v:SV)(l:List Seen):SV×Nat×List Seen:=match h,l with
 | .slice _,s::r=>(s.sv j,j+1,r)
 | _,l=>(v,j,l)
def Ft:Nat->List Q7->List SV->List Seen->List SV×Nat×List Seen
 | j,h::hs,v::vs,l=>match SD j h v l with
   | (v',j',l')=>match Ft j' hs vs l' with
     | (vs',j'',l'')=>(v'::vs',j'',l'')
 | j,_,vs,l=>(vs,j,l)
def SE (j:Nat)(h:tO)(v:SV)(l:List Seen):SV×Nat×List Seen:=match h,v with
 | .of h,v=>SD j h v l
 | .agg hs,.agg vs=>(match Ft j hs vs l with
   | (vs',j',l')=>(.agg vs',j',l'))
 | _,v=>(v,j,l)
def Fu:Nat->List tO->List SV->List Seen->List SV×Nat×List Seen
 | j,h::hs,v::vs,l=>match SE j h v l with
   | (v',j',l')=>match Fu j' hs vs l' with
     | (vs',j'',l'')=>(v'::vs',j'',l'')
 | j,_,vs,l=>(vs,j,l)
theorem HD {m:Mem}{j:Nat}{h:Q7}{v v':SV}{p:Prop}{l:List Seen}(e:B3 m j h v=G (v',p,l))(r:List Seen):SD j h v' (l++r)=(v',j+l.length,r):=by
 unfold B3 at e;split at e
 ·split at e
  ·injection e with e;injection e with e1 e;injection e with e2 e3;subst e1;subst e3;rfl
  ·cases e
 ·split at e
  ·injection e with e;injection e with e1 e;injection e with e2 e3;subst e1;subst e3;rfl
  ·cases e
theorem Dz {m:Mem}: ∀ {hs:List Q7} {j:Nat} {vs vs':List SV} {p:Prop} {l:List Seen},xZ m j hs vs=G (vs',p,l)->∀ r,Ft j hs vs' (l++r)=(vs',j+l.length,r)
 | [],_,[],_,_,_,e,r=>by injection e with e;injection e with e1 e;injection e with e2 e3;subst e1;subst e3;rfl
 | h::hs,j,v::vs,vs',p,l,e,r=>by
   simp only[xZ] at e;split at e
   ·rename_i v1 p1 l1 h1;split at e
    ·rename_i vs2 p2 l2 h2;injection e with e;injection e with e1 e;injection e with e2 e3;subst e1;subst e2;subst e3;have a:=HD h1 (l2++r);have b:=Dz h2 r;rw[an];simp only[Ft,a,b,M,S]
    ·cases e
   ·cases e
 | [],_,_::_,_,_,_,e,_=>by cases e
 | _::_,_,[],_,_,_,e,_=>by cases e
theorem SF {m:Mem}{j:Nat}{h:tO}{v v':SV}{p:Prop}{l:List Seen}(e:Es m j h v=G (v',p,l))(r:List Seen):SE j h v' (l++r)=(v',j+l.length,r):=by
 unfold Es at e;split at e
 ·exact HD e r
 ·split at e
  ·rename_i vs' p' l' h';injection e with e;injection e with e1 e;injection e with e2 e3;subst e1;subst e2;subst e3;have a:=Dz h' r;simp only[SE,a]
  ·cases e
 ·cases e
theorem DA {m:Mem}: ∀ {hs:List tO} {j:Nat} {vs vs':List SV} {p:Prop} {l:List Seen},mb m j hs vs=G (vs',p,l)->∀ r,Fu j hs vs' (l++r)=(vs',j+l.length,r)
 | [],_,[],_,_,_,e,r=>by injection e with e;injection e with e1 e;injection e with e2 e3;subst e1;subst e3;rfl
 | h::hs,j,v::vs,vs',p,l,e,r=>by
   simp only[mb] at e;split at e
   ·rename_i v1 p1 l1 h1;split at e
    ·rename_i vs2 p2 l2 h2;injection e with e;injection e with e1 e;injection e with e2 e3;subst e1;subst e2;subst e3;have a:=SF h1 (l2++r);have b:=DA h2 r;rw[an];simp only[Fu,a,b,M,S]
    ·cases e
   ·cases e
 | [],_,_::_,_,_,_,e,_=>by cases e
 | _::_,_,[],_,_,_,e,_=>by cases e
def filled (sh:List tO)(vs:List SV)(l:List Seen):List SV:=(Fu 0 sh vs l).1
theorem OR {m:Mem}{hs:List tO}{vs vs':List SV}{p:Prop}{l:List Seen}(e:mb m 0 hs vs=G (vs',p,l)):filled hs vs' l=vs':=by have:=DA e [];rw[aK] at this;unfold filled;rw[this]
def j9:Nat->List Seen->Mem
 | _,[]=>[]
 | j,s::r=>(j,s.B)::j9 (j+1) r
theorem dW: ∀ {l:List Seen} {j k:Nat} {B:SB},(j9 j l).get k=G B->∃ i s,k=j+i/\l[i]?=G s/\B=s.B
 | [],_,_,_,h=>by cases h
 | s::r,j,k,B,h=>by
   rcases Mem.fN h with ⟨rfl,rfl⟩ | ⟨_,h⟩
   ·exact⟨0,s,rfl,rfl,rfl⟩
   ·obtain⟨i,t,e1,e2,e3⟩:=dW h;exact⟨i+1,t,by omega,by simpa using e2,e3⟩
def og (E:Nat->Nat)(l:List Seen)(j:Nat):Nat:=match l[j]? with
 | some s=>(match s.key with
   | some k=>E k
   | none=>0)
 | none=>0
theorem IK (E:Nat->Nat)(l:List Seen):Names E (og E l) 0 l:=λi s hi key hk=>by simp only[og,N,hi,hk]
theorem UH {m:Mem}{l:List Seen}(h: ∀ s∈ l,s.wU m){Γ:bh}{E:Nat->Nat}{nx:Nat}{w:World}(hs:aL Γ E m nx w) :
  aL (bh.at w (λ_=>False) hs.KU (λ_ _ h=>h)) (og E l) (j9 0 l) l.length w:=by
 refine⟨λj B a hj hn=> ?_,λj j' B B' a hj hn hj' hn' hr=> ?_,λj B hj=> ?_,λj B a hj hn hro=> ?_,Ext.refl _ _,⟨V _,λk hk=>absurd hk (Q _)⟩,λD hD=>by cases hD⟩
 ·obtain⟨i,s,e1,e2,rfl⟩:=dW hj;rw[N] at e1;subst e1;obtain⟨hn1,rfl⟩:=(SB.jq (B:=s.B) rfl).1 hn;obtain⟨key,X,g1,g2,g3,ob,g4,g5⟩:=h s (List.mem_of_getElem? e2) Γ E nx w hs hn1;exact⟨ob,by simp only[og,e2,g1];exact g4,g5 _⟩
 ·obtain⟨i,s,e1,e2,rfl⟩:=dW hj;obtain⟨i',s',e1',e2',rfl⟩:=dW hj';rcases hr with hr | hr<;>cases hr
 ·obtain⟨i,s,e1,e2,rfl⟩:=dW hj;have:=(cy.1 e2).1;omega
 ·obtain⟨i,s,e1,e2,rfl⟩:=dW hj;cases hro
noncomputable def bE (sh:List tO)(spec:List SV->List Seen->Option (Prop×cL)):PT:=λargs m nx K=>match mb m 0 sh args with
 | some (vs,p,l)=>(match spec vs l with
   | some (q,a)=>.and (.atom (p/\q)) (a.vc m nx K)
   | none=>.fail "arguments that nothing is said of")
 | none=>.fail "a slice that is not known"
theorem bQ (sh:List tO)(spec:List SV->List Seen->Option (Prop×cL)):aQ (bE sh spec):=by
 intro args m nx K K' hK h;unfold bE at h ⊢;split at h
 ·split at h
  ·exact⟨h.1,cL.wH hK h.2⟩
  ·exact h
 ·exact h
theorem fT {P:Program}{f:FuncId}{fn:Func}(hf:P.funcs[f]?=G fn) (hn:(fn.name== "runtime.NumGoroutine")=C) (hb:fn.body.isSome=A) {n:Nat} {sh:List tO}
  {spec:List SV->List Seen->Option (Prop×cL)}
  (h: ∀ vs l q a,spec vs l=G (q,a)->q->∃ cfg,Good P cfg/\SV.fH l.length (filled sh vs l)=A/\a.Ok/\aB (fG P (calling P cfg n) [] Ad (cfg.bx f) cfg.rounds fn (filled sh vs l) (j9 0 l) l.length (λv m _=>a.fit v m))):az P f (bE sh spec):=by
 intro args m nx K hk hwf hargs Γ E w hs;unfold bE at hk;split at hk
 ·rename_i vs p l hx;split at hk
  ·rename_i q a hq;obtain⟨⟨hxp,hqq⟩,hk⟩:=hk;obtain⟨cfg,hg,h1,h2,h3⟩:=h _ _ _ _ hq hqq;rw[OR hx] at h1 h3;obtain⟨e1,e2⟩:=Eu hx hxp;have hwm: ∀(j:Nat) (l:List Seen),Mem.wf l.length (j9 j l)=true:=by
    intro j l;have: ∀(j n:Nat) (l:List Seen),Mem.wf n (j9 j l)=true:=by
     intro j n l;induction l generalizing j with
     | nil=>rfl
     | cons s r ih=>simp only[j9,Mem.wf,O];exact⟨rfl,ih _⟩
    exact this j _ l
   have hc:=eV hg hf hn hb h3 (hwm 0 l) h1 (UH e2 hs);rw[← e1 E _ (IK E l)] at hc;refine fV hf hn hb (hc.mono ?_);rintro e w' ⟨v,rfl,E',sv,m',nx',_,_,g3,g4,g5⟩;refine⟨v,rfl,?_⟩;cases sv with
   | none=>exact g5.elim
   | some u=>rw[g3 u rfl];exact cL.told hs hwf g4 h2 g5 hk
  ·exact hk.elim
 ·exact hk.elim
def TH (m:Mem)(h:Q7)(v:SV):Bool:=match h with
 | .one=>isLit v
 | .slice _=>litCells' m v
where litCells' (m:Mem):SV->Bool
 | .aM=>A
 | .slc key _ _ _ _=>(match m.get key with
   | some (.cells cs _ _)=>Aq cs
   | _=>C)
 | _=>C
def NI (m:Mem):List Q7->List SV->Bool
 | h::hs,v::vs=>TH m h v&&NI m hs vs
 | _,_=>A
def Z1 (m:Mem):tO->SV->Bool
 | .of h,v=>TH m h v
 | .agg hs,.agg vs=>NI m hs vs
 | _,_=>C
def FY (m:Mem):List tO->List SV->Bool
 | h::hs,v::vs=>Z1 m h v&&FY m hs vs
 | _,_=>A
noncomputable def uS (sh:List tO)(spec:List SV->List Seen->Option (Prop×cL)):PT:=λargs m nx K=>match FY m sh args with
 | true=>(match mb m 0 sh args with
   | some (vs,p,l)=>(match spec vs l with
     | some (q,a)=>.and (.atom (p/\q)) (a.XN m nx K)
     | none=>.fail "arguments that nothing is said of")
   | none=>.fail "a slice that is not known")
 | false=>bE sh spec args m nx K
theorem EZ (sh:List tO)(spec:List SV->List Seen->Option (Prop×cL)):aQ (uS sh spec):=by
 intro args m nx K K' hK h;unfold uS at h ⊢;split at h
 ·split at h
  ·split at h
   ·exact⟨h.1,cL.oz hK h.2⟩
   ·exact h
  ·exact h
 ·exact bQ sh spec _ _ _ _ _ hK h
theorem Rj {P:Program}{f:FuncId}{sh:List tO}{spec:List SV->List Seen->Option (Prop×cL)}(h:az P f (bE sh spec)):az P f (uS sh spec):=by
 intro args m nx K hk hwf hargs Γ E w hs;unfold uS at hk;split at hk
 ·have:(bE sh spec args m nx (aaq Γ E nx K)).holds:=by
   unfold bE;split at hk
   ·rename_i vs p l hp;split at hk
    ·rename_i q a hq
     first
      | exact⟨hk.1,cL.m4 hk.2⟩
      | (rw[hp];simp only[hq];exact⟨hk.1,cL.m4 hk.2⟩)
    ·exact hk.elim
   ·exact hk.elim
  refine(h args m nx _ this hwf hargs Γ E w hs).mono (λe w' hh=> ?_) (λ_ _ h=>h);obtain⟨E',sv,m',nx',h1,h2,h3,h4,h5⟩:=hh;cases sv with
  | none=>exact h5.elim
  | some v=>rw[h3 v rfl];exact h5 E' w' h1 h2 h4
 ·exact h args m nx K hk hwf hargs Γ E w hs
end Go.Proofs.YtoibaecagklkaaaGreatDoor.Sx
namespace Go.Proofs.YtoibaecagklkaaaGreatDoor
open Go Sx
set_option maxRecDepth 20000
noncomputable def gD (cfg:fJ)(f:Nat)(fn:Func)(args:List SV)(l:List Seen)(a:cL):VC:=fG I (calling I cfg 20) [] Ad (cfg.bx f) cfg.rounds fn args (j9 0 l) l.length (λv m _=>a.fit v m)
def Lr (m:Mem)(v:SV):Option (List (List UInt8)):=match v with
 | .slc key o n _ _=>(match m.get key with
   | some (.cells cs _ _)=>strCells ((cs.drop o).take n)
   | _=>H)
 | _=>H
theorem JJ {cs:List SV}{n:Nat}{l:List (List UInt8)}(h:strCells (cs.take n)=G l)(hn:n<=cs.length):iC (λi=>rE (cs.getD (i*1+0) .bO)) 0 n=l:=by
 obtain⟨g1,g2⟩:=wu h;rw[bU] at g1;apply cx;intro i;by_cases hi:i<n
 ·have hl:i<l.length:=by omega
  obtain⟨b,hb⟩:=g2 i _ (bf hl);rw[c5 hi] at hb;unfold iC;rw[cS,c4 hi,bf hl];simp only[ec,N,Nat.mul_one,Nat.add_zero,J,hb,Option.getD_some,rE]
 ·rw[R (by rw[oa];omega),R (by omega)]
theorem Oy {l:List SV}{ay:List aq}(hc:0<ay.length): ∀ {n:Nat},Dl l 1 ay n=A->n<=l.length
 | 0,_=>V _
 | i+1,h=>by
   simp only[Dl,O] at h;cases ay with
   | nil=>simp at hc
   | cons c r =>have:=h.1;simp only[rQ,O,dR] at this;omega
theorem Pb {m:Mem}{v:SV}{p:Prop}{s:Seen}{f:Nat->List UInt8}{l:List (List UInt8)}(h:yF [.str λ_=>[]] m v=G (p,s))(hc:s.ay=[.str f])(hl:Lr m v=G l):iC f 0 s.n=l:=by
 unfold Lr at hl;split at hl
 ·rename_i key o n cl c;simp only[yF] at h;split at h
  ·rename_i cs tot ty hk;rw[hk] at hl;simp only at hl;cases n with
   | zero =>injection h with h;injection h with h1 h2;subst h2;simp[strCells] at hl;subst hl;rfl
   | succ n =>
     simp only at h;split at h
     ·rename_i ay hcols;split at h
      ·rename_i hall;injection h with h;injection h with h1 h2;subst h2;simp only at hc;subst hc;simp only[c6,c8,N,AI] at hcols;split at hcols
       ·rename_i a b ha hb;injection hb with hb;subst hb;injection hcols with e;injection e with e _;subst e;have hlen:=Oy (by simp) hall;unfold Hh at ha;split at ha
        ·cases ha
        ·cases ha
        ·injection ha with ha;injection ha with ha;subst ha;exact JJ hl hlen
        ·cases ha
       ·cases hcols
      ·cases h
     ·cases h
  ·cases h
 ·cases hl
noncomputable def yu (q:List (List UInt8)->Prop)(g:List (List UInt8)->SV):PT:=λargs m nx K=>match args with
 | [v]=>(match yF [.str λ_=>[]] m v with
   | some (p,s)=>(match s.ay with
     | [.str f]=>(match Lr m v with
       | some l=>.and (.atom (p/\q l)) (K (g l) m nx)
       | none=>.and (.atom (p/\q (iC f 0 s.n))) (K (g (iC f 0 s.n)) m nx))
     | _=>.fail "texts that are not known")
   | none=>.fail "texts that are not known")
 | _=>.fail "arguments"
theorem JL (q:List (List UInt8)->Prop)(g:List (List UInt8)->SV):aQ (yu q g):=by
 intro args m nx K K' hK h;unfold yu at h ⊢;split at h
 ·split at h
  ·split at h
   ·split at h<;>exact⟨h.1,hK _ _ _ h.2⟩
   ·exact h
  ·exact h
 ·exact h
def shS:List tO:=[.of (.slice [.str λ_=>[]])]
def rowOf (vs:List SV)(l:List Seen):Option (Nat×(Nat->List UInt8)×Bool×Nat×Nat×Option Nat):=match vs,l with
 | [_],[⟨key,z,o,n,c,[.str f]⟩]=>G (n,f,z,o,c,key)
 | _,_=>H
theorem UB {vs:List SV}{l:List Seen}{n:Nat}{f:Nat->List UInt8}{z:Bool}{o c:Nat}{key:Option Nat}(h:rowOf vs l=G (n,f,z,o,c,key)):filled shS vs l=[.bS 0 1 z o 0 n c]/\l=[⟨key,z,o,n,c,[.str f]⟩]:=by
 unfold rowOf at h;split at h
 ·injection h with h;injection h with h1 h;injection h with h2 h;injection h with h3 h;injection h with h4 h;injection h with h5 h6;subst h1;subst h2;subst h3;subst h4;subst h5;subst h6;exact⟨rfl,rfl⟩
 ·cases h
def JM (q:List (List UInt8)->Prop)(g:List (List UInt8)->SV)(vs:List SV)(l:List Seen):Option (Prop×cL):=match rowOf vs l with
 | some (n,f,_)=>G (q (iC f 0 n),.ret (g (iC f 0 n)))
 | none=>H
theorem Xk {P:Program}{f:FuncId}{q:List (List UInt8)->Prop}{g:List (List UInt8)->SV}(h:az P f (bE shS (JM q g))):az P f (yu q g):=by
 intro args m nx K hk hwf hargs Γ E w hs;refine h args m nx K ?_ hwf hargs Γ E w hs;unfold yu at hk;split at hk
 ·rename_i v;split at hk
  ·rename_i p s hv;split at hk
   ·rename_i f' hc;have hk:(VC.and (.atom (p/\q (iC f' 0 s.n))) (K (g (iC f' 0 s.n)) m nx)).holds:=by
     split at hk
     ·rename_i l hl;rw[Pb hv hc hl];exact hk
     ·exact hk
    obtain⟨key,z,o,n,c,ay⟩:=s;simp only at hc;subst hc;have e:mb m 0 shS [v]=G ([(⟨key,z,o,n,c,[.str f']⟩:Seen).sv 0],(p/\True),[⟨key,z,o,n,c,[.str f']⟩]):=by simp only[shS,mb,Es,B3,hv,aK]
    unfold bE;rw[e];exact⟨⟨⟨hk.1.1,trivial⟩,hk.1.2⟩,hk.2⟩
   ·exact hk.elim
  ·exact hk.elim
 ·exact hk.elim
def Jy (n:Int):List UInt8:=[F (n / 72057594037927936% 256).toNat,F (n / 281474976710656% 256).toNat,F (n / 1099511627776% 256).toNat,F (n / 4294967296% 256).toNat,F (n / 16777216% 256).toNat,F (n / 65536% 256).toNat,F (n / 256% 256).toNat,F (n / 1% 256).toNat]
def yK (T:List UInt8):Nat:=(119 - T.length% 64)% 64
def Oe (T:List UInt8):List UInt8:=128::(b_ (yK T) 0++Jy ((T.length:Int)% 18446744073709551616*8% 18446744073709551616))
def aae (T:List UInt8):List UInt8:=T++Oe T
def aby (W:Nat->Int):List UInt8:=[F (W 0 / 16777216% 256).toNat,F (W 0 / 65536% 256).toNat,F (W 0 / 256% 256).toNat,F (W 0% 256).toNat,F (W 1 / 16777216% 256).toNat,F (W 1 / 65536% 256).toNat,F (W 1 / 256% 256).toNat,F (W 1% 256).toNat,F (W 2 / 16777216% 256).toNat,F (W 2 / 65536% 256).toNat,F (W 2 / 256% 256).toNat,F (W 2% 256).toNat,F (W 3 / 16777216% 256).toNat,F (W 3 / 65536% 256).toNat,F (W 3 / 256% 256).toNat,F (W 3% 256).toNat,F (W 4 / 16777216% 256).toNat,F (W 4 / 65536% 256).toNat,F (W 4 / 256% 256).toNat,F (W 4% 256).toNat,F (W 5 / 16777216% 256).toNat,F (W 5 / 65536% 256).toNat,F (W 5 / 256% 256).toNat,F (W 5% 256).toNat,F (W 6 / 16777216% 256).toNat,F (W 6 / 65536% 256).toNat,F (W 6 / 256% 256).toNat,F (W 6% 256).toNat,F (W 7 / 16777216% 256).toNat,F (W 7 / 65536% 256).toNat,F (W 7 / 256% 256).toNat,F (W 7% 256).toNat]
def aC (T:List UInt8):List UInt8:=aby (p6 (aae T) ((aae T).length / 64))
noncomputable def Lx:List (FuncId×PT):=(60,qa yg yI)::gd
theorem D0:bn I (λf=>aE f Lx):=.cons VG (oF _ _) dU
noncomputable def M6:fJ:={cm with cG:=λf=>aE f Lx}
theorem ZA:Sx.Good I M6:=.of bR D0 bl
def GF:List SV->Option (Sh×List UInt8->Prop×(Unit->Prop×SV×(Sh×List UInt8)))
 | [.ptr 0 A 0]=>G λg=>(Dj g.1 g.2/\g.2.length<1152921504606846976,λ_=>(True,.str C (aC g.2),g))
 | _=>H
noncomputable def Tx:List (FuncId×PT):=(61,qa yg GF)::Lx
noncomputable def aa2 (n:Nat)(f:Nat->List UInt8):aV :={α:=Nat×Sh,pre:=λ_ x=>x.1<=n/\Dj x.2 (flat (iC f 0 x.1)),kT:=λ_ x=>n - x.1,fresh:=0,slots:=λ_ x=>[(9,.int .i64 C x.1)],mem:=λ_ x=>[(1,x.2.sb)]}
noncomputable def RN (n:Nat)(f:Nat->List UInt8):fJ:={cm with cG:=λf=>aE f Tx,bx:=λg=>if g=25 then [(3,always (aa2 n f))] else []}
def BT (l:List (List UInt8)):Prop:=(flat l).length<1152921504606846976/\l.length<1152921504606846976
def WV (l:List (List UInt8)):SV:=.str C (aC (flat l))
theorem abO (x:Sh)(T:List UInt8):VC.holds (ry M6 61 Z [.ptr 0 A 0] yg (x,T) (λ_:Unit=>(True,.str C (aC T),(x,T))))=((λR0:Nat->SV=>((λR1:Nat->SV=>((λR2:Nat->(Sh×List UInt8)->SV=>((λR3:Nat->(Sh×List UInt8)->SV=>((((-9223372036854775808:Int)<=119 - x.held/\119 - x.held<=9223372036854775807)/\((0:Int)<=119 - x.held/\119 - x.held<=9223372036854775807/\(0:Int)<(64:Int))/\I6 (1+(119 - x.held)% 64)/\I6 (1+(119 - x.held)% 64+(8:Int))/\(1+(119 - x.held)% 64+(8:Int)=1+(119 - x.held)% 64+(8:Int)/\(0:Int)<=1+(119 - x.held)% 64+(8:Int)/\1*(1+(119 - x.held)% 64+(8:Int))<=140737488355328/\1+(119 - x.held)% 64+(8:Int)<=(9223372036854775807:Int))/\((0:Int)<=(0:Int)/\0<(↑(1+(119 - x.held)% 64+(8:Int)).toNat:Int))/\0<(1+(119 - x.held)% 64+(8:Int)).toNat/\I6 (1+(119 - x.held)% 64)/\I6 (1+(119 - x.held)% 64+(0:Int))/\((0:Int)<=1+(119 - x.held)% 64+(0:Int) /\1+(119 - x.held)% 64+0<(↑(1+(119 - x.held)% 64+(8:Int)).toNat:Int))/\0+(1+(119 - x.held)% 64+(0:Int)).toNat<(1+(119 - x.held)% 64+(8:Int)).toNat/\I6 (1+(119 - x.held)% 64)/\I6 (1+(119 - x.held)% 64+(1:Int))/\((0:Int)<=1+(119 - x.held)% 64+(1:Int)/\1+(119 - x.held)% 64+1<(↑(1+(119 - x.held)% 64+(8:Int)).toNat:Int))/\0+(1+(119 - x.held)% 64+(1:Int)).toNat<(1+(119 - x.held)% 64+(8:Int)).toNat/\I6 (1+(119 - x.held)% 64)/\I6 (1+(119 - x.held)% 64+(2:Int))/\((0:Int)<=1+(119 - x.held)% 64+(2:Int)/\1+(119 - x.held)% 64+2<(↑(1+(119 - x.held)% 64+(8:Int)).toNat:Int))/\0+(1+(119 - x.held)% 64+(2:Int)).toNat<(1+(119 - x.held)% 64+(8:Int)).toNat /\I6 (1+(119 - x.held)% 64)/\I6 (1+(119 - x.held)% 64+(3:Int))/\((0:Int)<=1+(119 - x.held)% 64+(3:Int)/\1+(119 - x.held)% 64+3<(↑(1+(119 - x.held)% 64+(8:Int)).toNat:Int))/\0+(1+(119 - x.held)% 64+(3:Int)).toNat<(1+(119 - x.held)% 64+(8:Int)).toNat/\I6 (1+(119 - x.held)% 64)/\I6 (1+(119 - x.held)% 64+(4:Int))/\((0:Int)<=1+(119 - x.held)% 64+(4:Int)/\1+(119 - x.held)% 64+4<(↑(1+(119 - x.held)% 64+(8:Int)).toNat:Int))/\0+(1+(119 - x.held)% 64+(4:Int)).toNat<(1+(119 - x.held)% 64+(8:Int)).toNat/\I6 (1+(119 - x.held)% 64)/\((-9223372036854775808:Int)<=1+(119 - x.held)% 64+(5:Int) /\1+(119 - x.held)% 64+(5:Int)<=(9223372036854775807:Int))/\((0:Int)<=1+(119 - x.held)% 64+(5:Int)/\1+(119 - x.held)% 64+5<(↑(1+(119 - x.held)% 64+(8:Int)).toNat:Int))/\0+(1+(119 - x.held)% 64+(5:Int)).toNat<(1+(119 - x.held)% 64+(8:Int)).toNat/\I6 (1+(119 - x.held)% 64)/\I6 (1+(119 - x.held)% 64+(6:Int))/\((0:Int)<=1+(119 - x.held)% 64+(6:Int)/\1+(119 - x.held)% 64+6<(↑(1+(119 - x.held)% 64+(8:Int)).toNat:Int))/\0+(1+(119 - x.held)% 64+(6:Int)).toNat<(1+(119 - x.held)% 64+(8:Int)).toNat/\I6 (1+(119 - x.held)% 64)/\I6 (1+(119 - x.held)% 64+(7:Int))/\((0:Int)<=1+(119 - x.held)% 64+(7:Int)/\1+(119 - x.held)% 64+7<(↑(1+(119 - x.held)% 64+(8:Int)).toNat:Int)) /\0+(1+(119 - x.held)% 64+(7:Int)).toNat<(1+(119 - x.held)% 64+(8:Int)).toNat/\0+(1+(119 - x.held)% 64+(8:Int)).toNat<=(1+(119 - x.held)% 64+(8:Int)).toNat /\∃(u4:Sh×List UInt8),aa (SB.cells (K8 R0 (wO R1 [SV.int .i64 C x.held,SV.int .u64 C x.size])) 74 171) (SB.cells (K8 (λi=>R2 i u4) (wO (λi=>R3 i u4) [SV.int .i64 C u4.1.held,SV.int .u64 C u4.1.size])) 74 171) /\(Dj u4.1 u4.2 /\(di (fun(u3:Nat)=>if u3=0+(1+(119 - x.held)% 64+(7:Int)).toNat then x.size*8% (18446744073709551616:Int) / (1:Int)% (256:Int)else if u3=0+(1+(119 - x.held)% 64+(6:Int)).toNat then x.size*8% (18446744073709551616:Int) / (256:Int)% (256:Int)else if u3=0+(1+(119 - x.held)% 64+(5:Int)).toNat then x.size*8% (18446744073709551616:Int) / (65536:Int)% (256:Int)else if u3=0+(1+(119 - x.held)% 64+(4:Int)).toNat then x.size*8% (18446744073709551616:Int) / (16777216:Int)% (256:Int)else if u3=0+(1+(119 - x.held)% 64+(3:Int)).toNat then x.size*8% (18446744073709551616:Int) / (4294967296:Int)% (256:Int)else if u3=0+(1+(119 - x.held)% 64+(2:Int)).toNat then x.size*8% (18446744073709551616:Int) / (1099511627776:Int)% (256:Int)else if u3=0+(1+(119 - x.held)% 64+(1:Int)).toNat then x.size*8% (18446744073709551616:Int) / (281474976710656:Int)% (256:Int)else if u3=0+(1+(119 - x.held)% 64+(0:Int)).toNat then x.size*8% (18446744073709551616:Int) / (72057594037927936:Int)% (256:Int)else if u3=0 then 128 else 0) 0 (1+(119 - x.held)% 64+(8:Int)).toNat).length<1152921504606846976) /\∀(u2:Sh),Dj u2 (u4.2++di (fun(u1:Nat)=>if u1=0+(1+(119 - x.held)% 64+(7:Int)).toNat then x.size*8% (18446744073709551616:Int) / (1:Int)% (256:Int)else if u1=0+(1+(119 - x.held)% 64+(6:Int)).toNat then x.size*8% (18446744073709551616:Int) / (256:Int)% (256:Int)else if u1=0+(1+(119 - x.held)% 64+(5:Int)).toNat then x.size*8% (18446744073709551616:Int) / (65536:Int)% (256:Int)else if u1=0+(1+(119 - x.held)% 64+(4:Int)).toNat then x.size*8% (18446744073709551616:Int) / (16777216:Int)% (256:Int)else if u1=0+(1+(119 - x.held)% 64+(3:Int)).toNat then x.size*8% (18446744073709551616:Int) / (4294967296:Int)% (256:Int)else if u1=0+(1+(119 - x.held)% 64+(2:Int)).toNat then x.size*8% (18446744073709551616:Int) / (1099511627776:Int)% (256:Int)else if u1=0+(1+(119 - x.held)% 64+(1:Int)).toNat then x.size*8% (18446744073709551616:Int) / (281474976710656:Int)% (256:Int)else if u1=0+(1+(119 - x.held)% 64+(0:Int)).toNat then x.size*8% (18446744073709551616:Int) / (72057594037927936:Int)% (256:Int)else if u1=0 then 128 else 0) 0 (1+(119 - x.held)% 64+(8:Int)).toNat) ->∃(_:Unit),True/\aa (yg (x,T)) (yg (x,T)) /\af (SV.str (C&&(C&&(C&&(C&&(C&&(C&&(C&&(C&&(C&&(C&&(C&&(C&&(C&&(C&&(C&&(C&&(C&&(C&&(C&&(C&&(C&&(C&&(C&&(C&&(C&&(C&&(C&&(C&&(C&&(C&&(C&&(C&&A)))))))))))))))))))))))))))))))) [F (u2.W 0 / 16777216% (256:Int)).toNat,F (u2.W 0 / 65536% (256:Int)).toNat,F (u2.W 0 / 256% (256:Int)).toNat,F (u2.W 0% 256).toNat,F (u2.W 1 / 16777216% (256:Int)).toNat,F (u2.W 1 / 65536% (256:Int)).toNat,F (u2.W 1 / 256% (256:Int)).toNat,F (u2.W 1% 256).toNat,F (u2.W 2 / 16777216% (256:Int)).toNat,F (u2.W 2 / 65536% (256:Int)).toNat,F (u2.W 2 / 256% (256:Int)).toNat,F (u2.W 2% 256).toNat,F (u2.W 3 / 16777216% (256:Int)).toNat,F (u2.W 3 / 65536% (256:Int)).toNat,F (u2.W 3 / 256% (256:Int)).toNat,F (u2.W 3% 256).toNat,F (u2.W 4 / 16777216% (256:Int)).toNat,F (u2.W 4 / 65536% (256:Int)).toNat,F (u2.W 4 / 256% (256:Int)).toNat,F (u2.W 4% 256).toNat,F (u2.W 5 / 16777216% (256:Int)).toNat,F (u2.W 5 / 65536% (256:Int)).toNat,F (u2.W 5 / 256% (256:Int)).toNat,F (u2.W 5% 256).toNat,F (u2.W 6 / 16777216% (256:Int)).toNat,F (u2.W 6 / 65536% (256:Int)).toNat,F (u2.W 6 / 256% (256:Int)).toNat,F (u2.W 6% 256).toNat,F (u2.W 7 / 16777216% (256:Int)).toNat,F (u2.W 7 / 65536% (256:Int)).toNat,F (u2.W 7 / 256% (256:Int)).toNat,F (u2.W 7% 256).toNat]) (SV.str C (aC T))))) (fun(n0:Nat) (u4:Sh×List UInt8)=>SV.int .u8 C (u4.1.B n0)))) (fun(n0:Nat) (u4:Sh×List UInt8)=>SV.int .u32 C (u4.1.W n0)))) (fun(n0:Nat)=>SV.int .u8 C (x.B n0)))) (fun(n0:Nat)=>SV.int .u32 C (x.W n0))):=by kernel_rfl
theorem acn (n:Nat)(f:Nat->List UInt8)(z:Bool)(o c:Nat)(key:Option Nat):VC.holds (gD (RN n f) 25 Y [.bS 0 1 z o 0 n c] [⟨key,z,o,n,c,[.str f]⟩] (.ret (.str C (aC (flat (iC f 0 n))))))=((λR0:Nat->SV=>((λR1:Nat->(Nat×Sh)->SV=>((λR2:Nat->(Nat×Sh)->SV=>((λR3:Nat->(Nat×Sh)->SV=>((λR4:Nat->(Nat×Sh)->SV=>((λR5:Nat->(Sh×List UInt8)->SV=>((λR6:Nat->(Sh×List UInt8)->SV=>((λR7:Nat->(Sh)->SV=>((λR8:Nat->(Sh)->SV=>((λR9:Nat->(Nat×Sh)->SV=>((λR10:Nat->(Nat×Sh)->SV=>((λR11:Nat->(Sh×List UInt8)->SV=>((λR12:Nat->(Sh×List UInt8)->SV=>((λP0:(Nat×Sh)->SB=>(((∃(u6:Nat×Sh),(u6.1<=n/\Dj u6.2 (flat (iC f 0 u6.1)))/\0=(u6.1:Int) /\aa (SB.cells [R0 1779033703,R0 3144134277,R0 1013904242,R0 2773480762,R0 1359893119,R0 2600822924,R0 528734635,R0 1541459225,SV.int .u8 A 0,SV.int .u8 A 0,SV.int .u8 A 0,SV.int .u8 A 0,SV.int .u8 A 0,SV.int .u8 A 0,SV.int .u8 A 0,SV.int .u8 A 0,SV.int .u8 A 0,SV.int .u8 A 0,SV.int .u8 A 0,SV.int .u8 A 0,SV.int .u8 A 0,SV.int .u8 A 0,SV.int .u8 A 0,SV.int .u8 A 0,SV.int .u8 A 0,SV.int .u8 A 0,SV.int .u8 A 0,SV.int .u8 A 0,SV.int .u8 A 0,SV.int .u8 A 0,SV.int .u8 A 0,SV.int .u8 A 0,SV.int .u8 A 0,SV.int .u8 A 0,SV.int .u8 A 0,SV.int .u8 A 0,SV.int .u8 A 0,SV.int .u8 A 0,SV.int .u8 A 0,SV.int .u8 A 0,SV.int .u8 A 0,SV.int .u8 A 0,SV.int .u8 A 0,SV.int .u8 A 0,SV.int .u8 A 0,SV.int .u8 A 0,SV.int .u8 A 0,SV.int .u8 A 0,SV.int .u8 A 0,SV.int .u8 A 0,SV.int .u8 A 0,SV.int .u8 A 0,SV.int .u8 A 0,SV.int .u8 A 0,SV.int .u8 A 0,SV.int .u8 A 0,SV.int .u8 A 0,SV.int .u8 A 0,SV.int .u8 A 0,SV.int .u8 A 0,SV.int .u8 A 0,SV.int .u8 A 0,SV.int .u8 A 0,SV.int .u8 A 0,SV.int .u8 A 0,SV.int .u8 A 0,SV.int .u8 A 0,SV.int .u8 A 0,SV.int .u8 A 0,SV.int .u8 A 0,SV.int .u8 A 0,SV.int .u8 A 0,SV.int .i64 A 0,SV.int .u64 A 0] 74 171) (SB.cells (K8 (λi=>R1 i u6) (wO (λi=>R2 i u6) [SV.int .i64 C u6.2.held,SV.int .u64 C u6.2.size])) 74 171) /\aa {key:=key,z:=z,o:=o,n:=n,c:=c,ay:=[aq.str f]:Seen}.B {key:=key,z:=z,o:=o,n:=n,c:=c,ay:=[aq.str f]:Seen}.B/\True)/\∀(u5:Nat×Sh),u5.1<=n/\Dj u5.2 (flat (iC f 0 u5.1))->(decide ((u5.1:Int)<(n:Int))=A->(0<=(u5.1:Int)/\(u5.1:Int)<(n:Int))/\(o=o/\0+(u5.1:Int).toNat<n) /\∃(u4:Sh×List UInt8),aa (P0 u5) (SB.cells (K8 (λi=>R5 i u4) (wO (λi=>R6 i u4) [SV.int .i64 C u4.1.held,SV.int .u64 C u4.1.size])) 74 171)/\(Dj u4.1 u4.2/\(f (0+(u5.1:Int).toNat)).length<1152921504606846976)/\∀(u3:Sh),Dj u3 (u4.2++f (0+(u5.1:Int).toNat))->I6 ((u5.1:Int)+1)/\∃(u2:Nat×Sh),((u2.1<=n/\Dj u2.2 (flat (iC f 0 u2.1)))/\n - u2.1<n - u5.1) /\(u5.1:Int)+1=(u2.1:Int) /\aa (SB.cells (K8 (λi=>R7 i u3) (wO (λi=>R8 i u3) [SV.int .i64 C u3.held,SV.int .u64 C u3.size])) 74 171) (SB.cells (K8 (λi=>R9 i u2) (wO (λi=>R10 i u2) [SV.int .i64 C u2.2.held,SV.int .u64 C u2.2.size])) 74 171) /\aa {key:=key,z:=z,o:=o,n:=n,c:=c,ay:=[aq.str f]:Seen}.B {key:=key,z:=z,o:=o,n:=n,c:=c,ay:=[aq.str f]:Seen}.B/\True)/\(decide ((u5.1:Int)<(n:Int))=C->∃(u1:Sh×List UInt8),aa (P0 u5) (SB.cells (K8 (λi=>R11 i u1) (wO (λi=>R12 i u1) [SV.int .i64 C u1.1.held,SV.int .u64 C u1.1.size])) 74 171)/\(Dj u1.1 u1.2/\u1.2.length<1152921504606846976)/\∀(_:Unit),True ->af (J2 1 (SV.str C (aC u1.2))) (SV.str C (aC (flat (iC f 0 n)))))))) (fun(u5:Nat×Sh)=>(SB.cells (K8 (λi=>R3 i u5) (wO (λi=>R4 i u5) [SV.int .i64 C u5.2.held,SV.int .u64 C u5.2.size])) 74 171)))) (fun(n0:Nat) (u1:Sh×List UInt8)=>SV.int .u8 C (u1.1.B n0)))) (fun(n0:Nat) (u1:Sh×List UInt8)=>SV.int .u32 C (u1.1.W n0)))) (fun(n0:Nat) (u2:Nat×Sh)=>SV.int .u8 C (u2.2.B n0)))) (fun(n0:Nat) (u2:Nat×Sh)=>SV.int .u32 C (u2.2.W n0)))) (fun(n0:Nat) (u3:Sh)=>SV.int .u8 C (u3.B n0)))) (fun(n0:Nat) (u3:Sh)=>SV.int .u32 C (u3.W n0)))) (fun(n0:Nat) (u4:Sh×List UInt8)=>SV.int .u8 C (u4.1.B n0)))) (fun(n0:Nat) (u4:Sh×List UInt8)=>SV.int .u32 C (u4.1.W n0)))) (fun(n0:Nat) (u5:Nat×Sh)=>SV.int .u8 C (u5.2.B n0)))) (fun(n0:Nat) (u5:Nat×Sh)=>SV.int .u32 C (u5.2.W n0)))) (fun(n0:Nat) (u6:Nat×Sh)=>SV.int .u8 C (u6.2.B n0)))) (fun(n0:Nat) (u6:Nat×Sh)=>SV.int .u32 C (u6.2.W n0)))) (fun(n0:Nat)=>SV.int .u32 A n0)):=by kernel_rfl
theorem Og (z:Nat)(n:Int):di (fun(j:Nat)=>if j=0+(1+(z:Int)+7).toNat then n / 1% 256 else if j=0+(1+(z:Int)+6).toNat then n / 256% 256 else if j=0+(1+(z:Int)+5).toNat then n / 65536% 256 else if j=0+(1+(z:Int)+4).toNat then n / 16777216% 256 else if j=0+(1+(z:Int)+3).toNat then n / 4294967296% 256 else if j=0+(1+(z:Int)+2).toNat then n / 1099511627776% 256 else if j=0+(1+(z:Int)+1).toNat then n / 281474976710656% 256 else if j=0+(1+(z:Int)+0).toNat then n / 72057594037927936% 256 else if j=0 then 128 else 0) 0 (1+(z:Int)+8).toNat
  = 128::(b_ z 0++Jy n):=by
 rw[show(1+(z:Int)+8).toNat=z+9 by omega,show 0+(1+(z:Int)+7).toNat=z+8 by omega,show 0+(1+(z:Int)+6).toNat=z+7 by omega,show 0+(1+(z:Int)+5).toNat=z+6 by omega,
  show 0+(1+(z:Int)+4).toNat=z+5 by omega,show 0+(1+(z:Int)+3).toNat=z+4 by omega,show 0+(1+(z:Int)+2).toNat=z+3 by omega,show 0+(1+(z:Int)+1).toNat=z+2 by omega,show 0+(1+(z:Int)+0).toNat=z+1 by omega]
 apply cx;intro i;unfold di;rw[cS];by_cases hi:i<z+9
 ·rw[c4 hi];simp only[ec,N];cases i with
  | zero =>rw[if_neg (by omega),if_neg (by omega),if_neg (by omega),if_neg (by omega),if_neg (by omega),if_neg (by omega),if_neg (by omega),if_neg (by omega),if_pos rfl];rfl
  | succ i =>
    rw[List.getElem?_cons_succ];by_cases hz:i<z
    ·rw[a_ (by simpa using hz),List.getElem?_replicate,if_pos hz,if_neg (by omega),if_neg (by omega),if_neg (by omega),if_neg (by omega),if_neg (by omega),if_neg (by omega),if_neg (by omega),if_neg (by omega),if_neg (by omega)];rfl
    ·rw[a! (by simp;omega),c9];obtain⟨k,rfl⟩: ∃ k,i=z+k:=⟨i - z,by omega⟩
     rw[dD];have hk:k=0∨k=1∨k=2∨k=3∨k=4∨k=5∨k=6∨k=7:=by omega
     rcases hk with rfl | rfl | rfl | rfl | rfl | rfl | rfl | rfl
     ·rw[if_neg (by omega),if_neg (by omega),if_neg (by omega),if_neg (by omega),if_neg (by omega),if_neg (by omega),if_neg (by omega),if_pos (by omega)];rfl
     ·rw[if_neg (by omega),if_neg (by omega),if_neg (by omega),if_neg (by omega),if_neg (by omega),if_neg (by omega),if_pos (by omega)];rfl
     ·rw[if_neg (by omega),if_neg (by omega),if_neg (by omega),if_neg (by omega),if_neg (by omega),if_pos (by omega)];rfl
     ·rw[if_neg (by omega),if_neg (by omega),if_neg (by omega),if_neg (by omega),if_pos (by omega)];rfl
     ·rw[if_neg (by omega),if_neg (by omega),if_neg (by omega),if_pos (by omega)];rfl
     ·rw[if_neg (by omega),if_neg (by omega),if_pos (by omega)];rfl
     ·rw[if_neg (by omega),if_pos (by omega)];rfl
     ·rw[if_pos (by omega)];rfl
 ·rw[R (by simpa using hi),R (by simp[Jy];omega)];rfl
theorem Qy (T:List UInt8):(Oe T).length<100:=by simp only[Oe,Jy,c6,M,c9,c8,yK];omega
theorem Qw {x:Sh}{T:List UInt8}(hx:Dj x T)(_hT:T.length<1152921504606846976) :
  aB (ry M6 61 Z [.ptr 0 A 0] yg (x,T) (λ_:Unit=>(True,.str C (aC T),(x,T)))):=by
 refine aB.of_eq (abO x T) ?_;dsimp only;have hh:=hx.1.h;have hz:(119 - x.held)% 64=(yK T:Int):=by rw[hh];unfold yK;omega
 have hl:yK T<64:=d! _ (by decide);have hb:x.held<64/\0<=x.held:=by omega
 have hs:=hx.2;have ht:Oe T=128::(b_ (yK T) 0++Jy (x.size*8% 18446744073709551616)):=by rw[hs];rfl
 rw[hz];refine⟨by omega,by omega,by omega,by omega,by omega,by omega,by omega,by omega,by omega,by omega,by omega,by omega,by omega,by omega,by omega,by omega,by omega,by omega,by omega,by omega,by omega,by omega,by omega,by omega,by omega,by omega,by omega,by omega,by omega,by omega,by omega,by omega,by omega,by omega,by omega,by omega,by omega,by omega,by omega,by omega,(x,T),aa.refl _,⟨hx,?_⟩,λy hy=>⟨(),trivial,aa.refl _,?_⟩⟩
 ·rw[Og,← ht];have:=Qy T;omega
 ·rw[Og,← ht] at hy;have hy:Dj y (aae T):=hy;have w:=hy.1.w;refine gQ ?_;unfold aC aby;rw[← w 0 (by decide),← w 1 (by decide),← w 2 (by decide),← w 3 (by decide),← w 4 (by decide),← w 5 (by decide),← w 6 (by decide),← w 7 (by decide)]
theorem aau:az I 61 (qa yg GF):=by
 refine E8 (n:=20) (fn:=Z) Tryz.func61 (by kernel_rfl) (by kernel_rfl) Ob ?_;intro args g x h hp;unfold GF at h;split at h
 ·injection h with h;subst h;obtain⟨x,T⟩:=x;exact⟨M6,[.ptr 0 A 0],ZA,λE=>rfl,rfl,λ_=>rfl,Qw hp.1 hp.2⟩
 ·cases h
theorem Ph:bn I (λf=>aE f Tx):=.cons aau (oF _ _) D0
theorem Zv (n:Nat)(f:Nat->List UInt8):Sx.Good I (RN n f):=.of bR Ph bl
theorem Wr:Dj ⟨SY,λ_=>0,0,0⟩ []:=by refine⟨⟨⟨by decide,λj _=>by show(0:Int)<=0/\(0:Int)<=255;decide⟩,λj _=>rfl,λj hj=>absurd hj (Q _),rfl⟩,rfl⟩
theorem tZ (f:Nat->List UInt8)(i:Nat):flat (iC f 0 (i+1))=flat (iC f 0 i)++f i:=by unfold flat iC;rw[List.range_succ];simp
theorem Fx (f:Nat->List UInt8): ∀ {i n:Nat},i<=n->(flat (iC f 0 i)).length<=(flat (iC f 0 n)).length:=by
 intro i n h;induction n with
 | zero=>obtain rfl:i=0:=by omega
         exact d_ _
 | succ n ih =>
   by_cases e:i=n+1
   ·subst e;exact d_ _
   ·have:=ih (by omega);rw[tZ,M];omega
theorem T5 (n:Nat)(f:Nat->List UInt8)(z:Bool)(o c:Nat)(key:Option Nat)(h:(flat (iC f 0 n)).length<1152921504606846976)(hn:n<1152921504606846976) :
  aB (gD (RN n f) 25 Y [.bS 0 1 z o 0 n c] [⟨key,z,o,n,c,[.str f]⟩] (.ret (.str C (aC (flat (iC f 0 n)))))):=by
 refine aB.of_eq (acn n f z o c key) ?_;dsimp only;refine⟨⟨(0,⟨SY,λ_=>0,0,0⟩),⟨V _,Wr⟩,rfl,Sx.aa.cells (λE=>rfl) rfl,aa.refl _,trivial⟩,λg hg=>⟨λa=> ?_,λa=> ?_⟩⟩
 ·have a:=of_decide_eq_true a;have h1:=Fx f (i:=g.1+1) (n:=n) (by omega);rw[tZ,M] at h1;rw[ag,N];refine⟨by omega,⟨rfl,by omega⟩,(g.2,flat (iC f 0 g.1)),aa.refl _,⟨hg.2,by omega⟩,λy hy=>⟨by omega,(g.1+1,y),⟨⟨by show g.1+1<=n;omega,?_⟩,by show n - (g.1+1)<n - g.1;omega⟩,by show(g.1:Int)+1=((g.1+1:Nat):Int);omega,aa.refl _,aa.refl _,trivial⟩⟩;show Dj y (flat (iC f 0 (g.1+1)));rw[tZ];exact hy
 ·have a:=of_decide_eq_false a;have hg1:=hg.1;have e:g.1=n:=by omega
  refine⟨(g.2,flat (iC f 0 g.1)),aa.refl _,⟨hg.2,by rw[e];exact h⟩,λ_ _=> ?_⟩;rw[e];exact λ_=>rfl
theorem abx:az I 25 (yu BT WV):=by
 refine Xk (fT (n:=20) (fn:=Y) Tryz.func25 (by kernel_rfl) (by kernel_rfl) ?_);intro vs l q a h hq;unfold JM at h;split at h
 ·rename_i n f r hx;obtain⟨z,o,c,key⟩:=r;injection h with h;injection h with h1 h2;subst h1;subst h2;obtain⟨e1,e2⟩:=UB hx;rw[e1,e2];exact⟨_,Zv n f,rfl,rfl,T5 n f z o c key hq.1 (by have:=hq.2;rwa [oa] at this)⟩
 ·cases h
theorem rC (T:List UInt8):(aC T).length=32:=rfl
noncomputable def Bw:List (FuncId×PT):=(25,yu BT WV)::(155,cH (k9 9223372036854775808))::(127,cH (vl 9223372036854775808))::Lu 9223372036854775808
theorem sw:bn I (λf=>aE f Bw):=.cons abx (JL _ _) (.cons (oY _) (b9 _) (.cons (BN (oY _)) (b9 _) (DX (oY _))))
noncomputable def AF:fJ:={cm with cG:=λf=>aE f Bw}
theorem KV:Sx.Good I AF:=.of bR sw bl
def aag (x:Nd):cL:=.fork (aU x) λb=>match b with
 | true=>.ret (.aN [.str C (cR x),.int .i64 A 0])
 | false=>.ret (.aN [.str A [],.int .i64 A 1])
def sE (g:Nd->Option (Prop×cL)):List SV->Option (Prop×cL)
 | [.agg l]=>(match LK l with
   | some x=>g x
   | none=>H)
 | _=>H
theorem BK {g:Nd->Option (Prop×cL)}{args:List SV}{p:Prop}{v:cL}(h:sE g args=G (p,v)): ∃ x,args=[x.sv]/\g x=G (p,v):=by
 unfold sE at h;split at h
 ·split at h
  ·rename_i x hx;exact⟨x,by rw[vH hx],h⟩
  ·cases h
 ·cases h
def eS (s:List UInt8):List UInt8:=if s.length<32 then s else aA (aC s)
def Sj (a b:List UInt8):Bool:=!decide (a=b)&&decide (aC a=aC b)
def aS (r:Nat->List UInt8):Nat->Nat
 | 0=>0
 | i+1=>bif bw (r i)then aS r i+1 else aS r i
def cK (r:Nat->List UInt8):Nat->Nat->List UInt8
 | 0=>λ_=>[]
 | i+1=>λj=>bif bw (r i)then(if j=aS r i then ah (r i)else cK r i j)else cK r i j
def zG:Nat->Nd->Prop
 | 0,_=>False
 | L+1,x=>∀ j,j<16->x.r j=[]∨((x.r j).length<L/\(x.r j).length<32)
def qY (L:Nat):List SV->Option (Prop×SV):=ff λx=>G (zG L x,.aM)
noncomputable def VS:aV :={α:=Nat,pre:=λ_ i=>i<=16,kT:=λ_ i=>16 - i,fresh:=0,slots:=λ_ i=>[(7,.int .i64 C i)],mem:=λ_ _=>[]}
noncomputable def M4 (L:Nat):fJ:={cm with cG:=λf=>aE f ((128,aY (qY L))::Bw),bx:=λf=>if f=201 then [(1,always VS)] else []}
noncomputable def aa1 (x:Nd):aV :=
 {α:=Nat×Nat,pre:=λ_ g=>g.1<=16/\aS x.r g.1<=g.2,kT:=λ_ g=>16 - g.1,fresh:=1,slots:=λ_ g=>[(7,.int .i64 C g.1)],
  mem:=λst g=>[(1,.cells [.aZ st.nx 1 A 0 (aS x.r g.1) g.2] 1 29),(st.nx,.rows A (aS x.r g.1) [.str (cK x.r g.1)] C g.2 9)]}
noncomputable def M3 (x:Nd):fJ:={cm with cG:=λf=>aE f ((128,aY (qY 64))::Bw),bx:=λf=>if f=201 then [(1,always (aa1 x))] else []}
def zX (x:Nd):cL:=.fork (aU x) λb=>match b with
 | true=>.all Nat λc=>.req (aS x.r 16<=c) (.new (λk=>.aZ k 1 A 0 (aS x.r 16) c) (.rows A (aS x.r 16) [.str (cK x.r 16)] C c 9))
 | false=>.ret .aM
end Go.Proofs.YtoibaecagklkaaaGreatDoor
