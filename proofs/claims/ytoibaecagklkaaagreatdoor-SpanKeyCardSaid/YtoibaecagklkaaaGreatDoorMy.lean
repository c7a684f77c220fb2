/-
  Proof: Build, of a store that holds a map: the contract.
-/
import Derived.Test.YtoibaecagklkaaaGreatDoorMx
import Derived.Test.YtoibaecagklkaaaGreatDoorMw
import Derived.Test.YtoibaecagklkaaaGreatDoorMr
import Derived.Test.YtoibaecagklkaaaGreatDoorMv
import Derived.Test.YtoibaecagklkaaaGreatDoorMo
import Derived.Test.YtoibaecagklkaaaGreatDoorMj
open Bool renaming and_eq_false_iff->cy,and_eq_true->Q,and_false->a!,false->F,or_eq_true->c4,true->C
open Decidable renaming decide->I
open Go.Proofs.Tryz renaming f11->bf,f15->b7,f22->c5,f27->c_,f28->c!,f57->b_,f8->dG,prog->O
open List renaming append_nil->d_,drop->V,getD_eq_getElem?_getD->b!,getElem?_eq_getElem->cl,length_append->d!,mem_cons_of_mem->ax,mem_cons_self->Z,mem_map->ec,mem_range->ef,range->ct
open Nat renaming le_refl->X,le_trans->ay,lt_succ_self->ei,not_lt_zero->cx,succ_lt_succ->ej,zero_add->an,zero_le->Y
open Option renaming none->J,some->M
open Option.some renaming inj->a_
namespace Go.Proofs.YtoibaecagklkaaaGreatDoor
open Go Sx
set_option maxRecDepth 20000
theorem J6 (y:Nd)(q:List UInt8):de y.k y.p q (bq y.r)=match dc y q with
  | some (i,_)=>if i<16 then y.r i else []
  | none=>[]:=by
 have e:dc ⟨y.k,y.p,[],bE⟩ q=dc y q:=rfl;unfold de;rw[e];cases dc y q with
 | none=>rfl
 | some z =>
   obtain⟨i,q'⟩:=z;dsimp only;by_cases h:i<16
   ·rw[if_pos h]
    match i,h with
    | 0,_ | 1,_ | 2,_ | 3,_ | 4,_ | 5,_ | 6,_ | 7,_ | 8,_ | 9,_ | 10,_ | 11,_ | 12,_ | 13,_ | 14,_ | 15,_=>rfl
    | j+16,h=>exact absurd h (by omega)
   ·rw[if_neg h];obtain⟨j,rfl⟩: ∃ j,i=j+16:=⟨i - 16,by omega⟩
    rfl
theorem ER (y:Nd)(q:List UInt8):fL y.k y.p q=match dc y q with
  | some (_,q')=>q'
  | none=>q:=rfl
theorem ON {m:Nat}{l:List Rw}{q:List UInt8}(h:dc (bn m l) q=J):iB m l q=[]:=by
 cases m with
 | zero=>rfl
 | succ m=>unfold iB;rw[h]
theorem O4 {x:Nd}{q:List UInt8}(h:dm x q=C):dc x q=none:=by
 unfold dm at h;simp only[c4,Q,decide_eq_true_eq] at h;unfold dc;rcases h with ⟨h,_⟩ | ⟨h,hq,_⟩
 ·rw[if_neg (by omega),if_neg (by omega)]
 ·rw[if_neg (by omega),if_pos h,hq]
theorem XS {w:Sp}{N:List (List UInt8)}{h:Zx}(ok:CR w N h) :
  (de h.y.k h.y.p h.q (bq h.y.r)).length<9223372036854775808 /\
  (aQ (de h.y.k h.y.p h.q (bq h.y.r))=C->bJ w (ai (de h.y.k h.y.p h.q (bq h.y.r)))=C/\∃ l',h.m=(h.m - 1)+1/\∀ c,h.T.length+1<=c->CR w N ⟨h.m - 1,l',fL h.y.k h.y.p h.q,h.T++[w.at (ai (de h.y.k h.y.p h.q (bq h.y.r)))],c,getD (w.at (ai (de h.y.k h.y.p h.q (bq h.y.r))))⟩) /\
  (aQ (de h.y.k h.y.p h.q (bq h.y.r))=F->bp (de h.y.k h.y.p h.q (bq h.y.r))=C->∃ l',h.m=(h.m - 1)+1/\CR w N ⟨h.m - 1,l',fL h.y.k h.y.p h.q,h.T,h.c,getD (de h.y.k h.y.p h.q (bq h.y.r))⟩) /\
  (aQ (de h.y.k h.y.p h.q (bq h.y.r))=F->bp (de h.y.k h.y.p h.q (bq h.y.r))=F->h.T=N):=by
 obtain⟨m,l,q,T,c,y⟩:=h;have hy:=ok.y;have hall:=ok.all;dsimp only at hy hall ⊢;subst hy
 have stop:de (bn m l).k (bn m l).p q (bq (bn m l).r)=[]->iB m l q=[]->_:=λh1 h2=>(⟨by rw[h1];decide,λh=>by rw[h1] at h;exact absurd h (by decide +kernel),λ_ h=>by rw[h1] at h;exact absurd h (by decide +kernel),λ_ _=>by rw[h2,d_] at hall;exact hall⟩ :
  (de (bn m l).k (bn m l).p q (bq (bn m l).r)).length<9223372036854775808/\(aQ (de (bn m l).k (bn m l).p q (bq (bn m l).r))=C->bJ w (ai (de (bn m l).k (bn m l).p q (bq (bn m l).r)))=C/\∃ l',m=(m - 1)+1/\∀ c,T.length+1<=c->CR w N ⟨m - 1,l',fL (bn m l).k (bn m l).p q,T++[w.at (ai (de (bn m l).k (bn m l).p q (bq (bn m l).r)))],c,getD (w.at (ai (de (bn m l).k (bn m l).p q (bq (bn m l).r))))⟩) /\
  (aQ (de (bn m l).k (bn m l).p q (bq (bn m l).r))=F->bp (de (bn m l).k (bn m l).p q (bq (bn m l).r))=C->∃ l',m=(m - 1)+1/\CR w N ⟨m - 1,l',fL (bn m l).k (bn m l).p q,T,c,getD (de (bn m l).k (bn m l).p q (bq (bn m l).r))⟩) /\
  (aQ (de (bn m l).k (bn m l).p q (bq (bn m l).r))=F->bp (de (bn m l).k (bn m l).p q (bq (bn m l).r))=F->T=N))
 have eR:=J6 (bn m l) q;have eL:=ER (bn m l) q;cases hn:dc (bn m l) q with
 | none =>rw[hn] at eR;exact stop eR (ON hn)
 | some z =>
   obtain⟨i,q'⟩:=z;rw[hn] at eR eL;dsimp only at eR eL
   match m,ok,hall,stop,hn,eR,eL with
   | 0,_,_,_,hn,_,_=>cases hn
   | m+1,ok,hall,stop,hn,eR,eL =>
     have hi:i<16:=by
      unfold dc at hn;split at hn
      ·cases hb:preB (bn (m+1) l).p q with
       | true=>rw[hb] at hn;injection hn with hn;injection hn with hn _;omega
       | false=>rw[hb] at hn;cases hn
      ·split at hn
       ·cases q with
        | nil=>cases hn
        | cons b q =>injection hn with hn;injection hn with hn _;have:=ok.Kv b (Z ..);omega
       ·cases hn
     rw[if_pos hi] at eR;have eW:iB (m+1) l q=if aB l i=[] then [] else(if(ctext m (aB l i)).length<32 then [] else [ctext m (aB l i)])++iB m (aB l i) q':=by
      show(match dc (bn (m+1) l) q with
       | none=>[]
       | some (i,q')=>if aB l i=[] then [] else(if(ctext m (aB l i)).length<32 then [] else [ctext m (aB l i)])++iB m (aB l i) q')=_
      rw[hn]
     have ref:=lC m l hi;by_cases hk:aB l i=[]
     ·rw[if_pos hk] at ref eW;exact stop (eR.trans ref) eW
     ·rw[if_neg hk] at ref eW;have hm:=ok.m;have ho:=fD ok.rows i;have hv:=dg (m:=m) (by have:m+1<=13:=hm;omega) ho hk;have hk0:=AE ho hk;have hfull:Full w (cr m (aB l i)):=ok.full.mono λt ht=>lM hi hk ht;have hnib: ∀ b,b∈ q'->b.toNat<16:=λb hb=>ok.Kv b (by
       obtain⟨_,s1⟩:=EO (bn (m+1) l) q ok.Kv;unfold dc at hn;split at hn
       ·cases hp:preB (bn (m+1) l).p q with
        | true=>rw[hp] at hn;injection hn with hn;injection hn with _ hn;rw[← hn] at hb;exact List.mem_of_mem_drop hb
        | false=>rw[hp] at hn;cases hn
       ·split at hn
        ·cases q with
         | nil=>cases hn
         | cons a q=>injection hn with hn;injection hn with _ hn;rw[← hn] at hb;exact ax _ hb
        ·cases hn)
      have hlen:q'.length<=2000:=by
       have:=ok.len;unfold dc at hn;split at hn
       ·cases hp:preB (bn (m+1) l).p q with
        | true=>rw[hp] at hn;injection hn with hn;injection hn with _ hn;rw[← hn,List.length_drop];exact ay (Nat.sub_le _ _) this
        | false=>rw[hp] at hn;cases hn
       ·split at hn
        ·cases q with
         | nil=>cases hn
         | cons a q=>injection hn with hn;injection hn with _ hn;rw[← hn];exact ay (Nat.le_succ _) this
        ·cases hn
      rw[eW] at hall;rw[eR,eL,ref];by_cases hs:(ctext m (aB l i)).length<32
      ·rw[if_pos hs,List.nil_append] at hall;rw[gA hs];have hin:bp (ctext m (aB l i))=true:=(n7 hv hk0 hs).1;refine⟨by omega,λh=>by have:=kH h;omega,λ_ _=>⟨aB l i,rfl,?_⟩,λ_ h=>by rw[hin] at h;cases h⟩;exact⟨by have:m+1<=13:=hm;show m<=13;omega,ho,hfull,hall,hnib,hlen,ok.c,eD hv⟩
      ·rw[if_neg hs] at hall;obtain⟨h1,h2,h3⟩:=gJ hs;obtain⟨f1,f2⟩:=ok.full _ (oR hi hk hs);refine⟨by omega,λ_=>⟨by rw[h2];exact f1,aB l i,rfl,λc hc=> ?_⟩,(λh=>by rw[h1] at h;cases h),(λh=>by rw[h1] at h;cases h)⟩;rw[h2,f2];exact⟨by have:m+1<=13:=hm;show m<=13;omega,ho,hfull,by rw[← hall];simp,hnib,hlen,by rw[d!];exact hc,eD hv⟩
theorem XQ {t:List UInt8}{c:Nat}{ty:TypeId}{f:Nat->List UInt8}(h:f 0=t)(hc:1<=c):aa (.cells [.str F t] (c*1) ty) (.rows C 1 [.str f] F (c*1) ty):=by
 subst h;refine aa.of rfl rfl λ_=>⟨rfl,λE o ⟨c',fr,h1,h2,h3,h4⟩=>⟨c',fr,h1,λ_=>h2,by rw[h4];show 1*1<=c*1;omega,h4,λi k col hi hk=> ?_⟩,id⟩
 obtain rfl:i=0:=by omega
 match k,hk with
 | 0,hk=>injection hk with hk;subst hk;exact h3 0 _ rfl
theorem G5: ∀(m:Nat) (l:List Rw) (q:List UInt8),(iB m l q).length<=m
 | 0,_,_=>X _
 | m+1,l,q=>by
   unfold iB;split
   ·exact Y _
   ·rename_i i q' _;have:=G5 m (aB l i) q';split
    ·exact Y _
    ·split<;>simp<;>omega
theorem M9 (key:List UInt8)(l:List Rw):(aW key l).length<=14:=by have:=G5 13 l (aj key);unfold aW;rw[List.length_cons];omega
theorem add_get (T:List (List UInt8))(t:List UInt8){j:Nat}(hj:j<T.length+1):(if j<T.length then T.getD j [] else bT [t] (j - T.length))=(T++[t]).getD j []:=by
 by_cases h:j<T.length
 ·rw[if_pos h,b!,b!,List.getElem?_append_left h]
 ·obtain rfl:j=T.length:=by omega
  rw[if_neg h,Nat.sub_self];simp;rfl
section
attribute [local irreducible] aG aY getD bp aQ ai aj de fL gR aW cj bJ
theorem Gy (x:Wp)(hx:Zy x):az (runM (Ss x.w (aW x.key x.rows)) 27 c_ BW x):=by
 refine az.pr (Rd x) ?_;obtain⟨hh,hkey,hroot⟩:=hx;have hr:bV 13 x.rows:=gS hh.oM;have hfull:Full x.w (cM 13 x.rows):=GV hh.oM hh.apart hh.st [] [];have sb:Am x.w x.y:=hh.ok (Y _) (Y _);have gt: ∀ h,bJ x.w h=C->RA ⟨x.w,x.y,h,x.room⟩/\(x.w.at h).length<1099511627776/\aY (x.w.at h)=true:=λh e=>by unfold bJ at e;rw[Q] at e;exact⟨⟨e.1,sb.dom h e.1,sb.cR h e.1⟩,Nat.lt_of_le_of_lt (sb.f h e.1) (by decide),e.2⟩
 obtain⟨l0,a0⟩:=hfull (ctext 13 x.rows) (Z ..);have er:x.root=aG (ctext 13 x.rows):=by rw[hroot];unfold cj;rfl
 rw[← er] at l0 a0;obtain⟨g0,len0,get0⟩:=gt _ l0;refine⟨⟨x.w,x.y,x.root,x.room⟩,g0,rfl,rfl,aa.fmap (λ_=>rfl) (λ_=>rfl),aa.refl _,⟨x.w,x.y,x.root,x.room⟩,g0,rfl,rfl,aa.fmap (λ_=>rfl) (λ_=>rfl),aa.refl _,λc hc=>⟨⟨len0,get0⟩,by omega,?_,λh ok=>⟨⟨?_,λ_ _=>⟨λhc=> ?_,λhc=> ?_⟩⟩,λ_ _=> ?_⟩,λz hz=> ?_⟩⟩
 ·refine⟨⟨13,x.rows,aj x.key,[x.w.at x.root],c,getD (x.w.at x.root)⟩,⟨X _,hr,hfull.mono λt ht=>ax _ ht,by rw[a0];unfold aW;rfl,mA x.key,by rw[ow];omega,hc,by rw[a0];exact wB hr⟩,rfl,rfl,aa.refl _,⟨rfl,rfl⟩,by show 0<1;decide,XQ rfl hc⟩
 ·have eC:gR h.y.k h.y.p h.y.v h.q=((I (h.y.k=1)&&I (h.y.p=h.q))||(I (h.y.k=3)&&(I (h.q=[])&& !decide (h.y.v=[])))):=by unfold gR;rfl
  rw[eC];refine⟨λa=>⟨λb=>⟨(),trivial,?_⟩,λb=>⟨λd=>⟨λe=>⟨(),trivial,?_⟩,λe=>⟨(),trivial,?_⟩⟩,λd=>⟨(),trivial,?_⟩⟩⟩,λa=>⟨λd=>⟨λe=>⟨(),trivial,?_⟩,λe=>⟨(),trivial,?_⟩⟩,λd=>⟨(),trivial,?_⟩⟩⟩
  ·rw[a,b];rfl
  ·rw[a,b,d,e];cases I (h.y.v=[])<;>rfl
  ·rw[a,b,d,e];rfl
  ·rw[a,b,d];rfl
  ·rw[a,d,e];cases I (h.y.v=[])<;>rfl
  ·rw[a,d,e];rfl
  ·rw[a,d];rfl
 ·obtain⟨m,l,q,T,c',y⟩:=h;have hy:y=bn m l:=ok.y;have e:dc y q=none:=O4 (by unfold gR at hc;exact hc);have eT:T=aW x.key x.rows:=by have h1:=ok.all;dsimp only at h1;rw[ON (by rw[← hy];exact e),d_] at h1;exact h1
  subst eT;exact⟨c',ok.c,⟨rfl,rfl⟩,aa.refl _,aa.fmap (λ_=>rfl) (λ_=>rfl),aa.refl _⟩
 ·have eR:=J6 h.y h.q;have eL:=ER h.y h.q;have n2:h.y.k=2->dc h.y h.q=bif preB h.y.p h.q then M (0,h.q.drop h.y.p.length)else none:=λk=>by unfold dc;rw[if_pos k]
  have n0:h.y.k≠2->h.y.k≠3->dc h.y h.q=none:=λk k'=>by unfold dc;rw[if_neg k,if_neg k']
  have off:dc h.y h.q=J->∃ _:Unit,True/\h.q=fL h.y.k h.y.p h.q/\[]=de h.y.k h.y.p h.q (bq h.y.r):=λe=>by rw[e] at eR eL;exact⟨(),trivial,eL.symm,eR.symm⟩
  refine⟨λk2=> ?_,λk2=>⟨λk3=>⟨λhq=> ?_,λhq=>off ?_⟩,λk3=>off (n0 (of_decide_eq_false k2) (of_decide_eq_false k3))⟩⟩
  ·have k2:=of_decide_eq_true k2;have no3: ∀ {A:Prop},I (h.y.k=3)=C->A:=λk3=>absurd (of_decide_eq_true k3) (by omega);refine⟨λhl=> ?_,λhl=>⟨λk3=>no3 k3,λ_=>off ?_⟩⟩
   ·have hl:=of_decide_eq_true hl;refine⟨⟨by omega,by omega,hl⟩,λhp=>⟨⟨by omega,hl,by omega⟩,(),trivial,?_⟩,λhp=>⟨λk3=>no3 k3,λ_=>off ?_⟩⟩
    ·have hb:preB h.y.p h.q=true:=by unfold preB;rw[Q];exact⟨decide_eq_true (by omega),hp⟩
     rw[n2 k2,hb] at eR eL;exact⟨eL.symm,eR.symm⟩
    ·have hb:preB h.y.p h.q=false:=by unfold preB;rw[cy];exact .inr hp
     rw[n2 k2,hb];rfl
   ·have hb:preB h.y.p h.q=false:=by unfold preB;rw[cy];exact .inl (decide_eq_false (by have:=of_decide_eq_false hl;omega))
    rw[n2 k2,hb];rfl
  ·have k2:=of_decide_eq_false k2;have k3:=of_decide_eq_true k3;have hq:h.q≠[]:=by simpa using hq
   have Kv:=ok.Kv;have n3: ∃ b q',h.q=b::q'/\dc h.y h.q=M (b.toNat,q'):=by
    unfold dc;rw[if_neg k2,if_pos k3];cases e:h.q with
    | nil=>exact absurd e hq
    | cons b q'=>exact⟨b,q',rfl,rfl⟩
   obtain⟨b,q',e,e'⟩:=n3;have hb:=Kv b (by rw[e];exact Z ..);have eb:ah h.q 0=(b.toNat:Int):=by rw[e];rfl
   have hl:h.q.length=q'.length+1:=by rw[e];rfl
   rw[e'] at eR eL;dsimp only at eR eL;rw[if_pos hb] at eR;rw[eb,eR,eL];refine⟨⟨by omega,by omega⟩,⟨by omega,by omega⟩,by omega,⟨by omega,by omega,by omega⟩,(),trivial,?_,?_⟩
   ·rw[e];rfl
   ·rw[tH h.y.r (by omega)];rfl
  ·have hq:h.q=[]:=by simpa using hq
   have k2:=of_decide_eq_false k2;have k3:=of_decide_eq_true k3;unfold dc;rw[if_neg k2,if_pos k3,hq]
 ·obtain⟨s1,s2,s3,s4⟩:=XS ok;have hT:h.T.length<=14:=by have:=M9 x.key x.rows;rw[← ok.all,d!] at this;omega
  refine⟨s1,λhb=> ?_,λhb=>⟨⟨.inl s1,s1⟩,λhi=> ?_,λhi=> ?_⟩⟩
  ·obtain⟨e1,l',e2,e3⟩:=s2 hb;obtain⟨g1,g2,g3⟩:=gt _ e1;refine⟨⟨x.w,x.y,_,x.room⟩,g1,rfl,rfl,aa.fmap (λ_=>rfl) (λ_=>rfl),aa.refl _,⟨by omega,trivial,by omega,by omega⟩,λc2 hc2=>⟨⟨g2,g3⟩,⟨_,_,_,_,c2,_⟩,⟨e3 c2 hc2,by show h.m - 1+1<h.m+1;omega⟩,rfl,rfl,aa.refl _,⟨by simp,rfl⟩,?_,aa.refl _,aa.fmap (λ_=>rfl) (λ_=>rfl)⟩⟩;exact Sx.aa.sS (by simp) rfl λj hj=>add_get _ _ hj
  ·obtain⟨l',e2,e3⟩:=s3 hb hi;exact⟨⟨_,_,_,_,_,_⟩,⟨e3,by show h.m - 1+1<h.m+1;omega⟩,rfl,aa.refl _,⟨rfl,rfl⟩,aa.refl _⟩
  ·have eT:=s4 hb hi;refine⟨(dO,_,h.c),⟨by rw[← eT];exact ok.c,Nat.succ_pos _⟩,rfl,aa.cells (λ_=>rfl) rfl,⟨by rw[eT],rfl⟩,?_⟩;rw[eT];exact aa.refl _
 ·exact⟨z.2.2,hz,rfl,aa.refl _,aa.fmap (λ_=>rfl) (λ_=>rfl),aa.refl _⟩
end
theorem Ql:av O 27 (cF BW) :=fH (n:=20) (fn:=c_) Tryz.func27 (by kernel_rfl) (by kernel_rfl) BW λx hx=>⟨_,aax _ _,rfl,Gy x hx⟩
end Go.Proofs.YtoibaecagklkaaaGreatDoor
namespace Go.Proofs.YtoibaecagklkaaaGreatDoor
open Go Sx
set_option maxRecDepth 20000
structure Wy.oN (w:Wy):Prop where
 f: ∀ i,i<w.n->(w.f i).length<=1000
section
attribute [local irreducible] aG aY getD bp aQ ai bU bB bN dm fe zF c8 th aj
set_option maxHeartbeats 1000000 in
theorem Jl (w:Wy)(hw:w.oN){key:List UInt8}(hk:key.length<1099511627776)(kk:Option Nat) :
  az (iG (Su w key) 28 c! [.str F w.root,.str F key,.bH 0 1 w.z w.o 0 w.n w.c] [dK w kk] (V6 w key)):=by
 refine az.of_eq (MV w key kk) ?_;dsimp only;have S: ∀ v:SV,af v v:=λ_ _=>rfl;by_cases h40:(40:Int)<(w.n:Int)
 ·have e:eI w (aj key)=none:=by rw[eI,if_pos (by omega)]
  rw[e,decide_eq_true h40];exact⟨λ_=>⟨(λh=>by cases h),λ_=>S _⟩,(λh=>by cases h)⟩
 have hn: ¬ 40<w.n:=by omega
 have ok: ∀ u,u<=w.n->(w.on u).Ok:=λu hu=>⟨by show w.n<=200;omega,hw.f,hu⟩
 have hR:eI w (aj key)=(match c8 w (aj key)with
  | some (y,q,u)=>if u<w.n then J else M (y,q)
  | none=>J):=by rw[eI,if_neg hn];rfl
 have bad:c8 w (aj key)=J->∀ {A B:Prop},B->((eI w (aj key)).isSome=C->A)/\((eI w (aj key)).isSome=F->B):=λh A B b=>by rw[hR,h];exact⟨(λh=>by cases h),λ_=>b⟩
 have endB: ∀ {y q u},c8 w (aj key)=M (y,q,u)->u<w.n->∀ {A B:Prop},B->((eI w (aj key)).isSome=C->A)/\((eI w (aj key)).isSome=F->B):=λh hu A B b=>by rw[hR,h];simp only[hu,if_true];exact⟨(λh=>by cases h),λ_=>b⟩
 have endG: ∀ {y q u},c8 w (aj key)=M (y,q,u)->¬ u<w.n->eI w (aj key)=M (y,q):=λh hu=>by rw[hR,h];simp only[hu,if_false]
 have me: ∀ {u h},bU (w.on u) h=C->(getD (w.f u)).Good/\u<w.n:=λh=>⟨uQ (lP (CC h).2.2),(CC h).1⟩
 refine⟨λh=>absurd (of_decide_eq_true h) h40,λ_=>⟨hk,λR=>⟨?_,?_⟩⟩⟩
 all_goals try refine⟨rfl,rfl,rfl,?_⟩
 all_goals refine⟨(w.on 0,w.root),⟨ok 0 (Y _),trivial⟩,rfl,rfl,rfl,rfl,⟨rfl,rfl,rfl,rfl,rfl⟩,rfl,aa.refl _,λh0=> ?_,λh0=> ?_⟩
 all_goals repeat refine And.intro rfl ?_
 all_goals try exact bad (by rw[QU h0]) (S _)
 all_goals
  obtain⟨hg0,hn0⟩:=me h0;refine⟨⟨⟨getD (w.f 0),aj key,1,F,[]⟩,⟨⟨_,ei _,MC h0⟩,hg0,hn0⟩,rfl,aa.refl _,aa.refl _,aa.refl _,?_⟩,λx hx=> ?_,λx hx=> ?_⟩
 all_goals try exact⟨rfl,bad hx (S _)⟩
 all_goals try exact⟨aa.cells (λ_=>rfl) rfl,by repeat' first | exact aa.refl _ | exact trivial | refine And.intro ?_ ?_⟩
 all_goals
  obtain⟨⟨m,hm,hs⟩,hg,hu⟩:=hx;rw[tJ,Cv,Fu,Fv];refine⟨rfl,trivial,trivial,λhr=> ?_,λhr=> ?_⟩
 all_goals try
  have hr:=of_decide_eq_true hr;have he:=Xc hs hm hr;refine⟨λh=>⟨rfl,endB he (by have:=of_decide_eq_true h;omega) (S _)⟩,λh=>⟨rfl,?_⟩⟩;rw[endG he (by have:=of_decide_eq_false h;omega)];exact⟨λ_=>λ_=>rfl,(λh=>by cases h)⟩
 all_goals
  have hr:=of_decide_eq_false hr;have hl:=wq hg hr;refine⟨(w.on x.u,bB x.y x.p),⟨ok _ hu,JW hg _⟩,rfl,rfl,rfl,rfl,⟨rfl,rfl,rfl,rfl,rfl⟩,rfl,aa.refl _,λh1=> ?_,λh1=>⟨λh2=>⟨λh3=> ?_,λh3=> ?_⟩,λh2=> ?_⟩⟩
 all_goals first
  | (have hn:=H9 hs hm hr (OO h1 (.inr h3))
     refine⟨⟨dO,bN x.y x.p,x.u,dm x.y x.p,fe x.y x.p⟩,⟨hn,by omega⟩,rfl,aa.cells (λ_=>rfl) rfl,?_⟩)
  | (have hn:=H9 hs hm hr (OO h1 (.inl h2))
     refine⟨⟨dO,bN x.y x.p,x.u,dm x.y x.p,fe x.y x.p⟩,⟨hn,by omega⟩,rfl,aa.cells (λ_=>rfl) rfl,?_⟩)
  | refine⟨⟨getD (w.f x.u),bN x.y x.p,x.u+1,dm x.y x.p,fe x.y x.p⟩,⟨⟨Tn hs hm hg hr (Ru h1 h2 h3),(me h3).1,(me h3).2⟩,ej hl⟩,rfl,?_⟩
  | refine⟨⟨getD (bB x.y x.p),bN x.y x.p,x.u,dm x.y x.p,fe x.y x.p⟩,⟨⟨Tn hs hm hg hr (YN h1),uQ (DQ h1),hu⟩,ej hl⟩,rfl,?_⟩
 all_goals
  repeat' first
   | exact aa.refl _
   | refine And.intro ?_ ?_
   | rfl
   | exact trivial
   | fail
end
end Go.Proofs.YtoibaecagklkaaaGreatDoor
namespace Go.Proofs.YtoibaecagklkaaaGreatDoor
open Go Sx
set_option maxRecDepth 20000
def OI (vs:List SV)(l:List Seen):Option (Wy×List UInt8×Option Nat):=match vs,l with
 | [.str F root,.str F key,_],[⟨kk,z,o,n,c,[.str f]⟩]=>M (⟨root,n,f,z,o,c,0⟩,key,kk)
 | _,_=>J
theorem V7 {vs:List SV}{l:List Seen}{w:Wy}{key:List UInt8}{kk:Option Nat}(h:OI vs l=M (w,key,kk)):filled shW vs l=[.str F w.root,.str F key,.bH 0 1 w.z w.o 0 w.n w.c]/\l=[dK w kk]:=by
 unfold OI at h;split at h
 ·injection h with h;injection h with h1 h;injection h with h2 h3;subst h1;subst h2;subst h3;exact⟨rfl,rfl⟩
 ·cases h
def B5 (vs:List SV)(l:List Seen):Option (Prop×cO):=match OI vs l with
 | some (w,key,_)=>M (w.oN/\key.length<1099511627776,V6 w key)
 | none=>J
theorem XU:av O 28 (bS shW B5):=by
 refine gp (n:=20) (fn:=c!) Tryz.func28 (by kernel_rfl) (by kernel_rfl) ?_;intro vs l q a h hq;unfold B5 at h;split at h
 ·rename_i w key kk hx;injection h with h;injection h with h1 h2;subst h1;subst h2;obtain⟨e1,e2⟩:=V7 hx;rw[e1,e2];exact⟨_,aay w key,rfl,λb=>by cases b<;>exact rfl,Jl w hq.1 hq.2 kk⟩
 ·cases h
def Dx (f g f' g':Nat->List UInt8)(i:Nat):Bool:=I (f i=f' i)&&I (g i=g' i)
def lp (n:Nat)(f g:Nat->List UInt8)(n':Nat)(f' g':Nat->List UInt8):Bool:=I ((n:Int)=(n':Int))&&(ct n).all (Dx f g f' g')
def dEn:List ak:=[.str λ_=>[],.str λ_=>[]]
def acM:List tq:=[.of (.slice dEn),.of (.slice dEn)]
def v7 (z:Bool)(o c n:Nat)(f g:Nat->List UInt8)(key:Option Nat):Seen:=⟨key,z,o,n,c,[.str f,.str g]⟩
noncomputable def KH (n:Nat)(f g f' g':Nat->List UInt8):fQ:={cv with cQ:=λf=>aD f gX,bD:=λh=>if h=57 then [(4,always (Fe 13 n (Dx f g f' g')))] else []}
theorem Xd (n:Nat)(f g f' g':Nat->List UInt8):Sx.Good O (KH n f g f' g'):=.of bX eZ bw
theorem Q8 (n n':Nat)(f g f' g':Nat->List UInt8)(z z':Bool)(o c o' c':Nat)(key key':Option Nat):dA (.s 0 (.n (.s 0 (.n .k .t)) (.n (.s 6 (.n .k .t)) .t))) (iG (KH n f g f' g') 57 b_ [.bH 0 2 z o 0 n c,.bH 1 2 z' o' 0 n' c'] [v7 z o c n f g key,v7 z' o' c' n' f' g' key'] (.ret (.bool F (lp n f g n' f' g')))) ((((!decide ((n:Int)=(n':Int)))=C->af (SV.bool C F) (SV.bool F (lp n f g n' f' g')))/\((!decide ((n:Int)=(n':Int)))=F->(∃(u2:Nat),uU n (Dx f g f' g') u2/\0=(u2:Int))/\∀(u1:Nat),uU n (Dx f g f' g') u1->(I ((u1:Int)<(n:Int))=C->(0<=(u1:Int)/\(u1:Int)<(n:Int))/\(o=o/\0+(u1:Int).toNat<n)/\(0<=(u1:Int)/\(u1:Int)<(n':Int))/\(o'=o'/\0+(u1:Int).toNat<n')/\((!(I (f (0+(u1:Int).toNat)=f' (0+(u1:Int).toNat))&&(I (g (0+(u1:Int).toNat)=g' (0+(u1:Int).toNat))&&C)))=C->af (SV.bool C F) (SV.bool F (lp n f g n' f' g')))/\((!(I (f (0+(u1:Int).toNat)=f' (0+(u1:Int).toNat))&&(I (g (0+(u1:Int).toNat)=g' (0+(u1:Int).toNat))&&C)))=F->I6 ((u1:Int)+1)/\∃(u0:Nat),(uU n (Dx f g f' g') u0/\n - u0<n - u1)/\(u1:Int)+1=(u0:Int)))/\(I ((u1:Int)<(n:Int))=F->af (SV.bool C C) (SV.bool F (lp n f g n' f' g')))))):=⟨by kernel_rfl,by kernel_rfl⟩
theorem adn {a b:Bool}(h:(!(a&&(b&&C)))=F):(a&&b)=true:=by revert h;cases a<;>cases b<;>decide
theorem adm {a b:Bool}(h:(!(a&&(b&&C)))=C):(a&&b)=false:=by revert h;cases a<;>cases b<;>decide
def uJ (vs:List SV)(l:List Seen):Option (Prop×cO):=match vs,l with
 | [_,_],[⟨_,_,_,n,_,[.str f,.str g]⟩,⟨_,_,_,n',_,[.str f',.str g']⟩]=>M (n<9223372036854775808,.ret (.bool F (lp n f g n' f' g')))
 | _,_=>J
theorem CZ {n n':Nat}{f g f' g':Nat->List UInt8}(hn:n<9223372036854775808)(z z':Bool)(o c o' c':Nat)(key key':Option Nat):az (iG (KH n f g f' g') 57 b_ [.bH 0 2 z o 0 n c,.bH 1 2 z' o' 0 n' c'] [v7 z o c n f g key,v7 z' o' c' n' f' g' key'] (.ret (.bool F (lp n f g n' f' g')))):=by
 refine az.pr (Q8 n n' f g f' g' z z' o c o' c' key key') ?_;simp only[Int.toNat_natCast,an,true_and];refine⟨λh=>fU (by rw[lp,We h];rfl),λh=>⟨⟨0,⟨Y _,λj hj=>absurd hj (cx _)⟩,rfl⟩,λi hi=>⟨λa=> ?_,λa=> ?_⟩⟩⟩
 ·have a:(i:Int)<(n:Int):=of_decide_eq_true a;have e:(n:Int)=(n':Int):=YM h;refine⟨by omega,by omega,by omega,by omega,λb=> ?_,λb=>⟨by omega,i+1,⟨yz hi a (adn b),by omega⟩,by omega⟩⟩;exact fU (by rw[lp,yA a (adm b),a!])
 ·have a: ¬ (i:Int)<(n:Int):=of_decide_eq_false a;exact fU (by rw[lp,CL hi a,Wn h];rfl)
theorem K1:av O 57 (bS acM uJ):=by
 refine gp (n:=20) (fn:=b_) Tryz.func57 (by kernel_rfl) (by kernel_rfl) ?_;intro vs l q a h hq;unfold uJ at h;split at h
 ·rename_i v v' key z o n c f g key' z' o' n' c' f' g';injection h with h;injection h with h1 h2;subst h1;subst h2;exact⟨_,Xd n f g f' g',rfl,rfl,CZ hq z z' o c o' c' key key'⟩
 ·cases h
structure Xr where
 n:Nat
 f:Nat->List UInt8
 g:Nat->List UInt8
 z:Bool
 o:Nat
 c:Nat
 fr:List UInt8
 to:List UInt8
 m:Nat
 h:Nat->List UInt8
 z':Bool
 o':Nat
 c':Nat
def Xr.sp (x:Xr):Sp:=⟨x.fr,x.to,x.m,x.h,x.z',x.o',x.c',λ_=>F,λ_=>0⟩
noncomputable def Xr.U (x:Xr):List (List UInt8):=aH (cM 13 (aI x.n (λi=>aj (x.f i)) x.g))
def Xr.bet (x:Xr):List Rw:=aL x.fr x.to (aI x.n x.f x.g)
noncomputable def Xr.told (x:Xr):List Rw:=Af (cj x.n x.f x.g) x.sp
noncomputable def Xr.adq (x:Xr)(s:List UInt8)(j:Nat):Bool:=!SP s (x.U.getD j [])
noncomputable def Xr.free (x:Xr)(i:Nat):Bool:=(ct x.U.length).all (x.adq (x.h i))
noncomputable def Xr.ask (x:Xr):Bool:=I (cJ x.n x.f x.g=0)&&((eJ (cj x.n x.f x.g) x.sp).isSome&& !decide (x.told=x.bet))
noncomputable def Xr.hit (x:Xr):Bool:=x.ask&& !(ct x.m).all x.free
def Xr.args (x:Xr):List SV:=[.bH 0 2 x.z x.o 0 x.n x.c,.agg [.str F x.fr,.str F x.to],.bH 1 1 x.z' x.o' 0 x.m x.c']
def Xr.seen (x:Xr)(k k':Option Nat):List Seen:=[gZ x.z x.o x.c x.n x.f x.g k,⟨k',x.z',x.o',x.m,x.c',[.str x.h]⟩]
theorem QD (L L':List Rw):lp L.length (λi=>(L.getD i ([],[])).1) (λi=>(L.getD i ([],[])).2) L'.length (λi=>(L'.getD i ([],[])).1) (λi=>(L'.getD i ([],[])).2)=I (L=L'):=by
 rw[Bool.eq_iff_iff,decide_eq_true_eq];unfold lp Dx;rw[Q,decide_eq_true_eq,List.all_eq_true];constructor
 ·rintro⟨h1,h2⟩;refine List.ext_getElem (by omega) λi i1 i2=> ?_;have:=h2 i (ef.2 i1);rw[Q,decide_eq_true_eq,decide_eq_true_eq] at this;simp only[b!,cl i1,cl i2,Option.getD_some] at this;exact Prod.ext this.1 this.2
 ·rintro rfl;exact⟨rfl,λi _=>by simp⟩
namespace Xr
structure Ok (x:Xr):Prop where
 n:x.n<9223372036854775808
 few:x.sp.oN
end Xr
def abx:List tq:=[.of (.slice dE),.agg [.one,.one],.of (.slice [.str λ_=>[]])]
def abT (vs:List SV)(l:List Seen):Option (Xr×Option Nat×Option Nat):=match vs,l with
 | [_,.agg [.str F fr,.str F to],_],[⟨k,z,o,n,c,[.str f,.str g]⟩,⟨k',z',o',m,c',[.str h]⟩]=>M (⟨n,f,g,z,o,c,fr,to,m,h,z',o',c'⟩,k,k')
 | _,_=>J
theorem YQ {vs:List SV}{l:List Seen}{x:Xr}{k k':Option Nat}(h:abT vs l=M (x,k,k')):filled abx vs l=x.args/\l=x.seen k k':=by
 unfold abT at h;split at h
 ·injection h with h;injection h with h1 h;injection h with h2 h3;subst h1;subst h2;subst h3;exact⟨rfl,rfl⟩
 ·cases h
end Go.Proofs.YtoibaecagklkaaaGreatDoor
namespace Go.Proofs.YtoibaecagklkaaaGreatDoor.Sx
open Go
def cO.vcs (c:Bool)(m:Mem)(nx:Nat)(K:SV->Mem->Nat->VC):cO->VC
 | .ret v=>K v m nx
 | .new v B=>K (v nx) ((nx,B)::m) (nx+1)
 | .all α f=>.all α λx=>(f x).vcs c m nx K
 | .req p a=>.imp p (a.vcs c m nx K)
 | .fork b f=>.and (.atom (b=c)) ((f c).vcs c m nx K)
theorem cO.CM {c:Bool}{m:Mem}{nx:Nat}{K:SV->Mem->Nat->VC}: ∀ {a:cO},(a.vcs c m nx K).holds->(a.vc m nx K).holds
 | .ret _,h=>h
 | .new _ _,h=>h
 | .all _ f,h=>λx=>cO.CM (a:=f x) (h x)
 | .req _ a,h=>λx=>cO.CM (a:=a) (h x)
 | .fork b f,h=>cH.2 (by obtain⟨h1,h2⟩:=h;have h1:b=c:=h1;subst h1;exact cO.CM (a:=f b) h2)
theorem cO.wK {c:Bool}{m:Mem}{nx:Nat}{K K':SV->Mem->Nat->VC}(hK: ∀ v m nx,(K v m nx).holds->(K' v m nx).holds): ∀ {a:cO},(a.vcs c m nx K).holds->(a.vcs c m nx K').holds
 | .ret _,h=>hK _ _ _ h
 | .new _ _,h=>hK _ _ _ h
 | .all _ f,h=>λx=>cO.wK (a:=f x) hK (h x)
 | .req _ a,h=>λx=>cO.wK (a:=a) hK (h x)
 | .fork _ f,h=>⟨h.1,cO.wK (a:=f c) hK h.2⟩
noncomputable def rI (c:Bool)(sh:List tq)(spec:List SV->List Seen->Option (Prop×cO)):PT:=λargs m nx K=>match Gd m sh args with
 | true=>uY sh spec args m nx K
 | false=>(match mB m 0 sh args with
   | some (vs,p,l)=>(match spec vs l with
     | some (q,a)=>.and (.atom (p/\q)) (a.vcs c m nx K)
     | none=>.fail "arguments that nothing is said of")
   | none=>.fail "a slice that is not known")
theorem Dh (c:Bool)(sh:List tq)(spec:List SV->List Seen->Option (Prop×cO)):aT (rI c sh spec):=by
 intro args m nx K K' hK h;unfold rI at h ⊢;split at h
 ·exact Ff sh spec _ _ _ _ _ hK h
 ·split at h
  ·split at h
   ·exact⟨h.1,cO.wK hK h.2⟩
   ·exact h
  ·exact h
theorem QY {P:Program}{f:FuncId}{c:Bool}{sh:List tq}{spec:List SV->List Seen->Option (Prop×cO)}(h:av P f (bS sh spec)):av P f (rI c sh spec):=by
 intro args m nx K hk hwf hargs Γ E w hs;unfold rI at hk;split at hk
 ·exact RK h args m nx K hk hwf hargs Γ E w hs
 ·have:(bS sh spec args m nx K).holds:=by
   unfold bS;split at hk
   ·rename_i vs p l hp;split at hk
    ·rename_i q a hq
     first
      | exact⟨hk.1,cO.CM hk.2⟩
      | (rw[hp];simp only[hq];exact⟨hk.1,cO.CM hk.2⟩)
    ·exact hk.elim
   ·exact hk.elim
  exact h args m nx K this hwf hargs Γ E w hs
end Go.Proofs.YtoibaecagklkaaaGreatDoor.Sx
namespace Go.Proofs.YtoibaecagklkaaaGreatDoor
open Go Sx
set_option maxRecDepth 20000
def Oz (pt:PT):PT:=λargs m nx K=>pt args m nx λv m nx=>match v with
 | .bool _ b=>.and (.atom (b=C)) (K (.bool C C) m nx)
 | v=>K v m nx
theorem CA {pt:PT}(h:aT pt):aT (Oz pt):=by
 intro args m nx K K' hK hh;refine h _ _ _ _ _ (λv m nx hv=> ?_) hh
 cases v<;>first
  | exact⟨hv.1,hK _ _ _ hv.2⟩
  | exact hK _ _ _ hv
theorem J5 {P:Program}{f:FuncId}{pt:PT}(h:av P f pt):av P f (Oz pt):=by
 intro args m nx K hk hwf hargs Γ E w hs;refine(h args m nx _ hk hwf hargs Γ E w hs).mono (λe w' hh=> ?_) (λ_ _ h=>h);obtain⟨E',sv,m',nx',h1,h2,h3,h4,h5⟩:=hh;cases sv with
 | none=>exact h5.elim
 | some v =>
   simp only[lift] at h5;split at h5
   ·rename_i l b;obtain⟨hb,h5⟩:=h5;have hb:b=true:=hb;subst hb;exact⟨E',M (.bool C C),m',nx',h1,h2,λv hv=>by injection hv with hv;subst hv;exact h3 (.bool l C) rfl,h4,h5⟩
   ·exact⟨E',_,m',nx',h1,h2,h3,h4,h5⟩
noncomputable def KJ (n:Nat)(f f':Nat->List UInt8):fQ:={cv with cQ:=λf=>aD f gX,bD:=λg=>if g=15 then [(4,always (Fe 5 n λi=>decide (f i=f' i)))] else []}
theorem Xg (n:Nat)(f f':Nat->List UInt8):Sx.Good O (KJ n f f'):=.of bX eZ bw
theorem G6 {f:FuncId}{sh:List tq}{spec spec':List SV->List Seen->Option (Prop×cO)}(h:av O f (bS sh spec))(hi: ∀ vs l q' a',spec' vs l=M (q',a')->q'->∃ q a,spec vs l=M (q,a)/\q/\∀ m nx K,(a'.vc m nx K).holds->(a.vc m nx K).holds):av O f (bS sh spec'):=by
 intro args m nx K hk;refine h args m nx K ?_;unfold bS at hk ⊢;split at hk
 ·rename_i vs p l hp;split at hk
  ·rename_i q' a' hs;obtain⟨q,a,e,hq,g⟩:=hi vs l q' a' hs hk.1.2;simp only[e];exact⟨⟨hk.1.1,hq⟩,g m nx K hk.2⟩
  ·exact hk.elim
 ·exact hk.elim
structure CS (n:Nat)(f g:Nat->List UInt8)(root:List UInt8)(w:Sp):Prop where
 oM:cJ n f g=0
 apart:fT (m5 n f g).length (iM n f g)=C
 root:root=cj n f g
 le:sy w.fr w.to=C
 len:w.n=(qA w.fr w.to (aI n (λi=>aj (f i)) g)).length
 cR: ∀ i,i<w.n->w.f i=(qA w.fr w.to (aI n (λi=>aj (f i)) g)).getD i []
 fr:w.fr.length<=1000
 to:w.to.length<=1000
theorem CS.res {n:Nat}{f g:Nat->List UInt8}{root:List UInt8}{w:Sp}(h:CS n f g root w):eJ root w=M (aL w.fr w.to (aI n f g)):=by obtain⟨he,h40⟩:=ku h.oM;have hi:=TA h.apart;have h1:=h.len;have h2:=h.cR;rw[h.root];unfold cj;rw[sF] at h1 h2 hi ⊢;exact V8 he (by rw[fh];exact h40) hi h.le h1 h2
theorem O0 {n:Nat}{f g:Nat->List UInt8}(h:cJ n f g=0)(fr to:List UInt8){t:List UInt8}(ht:t∈ qA fr to (aI n (λi=>aj (f i)) g)):t.length<=700:=(lE (gS h) (rN (Fj.1 ht))).2.1
theorem CS.few {n:Nat}{f g:Nat->List UInt8}{root:List UInt8}{w:Sp}(h:CS n f g root w):w.oN:=⟨λi hi=>by rw[h.cR i hi];exact ay (O0 h.oM w.fr w.to (tV (by rw[← h.len];exact hi))) (by decide),h.fr,h.to⟩
def acQ (L:List Rw):cO:=.all Nat λc=>.req (L.length<=c) (.new (λk=>.aO [.bx k 2 C 0 L.length c,.int .i64 C 0]) (.rows C L.length [bY L,bZ L] F (c*2) 50))
noncomputable def mN (n:Nat)(f g:Nat->List UInt8)(vs:List SV)(l:List Seen):Option (Prop×cO):=match Vp vs l with
 | some (root,w,_)=>M (CS n f g root w,acQ (aL w.fr w.to (aI n f g)))
 | none=>J
theorem yC (n:Nat)(f g:Nat->List UInt8):av O 14 (bS JJ (mN n f g)):=G6 JP λvs l q' a' h hq=>by
 unfold mN at h;split at h
 ·rename_i root w kk hx;injection h with h;injection h with h1 h2;subst h1;subst h2;refine⟨_,_,by unfold sR;rw[hx],hq.few,λm nx K hk=> ?_⟩;have e:Af root w=aL w.fr w.to (aI n f g):=by unfold Af;rw[hq.res]
  unfold uK;simp only[cO.vc];rw[cH,hq.res,e];exact hk
 ·cases h
noncomputable def xm (vs:List SV)(l:List Seen):Option (Prop×cO):=match abT vs l with
 | some (x,_,_)=>M (x.n<9223372036854775808/\CS x.n x.f x.g (cj x.n x.f x.g) x.sp,.ret (.aO [.str C [],.str C [],.bool C F]))
 | none=>J
noncomputable def Ub (x:Xr):List (FuncId×PT):=(21,rI C Ws Cg)::(14,bS JJ (mN x.n x.f x.g))::(23,bS abw zM)::(57,Oz (bS acM uJ))::fY
theorem PV (x:Xr):bt O (λf=>aD f (Ub x)):=.cons (QY X9) (Dh _ _ _) (.cons (yC x.n x.f x.g) (cz _ _) (.cons Av (cz _ _) (.cons (J5 K1) (CA (cz _ _)) cZ)))
noncomputable def YU (x:Xr):fQ:={cv with cQ:=λf=>aD f (Ub x)}
theorem aaM (x:Xr):Sx.Good O (YU x):=.of bX (PV x) bw
theorem VX (n n':Nat)(f f':Nat->List UInt8)(z z':Bool)(o o' c c':Nat)(key key':Option Nat):dA (.s 0 (.n (.s 0 (.n .k .t)) (.n (.s 6 (.n .k .t)) .t))) (iG (KJ n f f') 15 b7 [.bH 0 1 z o 0 n c,.bH 1 1 z' o' 0 n' c'] [iA z o c n f key,iA z' o' c' n' f' key'] (.ret (.bool F (e8 n f n' f')))) ((((!decide ((n:Int)=(n':Int)))=C->af (SV.bool C F) (SV.bool F (e8 n f n' f')))/\((!decide ((n:Int)=(n':Int)))=F->(∃(u5:Nat),uU n (fun(u4:Nat)=>decide (f u4=f' u4)) u5/\0=(u5:Int))/\∀(u3:Nat),uU n (fun(u2:Nat)=>decide (f u2=f' u2)) u3->(I ((u3:Int)<(n:Int))=C->(0<=(u3:Int)/\(u3:Int)<(n:Int))/\(o=o/\0+(u3:Int).toNat<n)/\(0<=(u3:Int)/\(u3:Int)<(n':Int))/\(o'=o'/\0+(u3:Int).toNat<n')/\((!decide (f (0+(u3:Int).toNat)=f' (0+(u3:Int).toNat)))=C->af (SV.bool C F) (SV.bool F (e8 n f n' f')))/\((!decide (f (0+(u3:Int).toNat)=f' (0+(u3:Int).toNat)))=F->I6 ((u3:Int)+1)/\∃(u1:Nat),(uU n (fun(u0:Nat)=>decide (f u0=f' u0)) u1/\n - u1<n - u3)/\(u3:Int)+1=(u1:Int)))/\(I ((u3:Int)<(n:Int))=F->af (SV.bool C C) (SV.bool F (e8 n f n' f')))))):=⟨by kernel_rfl,by kernel_rfl⟩
theorem Yq (x:Xr)(k k':Option Nat):dA .t (iG (YU x) 22 c5 x.args (x.seen k k') (.ret (.aO [.str C [],.str C [],.bool C F]))) (((((x.z=x.z/\x.o=x.o/\0+x.n<=x.n)/\True)/\x.n<9223372036854775808)/\I (cJ x.n x.f x.g=0)=C/\((True/\(True/\True/\True)/\(x.z'=x.z'/\x.o'=x.o'/\0+x.m<=x.m)/\True)/\CS x.n x.f x.g (cj x.n x.f x.g) {fr:=x.fr,to:=x.to,n:=x.m,f:=x.h,z:=x.z',o:=x.o'+0,c:=x.c',ad:=fun(_u8:List UInt8)=>F,ag:=fun(_u7:List UInt8)=>(0:Int):Sp})/\∀(u6:Nat),(aL x.fr x.to (aI x.n x.f x.g)).length<=u6->(((x.z=x.z/\x.o=x.o/\0+x.n<=x.n)/\(True/\True/\True)/\True)/\x.n<=1000/\(∀(u5:Nat),u5<x.n->(x.f u5).length<1099511627776)/\x.fr.length<=1000/\x.to.length<=1000)/\∀(u4:Nat),(aL x.fr x.to (aI x.n x.f x.g)).length<=u4->(((C=C/\0+(aL x.fr x.to (aI x.n x.f x.g)).length<=(aL x.fr x.to (aI x.n x.f x.g)).length)/\(C=C/\0+(aL x.fr x.to (aI x.n x.f x.g)).length<=(aL x.fr x.to (aI x.n x.f x.g)).length)/\True)/\(aL x.fr x.to (aI x.n x.f x.g)).length<9223372036854775808) /\(lp (aL x.fr x.to (aI x.n x.f x.g)).length (fun(u3:Nat)=>((aL x.fr x.to (aI x.n x.f x.g)).getD u3 ([],[])).1) (fun(u2:Nat)=>((aL x.fr x.to (aI x.n x.f x.g)).getD u2 ([],[])).2) (aL x.fr x.to (aI x.n x.f x.g)).length (fun(u1:Nat)=>((aL x.fr x.to (aI x.n x.f x.g)).getD u1 ([],[])).1) fun(u0:Nat)=>((aL x.fr x.to (aI x.n x.f x.g)).getD u0 ([],[])).2)=C/\af (SV.aO [SV.str C [],SV.str C [],SV.bool C F]) (SV.aO [SV.str C [],SV.str C [],SV.bool C F]))):=⟨by kernel_rfl,by kernel_rfl⟩
theorem GO {n n':Nat}{f f':Nat->List UInt8}(hn:n<9223372036854775808)(z z':Bool)(o o' c c':Nat)(key key':Option Nat):az (iG (KJ n f f') 15 b7 [.bH 0 1 z o 0 n c,.bH 1 1 z' o' 0 n' c'] [iA z o c n f key,iA z' o' c' n' f' key'] (.ret (.bool F (e8 n f n' f')))):=by
 refine az.pr (VX n n' f f' z z' o o' c c' key key') ?_;simp only[Int.toNat_natCast,an];refine⟨λh=>fU (by rw[e8,We h];rfl),λh=>⟨⟨0,⟨Y _,λj hj=>absurd hj (cx _)⟩,rfl⟩,λi hi=>⟨λa=> ?_,λa=> ?_⟩⟩⟩
 ·simp only[decide_eq_true_eq] at a;have e:(n:Int)=(n':Int):=YM h;refine⟨by omega,⟨trivial,by omega⟩,by omega,⟨trivial,by omega⟩,λb=> ?_,λb=>⟨by omega,i+1,⟨yz hi a (Wn b),by omega⟩,by omega⟩⟩;exact fU (by rw[e8,yA a (We b),a!])
 ·simp only[decide_eq_false_iff_not] at a;exact fU (by rw[e8,CL hi a,Wn h];rfl)
theorem QC:av O 15 (bS Yd lY):=by
 refine gp (n:=20) (fn:=b7) Tryz.func15 (by kernel_rfl) (by kernel_rfl) ?_;intro vs l q a h hq;unfold lY at h;split at h
 ·rename_i v v' key z o n c f key' z' o' n' c' f';injection h with h;injection h with h1 h2;subst h1;subst h2;exact⟨_,Xg n f f',rfl,rfl,GO hq z z' o o' c c' key key'⟩
 ·cases h
theorem WL {n:Nat}{f g:Nat->List UInt8}(h:cJ n f g=0):n<=1000/\∀ i,i<n->(f i).length<1099511627776:=by obtain⟨he,h40⟩:=ku h;refine⟨by omega,λi hi=> ?_⟩;have:=(he.key (f i,g i) (by unfold aI;exact ec.2 ⟨i,ef.2 hi,rfl⟩)).2;have:(f i).length<=6:=this;omega
theorem WT (fr to:List UInt8)(n:Nat)(f g:Nat->List UInt8):(aL fr to (aI n f g)).length<=n:=by have:=List.length_filter_le (λe:List UInt8×List UInt8=>hasB fr to (aj e.1)) (aI n f g);rw[fh] at this;exact this
theorem S5:av O 22 (bS abx xm):=by
 refine gp (n:=20) (fn:=c5) Tryz.func22 (by kernel_rfl) (by kernel_rfl) ?_;intro vs l q a h hq;unfold xm at h;split at h
 ·rename_i x k k' hx;injection h with h;injection h with h1 h2;subst h1;subst h2;obtain⟨e1,e2⟩:=YQ hx;rw[e1,e2];refine⟨_,aaM x,rfl,rfl,az.pr (Yq x k k') ?_⟩;obtain⟨hn,hv⟩:=hq;have hl:=WT x.fr x.to x.n x.f x.g;obtain⟨b1,b2⟩:=WL hv.oM;simp only[true_and,and_true,an,X];exact⟨hn,decide_eq_true hv.oM,hv,λc hc=>⟨⟨b1,b2,hv.fr,hv.to⟩,λc' hc'=>⟨by omega,(QD _ _).trans (decide_eq_true rfl),λ_=>rfl⟩⟩⟩
 ·cases h
def mc (t:List SV->Bool)(p q:PT):PT:=λargs m nx K=>match t args with
 | true=>p args m nx K
 | false=>q args m nx K
theorem nw {t:List SV->Bool}{p q:PT}(hp:aT p)(hq:aT q):aT (mc t p q):=by
 intro args m nx K K' hK h;unfold mc at h ⊢;split at h
 ·exact hp _ _ _ _ _ hK h
 ·exact hq _ _ _ _ _ hK h
theorem xk {P:Program}{f:FuncId}{t:List SV->Bool}{p q:PT}(hp:av P f p)(hq:av P f q):av P f (mc t p q):=by
 intro args m nx K hk;unfold mc at hk;split at hk
 ·exact hp args m nx K hk
 ·exact hq args m nx K hk
def asC (c:gD)(pre:c.G->Prop)(uT:c.G->gj):gD:={c with pre:=pre,uT:=uT}
theorem vG {P:Program}{f:FuncId}{c:gD}{pre:c.G->Prop}{uT:c.G->gj}(h:av P f (cF c))(hi: ∀ x,pre x->c.pre x/\∀ g,((uT x).qO g).holds->((c.uT x).qO g).holds):av P f (cF (asC c pre uT)):=by
 intro args m nx K hk;refine h args m nx K ?_;obtain⟨x,h1,h2⟩:=hk;refine⟨x,(hi x h1).1,nJ (λaJ h=>gB (λaJ h=> ?_) h) h2⟩;cases hr:zg nx aJ with
 | false=>simp only[hr] at h;exact h.elim
 | true=>simp only[hr] at h ⊢;exact(hi x h1).2 _ h
structure HoZ where
 n:Nat
 f:Nat->List UInt8
 g:Nat->List UInt8
 o:Nat
 c:Nat
def HoZ.ho (x:HoZ):HoG:=⟨x.n,x.f,x.g,F,x.o,x.c⟩
noncomputable def Lh:gD:={G:=HoZ,n:=1,N:=4,pre:=λx=>x.n<9223372036854775808,args:=λx=>nB.args x.ho,mem:=λx=>nB.mem x.ho,uT:=λx=>nB.uT x.ho}
theorem TD:av O 12 (cF Lh) :=fH (n:=20) (fn:=Tryz.f12) Tryz.func12 (by kernel_rfl) (by kernel_rfl) Lh λx hx=>⟨_,NJ,rfl,yY (λ_ _ _ h=>Y6 h) x.ho hx⟩
noncomputable def NO:gD:=asC Lh (λx=>x.n<9223372036854775808/\Bb x.n x.f x.g=C) λx=>.all tM λy=>.req (Al x.n x.f x.g y) (.ret (.aO [.ptr 1 C 0,.str F (cj x.n x.f x.g)]) [(1,fq 2000 2),(2,.fmap (cG y.Fr) (.ref 3 y.g) J),(3,y.A.bare)])
theorem Ic {n:Nat}{f g:Nat->List UInt8}(h:Bb n f g=C){y:tM}(hy:qo (m5 n f g).length (iM n f g) (aG (iM n f g 0)) y):Al n f g y:=by unfold Bb at h;simp only[Q,decide_eq_true_eq] at h;exact⟨h.2.1,h.2.2,hy⟩
theorem pq (n:Nat)(f g:Nat->List UInt8):aG (iM n f g 0)=cj n f g:=by rw[vv];rfl
theorem Li:av O 12 (cF NO):=vG TD fun(x:HoZ) hx=>⟨hx.1,λG h=>by show(Sx.fork (Bb x.n x.f x.g) _).holds;rw[cH,hx.2];show ∀ y,_->_;intro y hy;have:=h y (Ic hx.2 hy);rw[← pq] at this;exact this⟩
noncomputable def Ay:gD:=asC oW (λx=>E7 x/\x.root=cj x.n x.f x.g/\sy x.fr x.to=C) λx=>.all Nat λc=>.req (x.ns.length<=c) (.ret (.aO [.bx 3 1 C 0 x.ns.length c,.int .i64 C 0]) (lF x.room x.y++[(3,.rows C x.ns.length [jc x.ns] F (c*1) 9)]))
noncomputable def Hr:gD:=asC oW (λx=>E7 x/\x.root=cj x.n x.f x.g/\sy x.fr x.to=F) λx=>.ret (.aO [.aP,.int .i64 C 1]) (lF x.room x.y)
noncomputable def Nf:gD:=asC oW (λx=>E7 x/\¬ x.root=cj x.n x.f x.g) λx=>.ret (.aO [.aP,.int .i64 C 4]) (lF x.room x.y)
theorem yR:av O 13 (cF Ay):=vG xb fun(x:M5) hx=>⟨hx.1,λG h=>by show(Sx.fork (I (x.root=cj x.n x.f x.g)) _).holds;rw[cH,decide_eq_true hx.2.1];show(Sx.fork (sy x.fr x.to) _).holds;rw[cH,hx.2.2];exact h⟩
theorem Hs:av O 13 (cF Hr):=vG xb fun(x:M5) hx=>⟨hx.1,λG h=>by show(Sx.fork (I (x.root=cj x.n x.f x.g)) _).holds;rw[cH,decide_eq_true hx.2.1];show(Sx.fork (sy x.fr x.to) _).holds;rw[cH,hx.2.2];exact h⟩
theorem KE:av O 13 (cF Nf):=vG xb fun(x:M5) hx=>⟨hx.1,λG h=>by show(Sx.fork (I (x.root=cj x.n x.f x.g)) _).holds;rw[cH,decide_eq_false hx.2];exact h⟩
def uR (vs:List SV)(l:List Seen):Option (Prop×cO):=match Vp vs l with
 | some (_root,w,_)=>M (w.n=0/\w.fr.length<=1000/\w.to.length<=1000,.ret (.aO [.aP,.int .i64 C 10]))
 | none=>J
theorem Rr:av O 14 (bS JJ uR):=G6 JP λvs l q' a' h hq=>by
 unfold uR at h;split at h
 ·rename_i root w kk hx;injection h with h;injection h with h1 h2;subst h1;subst h2;obtain⟨h0,h1,h2⟩:=hq;refine⟨w.oN,uK root w,by unfold sR;rw[hx],⟨(λi hi=>by rw[h0] at hi;exact absurd hi (cx _)),h1,h2⟩,λm nx K hk=> ?_⟩;have e:eJ root w=none:=by unfold eJ;rw[decide_eq_false (show ¬ 0<w.n by rw[h0];exact Nat.lt_irrefl 0),Bool.false_and,a!];rfl
  unfold uK;simp only[cO.vc];rw[cH,e];exact hk
 ·cases h
def Xs:List SV->Bool
 | [_,_,.aP]=>C
 | _=>F
def acv:List SV->Bool
 | [_,.str C _,_]=>C
 | _=>F
def toA:List SV->Bool
 | [_,_,.agg [_,.str _ [97]]]=>C
 | _=>F
def eF (i:Nat):List UInt8:=[[97],[98]].getD i []
def eG (i:Nat):List UInt8:=[[49],[50]].getD i []
noncomputable def T9:List (FuncId×PT):=(12,cF NO)::(13,mc acv (cF Nf) (mc toA (cF Hr) (cF Ay)))::(14,mc Xs (bS JJ uR) (bS JJ (mN 2 eF eG)))::(23,bS abw zM)::(22,bS abx xm)::fY
theorem PR:bt O (λf=>aD f T9):=.cons Li (cc _) (.cons (xk KE (xk Hs yR)) (nw (cc _) (nw (cc _) (cc _))) (.cons (xk Rr (yC 2 eF eG)) (nw (cz _ _) (cz _ _)) (.cons Av (cz _ _) (.cons S5 (cz _ _) cZ))))
noncomputable def SG:fQ:={cv with cQ:=λf=>aD f T9}
theorem aaI:Sx.Good O SG:=.of bX PR bw
noncomputable def Vg (cfg:fQ)(f:Nat)(fn:Func)(args:List SV)(a:cO):VC:=fN O (calling O cfg 40) [] Aa (cfg.bD f) cfg.rounds fn args [] 0 (λv m _=>a.fit v m)
theorem Rq:dA (.s 0 (.n .k (.s 0 (.n .k (.s 1 (.n .k (.n .k (.n .k (.s 0 (.n .k (.n .k (.n .k (.s 3 (.n .k (.n .k (.n .k (.s 0 (.n .k (.n .k (.n .k (.s 1 (.n .k (.n .k (.n .k (.s 0 (.n .k (.n .k (.n .k (.s 0 (.n (.s 1 (.n (.s 2 (.n (.s 0 (.c F 0 (.s 0 (.c F 1 .t)))) (.n (.s 0 (.n (.s 0 (.c F 2 .t)) .t)) .t))) .t)) .t)))))))))))))))))))))))))))))) (Vg SG 11 bf [] (.ret (.bool C C))) ((λP0:List SV=>((∃(u18:HoZ),(u18.n<9223372036854775808/\Bb u18.n u18.f u18.g=C)/\(0=u18.o+0/\2=u18.n/\2=u18.c)/\aa (SB.cells [SV.str C [(97:UInt8)],SV.str C [(49:UInt8)],SV.str C [(98:UInt8)],SV.str C [(50:UInt8)]] 4 50) (SB.view F u18.o u18.n [ak.str u18.f,ak.str u18.g])/\∀(u17:tM),Al u18.n u18.f u18.g u17->∃(u16:M5),(E7 u16/\u16.root=cj u16.n u16.f u16.g/\sy u16.fr u16.to=C)/\cj u18.n u18.f u18.g=u16.root/\[(98:UInt8)]=u16.fr/\[(99:UInt8)]=u16.to/\2000=u16.room/\aa (SB.fmap (cG u17.Fr) (aC.ref 4 u17.g) J) (SB.fmap (cG u16.y.Fr) (aC.ref 2 u16.y.g) J)/\aa (SB.dV u17.A.D [ak.str u17.A.cR] 4 133 F) (SB.dV u16.y.A.D [ak.str u16.y.A.cR] 4 133 C)/\∀(u15:Nat),u16.ns.length<=u15->((True/\(True/\True/\True)/\(C=C/\0+u16.ns.length<=u16.ns.length)/\True)/\CS 2 eF eG (cj u18.n u18.f u18.g) {fr:=[(98:UInt8)],to:=[(99:UInt8)],n:=u16.ns.length,f:=fun(u14:Nat)=>u16.ns.getD u14 [],z:=C,o:=(0:Nat),c:=u15,ad:=fun(_u13:List UInt8)=>F,ag:=fun(_u12:List UInt8)=>(0:Int):Sp}) /\∀(u11:Nat),1<=u11->((True/\(True/\True/\True)/\True/\True)/\(0:Nat)=(0:Nat)/\(1:Nat)<=(1000:Nat)/\(1:Nat)<=(1000:Nat))/\∃(u10:M5),(E7 u10/\u10.root=cj u10.n u10.f u10.g/\sy u10.fr u10.to=F)/\cj u18.n u18.f u18.g=u10.root/\[(98:UInt8)]=u10.fr/\[(97:UInt8)]=u10.to/\u16.room=u10.room/\aa (SB.fmap (cG u16.y.Fr) (aC.ref 4 u16.y.g) J) (SB.fmap (cG u10.y.Fr) (aC.ref 2 u10.y.g) J)/\aa (SB.dV u17.A.D [ak.str u17.A.cR] 4 133 F) (SB.dV u10.y.A.D [ak.str u10.y.A.cR] 4 133 C)/\∃(u9:M5),(E7 u9/\¬u9.root=cj u9.n u9.f u9.g)/\[(63:UInt8)]=u9.root/\[(98:UInt8)]=u9.fr/\[(99:UInt8)]=u9.to/\u10.room=u9.room/\aa (SB.fmap (cG u10.y.Fr) (aC.ref 4 u10.y.g) J) (SB.fmap (cG u9.y.Fr) (aC.ref 2 u9.y.g) J)/\aa (SB.dV u17.A.D [ak.str u17.A.cR] 4 133 F) (SB.dV u9.y.A.D [ak.str u9.y.A.cR] 4 133 C)/\((True/\(True/\True/\True)/\(C=C/\0+u16.ns.length<=u16.ns.length)/\True)/\(2:Nat)<(9223372036854775808:Nat) /\CS 2 (fun(u8:Nat)=>rJ ((V 0 P0).getD (u8*2+(0:Nat)) SV.bW)) (fun(u7:Nat)=>rJ ((V 0 P0).getD (u7*2+(1:Nat)) SV.bW)) (cj 2 (fun(u6:Nat)=>rJ ((V 0 P0).getD (u6*2+(0:Nat)) SV.bW)) fun(u5:Nat)=>rJ ((V 0 P0).getD (u5*2+(1:Nat)) SV.bW)) {n:=(2:Nat),f:=fun(u4:Nat)=>rJ ((V 0 P0).getD (u4*2+(0:Nat)) SV.bW),g:=fun(u3:Nat)=>rJ ((V 0 P0).getD (u3*2+(1:Nat)) SV.bW),z:=F,o:=(0:Nat),c:=(2:Nat),fr:=[(98:UInt8)],to:=[(99:UInt8)],m:=u16.ns.length,h:=fun(u2:Nat)=>u16.ns.getD u2 [],z':=C,o':=(0:Nat),c':=u15:Xr}.sp)/\(I ((↑(1:Nat):Int)=1)=C->((0:Int)<=(0:Int)/\0<(↑(1:Nat):Int))/\(0:Nat)<(1:Nat)/\(I (((aL [(98:UInt8)] [(99:UInt8)] (aI 2 eF eG)).getD 0 ([],[])).1=[(98:UInt8)])=C->(1:Nat)<(1099511627776:Nat)/\((!(Op.bytesLess [] (aj [(99:UInt8)])||decide ([]=aj [(99:UInt8)])))=C->af (SV.bool C F) (SV.bool C C)) /\((!(Op.bytesLess [] (aj [(99:UInt8)])||decide ([]=aj [(99:UInt8)])))=F->(1:Nat)<(1099511627776:Nat)/\((!Op.bytesLess [] (aj [(98:UInt8)]))=C->(1:Nat)<(1099511627776:Nat)/\(1:Nat)<(1099511627776:Nat)/\af (SV.bool C F) (SV.bool C C))/\((!Op.bytesLess [] (aj [(98:UInt8)]))=F->(I ((0:Int)<=(2:Int))=C->((0:Int)<=(0:Int)/\(0:Int)<=(0:Int)/\(0:Int)<=(2:Int))/\(I (bO (aj [(98:UInt8)]) J (M (Operand.tmp 13)) 0 0=[])=C->(1:Nat)<(1099511627776:Nat)/\((True/\(True/\True/\True)/\True)/\(2:Nat)<=(1000:Nat)/\(∀(u1:Nat),u1<2->(rJ ((V 0 P0).getD (u1*2+(0:Nat)) SV.bW)).length<1099511627776)/\(1:Nat)<=(1000:Nat)/\(1:Nat)<=(1000:Nat))/\∀(u0:Nat),1<=u0->af (SV.bool (F&&C) (I ((1:Int)=(1:Int)))) (SV.bool C C))/\(I (bO (aj [(98:UInt8)]) J (M (Operand.tmp 13)) 0 0=[])=F->af (SV.bool C F) (SV.bool C C)))/\(I ((0:Int)<=(2:Int))=F->af (SV.bool C F) (SV.bool C C))))) /\(I (((aL [(98:UInt8)] [(99:UInt8)] (aI 2 eF eG)).getD 0 ([],[])).1=[(98:UInt8)])=F->af (SV.bool C F) (SV.bool C C)))/\(I ((↑(1:Nat):Int)=1)=F->af (SV.bool C F) (SV.bool C C))))) (aM (aM (times 2 (SV.agg [SV.str C [],SV.str C []]).cells) 0 (SV.agg (aM (aM [SV.str C [],SV.str C []] 0 (SV.str C [(97:UInt8)]).cells) 1 (SV.str C [(49:UInt8)]).cells)).cells) 2 (SV.agg (aM (aM [SV.str C [],SV.str C []] 0 (SV.str C [(98:UInt8)]).cells) 1 (SV.str C [(50:UInt8)]).cells)).cells)):=⟨by kernel_rfl,by kernel_rfl⟩
theorem HQ (c:Nat):aa (SB.cells [SV.str C [(97:UInt8)],SV.str C [(49:UInt8)],SV.str C [(98:UInt8)],SV.str C [(50:UInt8)]] c 50) (SB.view F 0 2 [ak.str eF,ak.str eG]):=by
 refine aa.of rfl rfl λhno=>⟨rfl,λE o ⟨c,fr,h1,h2,h3,_⟩=>⟨c,_,fr,h1,λi k col hi hk=> ?_⟩,λh=>by cases h⟩
 match i,hi,k,hk with
 | 0,_,0,hk=>obtain rfl:=a_ hk;exact h3 0 (.str C [97]) rfl
 | 0,_,1,hk=>obtain rfl:=a_ hk;exact h3 1 (.str C [49]) rfl
 | 1,_,0,hk=>obtain rfl:=a_ hk;exact h3 2 (.str C [98]) rfl
 | 1,_,1,hk=>obtain rfl:=a_ hk;exact h3 3 (.str C [50]) rfl
 | i+2,hi,_,_=>omega
 | _,_,k+2,hk=>simp at hk
theorem ZT {p:Nat->Prop}(h0:p 0)(h1:p 1)(i:Nat)(hi:i<2):p i:=by
 match i,hi with
 | 0,_=>exact h0
 | 1,_=>exact h1
theorem va {A:It}:aa (.dV A.D [.str A.cR] 4 133 F) A.qz :=⟨rfl,λ_ _ ha=>⟨ha,λ_ _ h=>h,λh=>by cases h⟩⟩
theorem Dk:az (Vg SG 11 bf [] (.ret (.bool C C))):=by
 refine az.pr Rq ?_;have hB:Bb 2 eF eG=true:=by decide +kernel
 refine⟨⟨2,eF,eG,0,2⟩,⟨by decide,hB⟩,⟨rfl,rfl,rfl⟩,HQ _,λy hy=> ?_⟩;have hr:=Qx 2 eF eG;dsimp only at hy ⊢;have l1: ∀ b:UInt8,[b].length<=1000:=λb=>by show(1:Nat)<=1000;decide
 have le1:sy [98] [99]=true:=by decide +kernel
 have le2:sy [98] [97]=false:=by decide +kernel
 refine⟨⟨2,eF,eG,y,[98],[99],cj 2 eF eG,2000⟩,⟨⟨hy,l1 _,l1 _,.inl rfl⟩,rfl,le1⟩,rfl,rfl,rfl,rfl,aa.fmap (λ_=>rfl) (λ_=>rfl),va,λc hc=>⟨⟨⟨trivial,⟨trivial,trivial,trivial⟩,⟨rfl,by rw[an];exact X _⟩,trivial⟩,⟨hy.oM,hy.apart,rfl,le1,rfl,λi hi=>rfl,l1 _,l1 _⟩⟩,λc1 hc1=>⟨⟨⟨trivial,⟨trivial,trivial,trivial⟩,trivial,trivial⟩,rfl,l1 98,l1 98⟩,⟨2,eF,eG,y,[98],[97],cj 2 eF eG,2000⟩,⟨⟨hy,l1 _,l1 _,.inl rfl⟩,rfl,le2⟩,rfl,rfl,rfl,rfl,aa.fmap (λ_=>rfl) (λ_=>rfl),va,⟨2,eF,eG,y,[98],[99],[63],2000⟩,⟨⟨hy,l1 _,l1 _,.inr (by show(1:Nat)≠32;decide)⟩,λe=>by have:=congrArg List.length e;rw[hr] at this;exact absurd this (by show ¬ (1:Nat)=32;decide)⟩,rfl,rfl,rfl,rfl,aa.fmap (λ_=>rfl) (λ_=>rfl),va,⟨⟨trivial,⟨trivial,trivial,trivial⟩,⟨rfl,by rw[an];exact X _⟩,trivial⟩,by decide,⟨by decide +kernel,by decide +kernel,rfl,le1,rfl,λi hi=>rfl,l1 _,l1 _⟩⟩,?_⟩⟩⟩
 repeat' first
  | exact trivial
  | exact rfl
  | exact λ_=>rfl
  | refine And.intro ?_ ?_
  | exact λh=>absurd h (by decide +kernel)
  | intro (_:_=C)
  | intro (_:_=F)
  | refine ZT ?_ ?_
  | intro (_:Nat)
  | intro (_:_<=_)
  | decide +kernel
  | fail
def wA (vs:List SV):Option (Prop×cO):=match vs with
 | []=>M (True,.ret (.bool C C))
 | _=>J
theorem M3:av O 11 (cw wA):=by
 refine dW (n:=40) (fn:=bf) Tryz.func11 (by kernel_rfl) (by kernel_rfl) ?_;intro vs q a h hq
 match vs,h with
 | [],h =>injection h with h;injection h with h1 h2;subst h1;subst h2;exact⟨_,aaI,rfl,rfl,Dk⟩
theorem aaW {m:Nat}{l:List Rw}(hr:bV m l){i:Nat}(e:aB l i≠[]):i<16:=by
 match l,e with
 | r::s::t,e =>
   rw[cC] at e;split at e
   ·split at e
    ·omega
    ·exact absurd rfl e
   ·obtain⟨x,hx⟩:=List.exists_mem_of_ne_nil _ e;obtain⟨y,hy,_⟩:=ec.1 hx;obtain⟨h1,h2⟩:=List.mem_filter.1 hy;obtain⟨z,v⟩:=y;cases z with
    | nil=>cases h2
    | cons b z =>have:=hr.Kv _ h1 b (Z ..);have h3:b.toNat=i:=of_decide_eq_true h2;omega
theorem EZ: ∀ {m:Nat} {l:List Rw} {q:List UInt8},bV m l->∀ t,t∈ iB m l q->t∈ cr m l
 | 0,_,_,_,_,h=>by cases h
 | m+1,l,q,hr,t,h=>by
   unfold iB at h;split at h
   ·cases h
   ·rename_i i q' _;split at h
    ·cases h
    ·rename_i e;have hi:=aaW hr e;rcases List.mem_append.1 h with h | h
     ·split at h
      ·cases h
      ·rename_i hs;rw[List.mem_singleton.1 h];exact oR hi e hs
     ·exact lM hi e (EZ (fD hr i) t h)
structure RB (n:Nat)(f g:Nat->List UInt8)(w:Wy)(key:List UInt8):Prop where
 oM:cJ n f g=0
 root:w.root=cj n f g
 len:w.n=(aW key (aI n (λi=>aj (f i)) g)).length
 cR: ∀ i,i<w.n->w.f i=(aW key (aI n (λi=>aj (f i)) g)).getD i []
 key:key.length<=1000
theorem RB.res {n:Nat}{f g:Nat->List UInt8}{w:Wy}{key:List UInt8}(h:RB n f g w key): ∃ y q,eI w (aj key)=M (y,q)/\aL key key (aI n f g)=if dm y q=C then [(key,fe y q)] else []:=by
 have hr:=gS h.oM;have h1:w.n=1+(iB 13 (aI n (λi=>aj (f i)) g) (aj key)).length:=by rw[h.len];unfold aW;simp;omega
 have h0:w.f 0=ctext 13 (aI n (λi=>aj (f i)) g):=h.cR 0 (by omega);obtain⟨y,q,e1,e2⟩:=E4 (w:=w) (p:=[]) (q:=aj key) (u:=1) (j:=(aj key).length+1) (X 13) hr rfl (λi hi=>⟨by omega,by rw[h.cR (1+i) (by omega)];unfold aW;rw[Nat.add_comm];rfl⟩) (ei _)
 have hl:=G5 13 (aI n (λi=>aj (f i)) g) (aj key);refine⟨y,q,?_,?_⟩
 ·unfold eI c8;have ht:bU (w.on 0) w.root=true:=by
   unfold bU;rw[Q,Q,decide_eq_true_eq,decide_eq_true_eq];refine⟨by show((0:Nat):Int)<(w.n:Int);omega,?_,?_⟩
   ·show aG (w.f 0)=_;rw[h0,h.root];rfl
   ·show aY (w.f 0)=C;rw[h0];exact(lE hr (Z ..)).1
  rw[if_neg (by omega),ht,h0,wB hr,cond_true,e1];dsimp only;rw[if_neg (by omega)]
 ·rw[← y7,← sF];exact e2
def Bj (key:List UInt8)(L:List Rw):Bool:=!(aL key key L).isEmpty
def Bk (key:List UInt8)(L:List Rw):List UInt8:=((aL key key L).headD ([],[])).2
def CN (n:Nat)(f g:Nat->List UInt8)(vs:List SV)(l:List Seen):Option (Prop×cO):=match OI vs l with
 | some (w,key,_)=>M (RB n f g w key,.ret (.aO [.agg [.bool F (Bj key (aI n f g)),.str F (Bk key (aI n f g))],.int .i64 C 0]))
 | none=>J
theorem Rt {n:Nat}{f g:Nat->List UInt8}(h:cJ n f g=0){key t:List UInt8}(ht:t∈ aW key (aI n (λi=>aj (f i)) g)):t.length<=700:=by
 have hr:=gS h;refine(lE hr ?_).2.1;rcases List.mem_cons.1 ht with e | ht
 ·rw[e];exact Z ..
 ·exact ax _ (EZ hr t ht)
theorem YK (n:Nat)(f g:Nat->List UInt8):av O 28 (bS shW (CN n f g)):=G6 XU λvs l q' a' h hq=>by
 unfold CN at h;split at h
 ·rename_i w key kk hx;injection h with h;injection h with h1 h2;subst h1;subst h2;refine⟨w.oN/\key.length<1099511627776,V6 w key,by unfold B5;rw[hx],⟨⟨λi hi=> ?_⟩,?_⟩,λm nx K hk=> ?_⟩
  ·rw[hq.cR i hi];exact ay (Rt hq.oM (tV (by rw[← hq.len];exact hi))) (by decide)
  ·have:=hq.key;omega
  ·obtain⟨y,q,e1,e2⟩:=hq.res;unfold V6;simp only[cO.vc];rw[cH,e1];unfold Bj Bk at hk;rw[e2] at hk;have c:pvB (M (y,q))=dm y q:=rfl;have v:pvV (M (y,q))=fe y q:=rfl;show(K (.aO [.agg [.bool F (pvB (M (y,q))),.str F (pvV (M (y,q)))],.int .i64 C 0]) m nx).holds;rw[c,v];unfold fe at hk ⊢;cases hc:dm y q with
   | true=>rw[hc] at hk;exact hk
   | false=>rw[hc] at hk;exact hk
 ·cases h
noncomputable def T2 (n:Nat)(f g:Nat->List UInt8):List (FuncId×PT):=(11,cw wA)::(12,cF nB)::(13,cF Ay)::(27,cF BW)::(14,bS JJ (mN n f g))::(28,bS shW (CN n f g))::(15,Oz (bS Yd lY))::fY
theorem PG (n:Nat)(f g:Nat->List UInt8):bt O (λk=>aD k (T2 n f g)):=.cons M3 (b6 _) (.cons TC (cc _) (.cons yR (cc _) (.cons Ql (cc _) (.cons (yC n f g) (cz _ _) (.cons (YK n f g) (cz _ _) (.cons (J5 QC) (CA (cz _ _)) cZ))))))
noncomputable def Si (n:Nat)(f g:Nat->List UInt8):fQ:={cv with cQ:=λk=>aD k (T2 n f g)}
theorem aan (n:Nat)(f g:Nat->List UInt8):Sx.Good O (Si n f g):=.of bX (PG n f g) bw
theorem Ro (n:Nat)(f g:Nat->List UInt8)(z:Bool)(o c:Nat)(kk:Option Nat)(key:List UInt8):dA (.s 1 (.n (.n .k (.n .k (.s 0 .k))) (.n .k (.n (.s 2 (.n .k (.n .k (.n .k (.s 0 (.n .k (.n .k (.n .k (.s 1 (.n .k (.n .k (.s 0 (.n .k (.n .k (.n .k (.s 1 (.n (.n (.s 1 (.n (.s 2 (.c C 3 .t)) (.c C 2 .t))) (.c C 1 .t)) (.c C 0 .t)))))))))))))))))) .t)))) (iG (Si n f g) 8 dG [.bH 0 2 z o 0 n c,.str F key] [gZ z o c n f g kk] (.ret (.bool F C))) ((True/\∃(u14:HoG),u14.n<9223372036854775808/\(z=u14.z/\o=u14.o/\n=u14.n/\c=u14.c)/\aa (SB.view z o n [ak.str f,ak.str g]) (SB.view u14.z u14.o u14.n [ak.str u14.f,ak.str u14.g])/\(Bb u14.n u14.f u14.g=C->∀(u13:tM),qo (m5 u14.n u14.f u14.g).length (iM u14.n u14.f u14.g) (aG (iM u14.n u14.f u14.g 0)) u13->(I (50<(key.length:Int))=C->af (SV.bool C C) (SV.bool F C))/\(I (50<(key.length:Int))=F->∃(u12:M5),(E7 u12/\u12.root=cj u12.n u12.f u12.g/\sy u12.fr u12.to=C)/\aG (iM u14.n u14.f u14.g 0)=u12.root/\key=u12.fr/\key=u12.to/\2000=u12.room/\aa (SB.fmap (cG u13.Fr) (aC.ref 4 u13.g) J) (SB.fmap (cG u12.y.Fr) (aC.ref 2 u12.y.g) J)/\aa (SB.dV u13.A.D [ak.str u13.A.cR] 4 133 F) (SB.dV u12.y.A.D [ak.str u12.y.A.cR] 4 133 C)/\∀(u11:Nat),u12.ns.length<=u11->∃(u10:Wp),Zy u10/\aG (iM u14.n u14.f u14.g 0)=u10.root/\key=u10.key/\u12.room=u10.room/\aa (SB.fmap (cG u12.y.Fr) (aC.ref 4 u12.y.g) J) (SB.fmap (cG u10.y.Fr) (aC.ref 2 u10.y.g) J) /\aa (SB.dV u13.A.D [ak.str u13.A.cR] 4 133 F) (SB.dV u10.y.A.D [ak.str u10.y.A.cR] 4 133 C)/\∀(u9:Nat),(aW u10.key u10.rows).length<=u9->((True/\(True/\True/\True)/\(C=C/\0+u12.ns.length<=u12.ns.length)/\True)/\CS n f g (aG (iM u14.n u14.f u14.g 0)) {fr:=key,to:=key,n:=u12.ns.length,f:=fun(u8:Nat)=>u12.ns.getD u8 [],z:=C,o:=(0:Nat),c:=u11,ad:=fun(_u7:List UInt8)=>F,ag:=fun(_u6:List UInt8)=>(0:Int):Sp})/\∀(u5:Nat),(aL key key (aI n f g)).length<=u5->((True/\True/\(C=C/\0+(aW u10.key u10.rows).length<=(aW u10.key u10.rows).length)/\True)/\RB n f g {root:=aG (iM u14.n u14.f u14.g 0),n:=(aW u10.key u10.rows).length,f:=fun(u4:Nat)=>(aW u10.key u10.rows).getD u4 [],z:=C,o:=(0:Nat),c:=u9,u:=(0:Nat):Wy} key)/\(Bj key (aI n f g)=C->(I ((↑(aL key key (aI n f g)).length:Int)=1)=C->((0:Int)<=(0:Int)/\0<(↑(aL key key (aI n f g)).length:Int))/\0<(aL key key (aI n f g)).length /\(I (((aL key key (aI n f g)).getD 0 ([],[])).1=key)=C->((0:Int)<=(0:Int)/\0<(↑(aL key key (aI n f g)).length:Int))/\0<(aL key key (aI n f g)).length/\(I (((aL key key (aI n f g)).getD 0 ([],[])).2=Bk key (aI n f g))=C->(I (1<=min (u12.ns.length:Int) (↑(aW u10.key u10.rows).length:Int))=C->0<u12.ns.length/\((0:Int)<=(0:Int)/\0<=min (u12.ns.length:Int) (↑(aW u10.key u10.rows).length:Int)/\min (u12.ns.length:Int) (↑(aW u10.key u10.rows).length:Int)<=(u11:Int))/\0<(aW u10.key u10.rows).length/\((0:Int)<=(0:Int)/\0<=min (u12.ns.length:Int) (↑(aW u10.key u10.rows).length:Int)/\min (u12.ns.length:Int) (↑(aW u10.key u10.rows).length:Int)<=(u9:Int))/\(((0<u12.ns.length/\jw J 0 u11 0+((min (u12.ns.length:Int) (↑(aW u10.key u10.rows).length:Int)).toNat - 0)<=u12.ns.length)/\(0<(aW u10.key u10.rows).length/\jw J 0 u9 0+((min (u12.ns.length:Int) (↑(aW u10.key u10.rows).length:Int)).toNat - 0)<=(aW u10.key u10.rows).length)/\True) /\(min (u12.ns.length:Int) (↑(aW u10.key u10.rows).length:Int)).toNat - 0<(9223372036854775808:Nat))/\(e8 ((min (u12.ns.length:Int) (↑(aW u10.key u10.rows).length:Int)).toNat - 0) (fun(u3:Nat)=>u12.ns.getD (u3+jw J 0 u11 0) []) ((min (u12.ns.length:Int) (↑(aW u10.key u10.rows).length:Int)).toNat - 0) fun(u2:Nat)=>(aW u10.key u10.rows).getD (u2+jw J 0 u9 0) [])=C/\af (SV.bool C C) (SV.bool F C))/\(I (1<=min (u12.ns.length:Int) (↑(aW u10.key u10.rows).length:Int))=F->af (SV.bool C F) (SV.bool F C)))/\(I (((aL key key (aI n f g)).getD 0 ([],[])).2=Bk key (aI n f g))=F->af (SV.bool C F) (SV.bool F C)))/\(I (((aL key key (aI n f g)).getD 0 ([],[])).1=key)=F->af (SV.bool C F) (SV.bool F C)))/\(I ((↑(aL key key (aI n f g)).length:Int)=1)=F->af (SV.bool C F) (SV.bool F C)))/\(Bj key (aI n f g)=F->(I ((↑(aL key key (aI n f g)).length:Int)=0)=C ->(I (1<=min (u12.ns.length:Int) (↑(aW u10.key u10.rows).length:Int))=C->0<u12.ns.length/\((0:Int)<=(0:Int)/\0<=min (u12.ns.length:Int) (↑(aW u10.key u10.rows).length:Int)/\min (u12.ns.length:Int) (↑(aW u10.key u10.rows).length:Int)<=(u11:Int))/\0<(aW u10.key u10.rows).length/\((0:Int)<=(0:Int)/\0<=min (u12.ns.length:Int) (↑(aW u10.key u10.rows).length:Int)/\min (u12.ns.length:Int) (↑(aW u10.key u10.rows).length:Int)<=(u9:Int))/\(((0<u12.ns.length/\jw J 0 u11 0+((min (u12.ns.length:Int) (↑(aW u10.key u10.rows).length:Int)).toNat - 0)<=u12.ns.length)/\(0<(aW u10.key u10.rows).length/\jw J 0 u9 0+((min (u12.ns.length:Int) (↑(aW u10.key u10.rows).length:Int)).toNat - 0)<=(aW u10.key u10.rows).length)/\True)/\(min (u12.ns.length:Int) (↑(aW u10.key u10.rows).length:Int)).toNat - 0<(9223372036854775808:Nat)) /\(e8 ((min (u12.ns.length:Int) (↑(aW u10.key u10.rows).length:Int)).toNat - 0) (fun(u1:Nat)=>u12.ns.getD (u1+jw J 0 u11 0) []) ((min (u12.ns.length:Int) (↑(aW u10.key u10.rows).length:Int)).toNat - 0) fun(u0:Nat)=>(aW u10.key u10.rows).getD (u0+jw J 0 u9 0) [])=C/\af (SV.bool C C) (SV.bool F C))/\(I (1<=min (u12.ns.length:Int) (↑(aW u10.key u10.rows).length:Int))=F->af (SV.bool C F) (SV.bool F C)))/\(I ((↑(aL key key (aI n f g)).length:Int)=0)=F->af (SV.bool C F) (SV.bool F C)))))/\(Bb u14.n u14.f u14.g=F->af (SV.bool C C) (SV.bool F C)))):=⟨by kernel_rfl,by kernel_rfl⟩
theorem JQ (n:Nat)(f g:Nat->List UInt8)(hn:n<9223372036854775808)(z:Bool)(o c:Nat)(kk:Option Nat)(key:List UInt8):az (iG (Si n f g) 8 dG [.bH 0 2 z o 0 n c,.str F key] [gZ z o c n f g kk] (.ret (.bool F C))):=by
 refine az.pr (Ro n f g z o c kk key) ?_;simp only[an,X,true_and,and_true];have T:af (SV.bool C C) (SV.bool F C):=λ_=>rfl;refine⟨⟨n,f,g,z,o,c⟩,hn,⟨rfl,rfl,rfl,rfl⟩,aa.refl _,λhB y hy=>⟨λ_=>T,λh50=> ?_⟩,λ_=>T⟩;have h50:=of_decide_eq_false h50;have held:=Ic hB hy;obtain⟨he,h40⟩:=ku held.oM;have hr:=gS held.oM;have hkey:key.length<=1000:=by omega
 have hfull:Full (nN n f g y [] []) (cr 13 (aI n (λi=>aj (f i)) g)):=(GV held.oM held.apart held.st [] []).mono λt ht=>ax _ ht;have eB:qA key key (aI n (λi=>aj (f i)) g)=aW key (aI n (λi=>aj (f i)) g):=WO hr hfull key;have lek:sy key key=true:=by unfold sy;rw[c4];exact .inr (decide_eq_true rfl)
 have hl:0<(aW key (aI n (λi=>aj (f i)) g)).length:=by unfold aW;simp
 have hl':=M9 key (aI n (λi=>aj (f i)) g);refine⟨⟨n,f,g,y,key,key,aG (iM n f g 0),2000⟩,⟨⟨held,hkey,hkey,.inl (pq n f g)⟩,pq n f g,lek⟩,rfl,rfl,rfl,rfl,aa.fmap (λ_=>rfl) (λ_=>rfl),va,λc1 hc1=>⟨⟨n,f,g,y,key,aG (iM n f g 0),2000⟩,⟨held,hkey,pq n f g⟩,rfl,rfl,rfl,aa.fmap (λ_=>rfl) (λ_=>rfl),va,λc2 hc2=>⟨⟨held.oM,held.apart,pq n f g,lek,rfl,λi hi=>rfl,hkey,hkey⟩,λc3 hc3=>⟨⟨held.oM,pq n f g,rfl,λi hi=>rfl,hkey⟩,?_⟩⟩⟩⟩;have ens:M5.ns ⟨n,f,g,y,key,key,aG (iM n f g 0),2000⟩=aW key (aI n (λi=>aj (f i)) g):=eB;have erw:Wp.rows ⟨n,f,g,y,key,aG (iM n f g 0),2000⟩=aI n (λi=>aj (f i)) g:=rfl;have own:RB n f g ⟨aG (iM n f g 0),(aW key (aI n (λi=>aj (f i)) g)).length,λi=>(aW key (aI n (λi=>aj (f i)) g)).getD i [],C,0,0,0⟩ key:=⟨held.oM,pq n f g,rfl,λi hi=>rfl,hkey⟩
 obtain⟨yy,q,_,e2⟩:=own.res;rw[ens] at hc1 ⊢;rw[erw] at hc2 ⊢;dsimp only at hc1 hc2 hc3 ⊢;generalize aW key (aI n (λi=>aj (f i)) g)=N at hl hl' hc1 hc2 ⊢;unfold Bj Bk;rw[e2];have em:min (N.length:Int) (N.length:Int)=(N.length:Int):=Int.min_self _;simp only[em];have o1: ∀ c,jw J 0 c 0=0:=λ_=>rfl;have hs:e8 ((N.length:Int).toNat - 0) (λi=>N.getD (i+jw J 0 c1 0) []) ((N.length:Int).toNat - 0) (λi=>N.getD (i+jw J 0 c2 0) [])=true:=EK.2 ⟨rfl,λi _=>rfl⟩;have no: ∀ {A:Prop},I (1<=(N.length:Int))=F->A:=λh=>absurd (of_decide_eq_false h) (by omega);cases dm yy q with
 | true =>
   simp only[if_true];refine⟨λ_=>⟨λ_=>⟨⟨by decide,by show(0:Int)<1;decide⟩,by show 0<1;decide,λ_=>⟨⟨by decide,by show(0:Int)<1;decide⟩,by show 0<1;decide,λ_=>⟨λ_=>⟨hl,⟨by decide,by omega,by omega⟩,hl,⟨by decide,by omega,by omega⟩,⟨⟨⟨hl,?_⟩,⟨hl,?_⟩⟩,by omega⟩,hs,T⟩,λh=>no h⟩,λh=> ?_⟩,λh=> ?_⟩,λh=> ?_⟩,λh=> ?_⟩
   all_goals first | (rw[o1];omega) | exact absurd rfl (of_decide_eq_false h) | (cases h;done)
 | false =>
   simp only[Bool.false_eq_true,if_false];refine⟨λh=> ?_,λ_=>⟨λ_=>⟨λ_=>⟨hl,⟨by decide,by omega,by omega⟩,hl,⟨by decide,by omega,by omega⟩,⟨⟨⟨hl,?_⟩,⟨hl,?_⟩⟩,by omega⟩,hs,T⟩,λh=>no h⟩,λh=> ?_⟩⟩
   all_goals first | (rw[o1];omega) | exact absurd rfl (of_decide_eq_false h) | (cases h;done)
end Go.Proofs.YtoibaecagklkaaaGreatDoor
namespace Go.Proofs.YtoibaecagklkaaaGreatDoor.Sx
open Go Go.RowKit Go.WideShapes Go.ChangeShapes
theorem AM {P:Program}{W:World}{H:Type}{enc:TypeId×Value->H}{e:TypeId}{fs:Array Field}{xs:List Value}{y:DataW H×List MemPlace}{m:Nat}(he:P.underlying e=M (.struct fs))
  (h:DataW.trod enc P W 0 (λ_=>C) C m e xs=M y) {i:Nat} {f:Field} (hf:fs[i]?=M f) (h1:P.cellsOf f.type=1) {x:Value} (hx:xs[f.offset]?=M x) :
  ∃ m' y',DataW.trod enc P W 0 (λ_=>C) C m' f.type [x]=M y':=by
 obtain⟨ys,m',rfl,_,_,hyl,hfield⟩:=DataW.trod_struct he h;have:=hfield i f hf;rw[h1] at this;have hd:(xs.drop f.offset).take 1=[x]:=by rw[List.take_one,List.head?_drop,hx];rfl
 rw[hd,cl (by rw[hyl];exact(Array.getElem?_eq_some_iff.1 hf).1)] at this;exact⟨m',_,this⟩
def Stood (W:World)(b:Nat)(B:SB):Prop:=B.no=F->∃ ob,W.heap[b]?=M ob/\∀ E,bF E B ob
end Go.Proofs.YtoibaecagklkaaaGreatDoor.Sx
