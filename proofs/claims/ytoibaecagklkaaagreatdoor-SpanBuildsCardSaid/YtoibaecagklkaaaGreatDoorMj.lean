/- A part of the proof. -/
import Derived.Test.YtoibaecagklkaaaGreatDoorMi
import Derived.Shelf.Strings.OnBuilder
open And renaming intro->an
open Array renaming getElem?_eq_some_iff->c6
open Bool renaming and_eq_false_iff->eu,and_eq_true->ey,eq_iff_iff->bl,false->J,false_and->ct,false_eq_true->Y,not_eq_false'->ez,not_eq_true'->eA,true->L,true_and->cx,true_eq_false->Z
open Decidable renaming decide->O
open Go.IntKind renaming i64->cy,u64->a_,u8->eB
open Go.Proofs.Tryz renaming f115->eI,f124->c7,f165->c8,f166->c_,f198->eK,f69->c!,f71->eL,func116->eN,prog->N
open Int renaming le_refl->bn,not_le->cB,not_lt->b_,pow_succ->cL,toNat->X,toNat_natCast->c4
open List renaming concat_eq_append->d_,cons_append->eP,drop_left->c5,drop_succ_cons->d!,eq_nil_or_concat->ec,getD_eq_getElem?_getD->ef,getElem?_append_left->eR,getElem?_eq_getElem->eT,getElem?_map->ei,intercalate->eW,length->V,length_append->e5,length_cons->ej,length_drop->ek,length_eq_zero_iff->b!,length_map->e6,length_nil->en,length_pos_iff->a!,map_map->e7,nil->bf,nil_append->ep,range->e_,take->W,take_left->er
open Option renaming none->S,some->M
open UInt8 renaming ofNat->ag
namespace Go.Proofs.YtoibaecagklkaaaGreatDoor
open Go Sx
set_option maxRecDepth 20000
theorem HL {s:h_}(h:ah s 0<192):lead s=ah s 0-128:=o_ h
theorem HK {s:h_}(h: ¬ ah s 0<192):lead s=ah s 0-192:=p_ h
theorem jL {s:h_}:c9 s=L↔s≠[]/\(ah s 0<128∨(¬ ah s 0<128/\55<lead s/\zu s (lead s-54)=L/\part s (lead s-54)<=s.length-(lead s-54))∨(¬ ah s 0<128/\¬ 55<lead s/\lead s<=s.length-1/\¬ (ah s 0<192/\lead s=1/\ah s 1<128))):=by
 unfold c9 nh cutFrom;by_cases hA:ah s 0<128
 ·simp[hA]
 ·by_cases hL:55<lead s
  ·have:lead s≠1:=by omega
   simp[hA,hL,this]
  ·simp[hA,hL];intro _ _;omega
theorem abo {a a':Bool}{b b' c c':h_}{l1 l2 l3 l4 l5 l6:Bool}(h1:a=a')(h2:b=b')(h3:c=c'):ai (.dr [.bool l1 a,.str l2 b,.str l3 c,.cj]) (.dr [.bool l4 a',.str l5 b',.str l6 c',.cj]):=by subst h1;subst h2;subst h3;exact λ_=>rfl
theorem vF {s:h_}(h:ah s 0<128):e9 s=J/\af s=s.take 1/\aH s=s.drop 1:=by refine⟨by simp[e9];omega,?_,?_⟩<;>simp[af,aH,cutFrom,nh,h]
theorem Az {s:h_}(h: ¬ ah s 0<128)(h2: ¬ 55<lead s):af s=(s.drop (1:Int).toNat).take (lead s).toNat/\aH s=s.drop (1+lead s).toNat:=by constructor<;>simp[af,aH,cutFrom,nh,h,h2]
theorem vY {s:h_}(h: ¬ ah s 0<128)(h2:55<lead s):af s=(s.drop (lead s-54).toNat).take (part s (lead s-54)).toNat/\aH s=s.drop (lead s-54+part s (lead s-54)).toNat:=by constructor<;>simp[af,aH,cutFrom,nh,h,h2]
theorem ajL {s:h_}(hs:s.length<9223372036854775808):au (jd amQ 198 eK [.str J s] (ayh s)):=by
 refine au.j7 (aBK s) (by delta Fk Bk I6 Ix Er NI fu dQ gO aM bx bB eC bF bq M4 ak5 kI rK Fy aj bH Uc aC az cU bE aA fR KV Bz zG Dc rM BA PW FA uk nT Iz BO II Dx uv gJ dU aq7 aaO IT vl Mw kM arC Qp cc gb eY cJ oo ja iJ tj m5;exact rfl) ?_;have g0:=e8 s 0;have g1:=e8 s 1;have g2:=AW s (lead s-54);by_cases h0:s=[]
 ·have hB:c9 s=false:=by rw[Bool.eq_false_iff,ne_eq,jL];simp[h0]
  simp only[h0,decide_true,forall_const,Z,false_imp_iff,and_true];rw[h0] at hB;simp only[hB,Y,false_imp_iff,forall_const,true_and]
  (first | exact⟨_,aa.cells (λ_=>rfl) rfl,λ_=>rfl⟩ | exact λ_=>rfl | trivial)
 have hl:0<s.length:=a!.2 h0;by_cases hA:ah s 0<128
 ·have hB:c9 s=true:=jL.2 ⟨h0,.inl hA⟩;obtain⟨k1,k2,k3⟩:=vF hA;simp only[h0,hA,hB,decide_true,decide_false,forall_const,Z,Y,false_imp_iff,and_true,true_and,bT];refine⟨by omega,by omega,by omega,?_⟩;exact abo k1.symm (by rw[k2];rfl) (by rw[k3];rfl)
 ·have e2:1+lead s-55=lead s-54:=by omega
  by_cases hC:ah s 0<192
  ·have e3:e9 s=false:=by simp[e9];omega
   have e1:(ah s 0-128)%256=lead s:=by rw[HL hC];omega
   have e4:=HL hC;by_cases hL:55<lead s
   ·obtain⟨k1,k2⟩:=vY hA hL;have hB:c9 s=(zu s (lead s-54)&&O (part s (lead s-54)<=s.length-(lead s-54))):=by rw[bl,jL];simp[h0,hA,hL]
    simp only[h0,hA,hC,hL,hB,e1,e2,decide_true,decide_false,forall_const,Z,Y,false_imp_iff,and_true,true_and,bT];cases hb:zu s (lead s-54)with
    | false=>simp only[ct,Y,false_imp_iff,forall_const,true_and];(repeat' first | apply an | intro (_:_=L) | intro (_:_=J) | intro (_:Int))<;>first | omega | (first | exact⟨_,aa.cells (λ_=>rfl) rfl,λ_=>rfl⟩ | exact λ_=>rfl | trivial)
    | true =>
      have hb':=n6.1 hb;have hn: ¬ part s (lead s-54)=1:=by omega
      simp only[hn,decide_false,cx,Z,Y,false_imp_iff,forall_const,true_and,and_true]
      (repeat' first | apply an | intro (_:_=L) | intro (_:_=J) | intro (_:Int))
      all_goals simp only[m_,n_,b_,cB] at *
      all_goals first
       | omega
       | (refine abo ?_ ?_ ?_
          ·simp[e3]
          ·rw[k1,show(lead s-54+part s (lead s-54)).toNat-(lead s-54).toNat=(part s (lead s-54)).toNat by omega]
          ·rw[k2])
       | (first | exact⟨_,aa.cells (λ_=>rfl) rfl,λ_=>rfl⟩ | exact λ_=>rfl | trivial)
   ·obtain⟨k1,k2⟩:=Az hA hL;have hB:c9 s=(O (lead s<=s.length-1)&& !(O (ah s 0<192)&&O (lead s=1)&&O (ah s 1<128))):=by
     rw[bl,jL];simp[h0,hA,hL,hC]
     try (intro _;omega)
    simp only[h0,hA,hC,hL,hB,e1,e2,decide_true,decide_false,forall_const,Z,Y,false_imp_iff,and_true,true_and,bT]
    (repeat' first | apply an | intro (_:_=L) | intro (_:_=J) | intro (_:Int))
    all_goals simp only[m_,n_,b_,cB,ey,eu,eA,ez,cx,ct] at *
    all_goals first
     | omega
     | (refine abo ?_ ?_ ?_
        ·simp[e3]
        ·rw[k1,show(1+lead s).toNat-(1:Int).toNat=(lead s).toNat by omega]
        ·rw[k2])
     | (first | exact⟨_,aa.cells (λ_=>rfl) rfl,λ_=>rfl⟩ | exact λ_=>rfl | trivial)
  ·have e3:e9 s=true:=by simp[e9];omega
   have e1:(ah s 0-192)%256=lead s:=by rw[HK hC];omega
   have e4:=HK hC;by_cases hL:55<lead s
   ·obtain⟨k1,k2⟩:=vY hA hL;have hB:c9 s=(zu s (lead s-54)&&O (part s (lead s-54)<=s.length-(lead s-54))):=by rw[bl,jL];simp[h0,hA,hL]
    simp only[h0,hA,hC,hL,hB,e1,e2,decide_true,decide_false,forall_const,Z,Y,false_imp_iff,and_true,true_and,bT];cases hb:zu s (lead s-54)with
    | false=>simp only[ct,Y,false_imp_iff,forall_const,true_and];(repeat' first | apply an | intro (_:_=L) | intro (_:_=J) | intro (_:Int))<;>first | omega | (first | exact⟨_,aa.cells (λ_=>rfl) rfl,λ_=>rfl⟩ | exact λ_=>rfl | trivial)
    | true =>
      have hb':=n6.1 hb;have hn: ¬ part s (lead s-54)=1:=by omega
      simp only[cx,Z,false_imp_iff,forall_const,and_true]
      (repeat' first | apply an | intro (_:_=L) | intro (_:_=J) | intro (_:Int))
      all_goals simp only[m_,n_,b_,cB] at *
      all_goals first
       | omega
       | (refine abo ?_ ?_ ?_
          ·simp[e3]
          ·rw[k1,show(lead s-54+part s (lead s-54)).toNat-(lead s-54).toNat=(part s (lead s-54)).toNat by omega]
          ·rw[k2])
       | (first | exact⟨_,aa.cells (λ_=>rfl) rfl,λ_=>rfl⟩ | exact λ_=>rfl | trivial)
   ·obtain⟨k1,k2⟩:=Az hA hL;have hB:c9 s=(O (lead s<=s.length-1)&& !(O (ah s 0<192)&&O (lead s=1)&&O (ah s 1<128))):=by
     rw[bl,jL];simp[h0,hA,hL,hC]
     try (intro _;omega)
    simp only[h0,hA,hC,hL,hB,e1,e2,decide_true,decide_false,forall_const,Y,false_imp_iff,true_and,bT]
    (repeat' first | apply an | intro (_:_=L) | intro (_:_=J) | intro (_:Int))
    all_goals simp only[m_,n_,b_,cB,ey,eu,cx,ct,Bool.not_false,Z,or_false] at *
    all_goals first
     | omega
     | (refine abo ?_ ?_ ?_
        ·simp[e3]
        ·rw[k1,show(1+lead s).toNat-(1:Int).toNat=(lead s).toNat by omega]
        ·rw[k2])
     | (first | exact⟨_,aa.cells (λ_=>rfl) rfl,λ_=>rfl⟩ | exact λ_=>rfl | trivial)
def big:Nat:=1152921504606846976
def Vo:List SV->Option (Prop×fC)
 | [.str J s]=>M (s.length<9223372036854775808,ayh s)
 | _=>S
noncomputable def aw4:PT:=bZ Vo
theorem anU:aq N 198 aw4:=by
 refine ee (n:=20) Tryz.func198 (by kernel_rfl) (by kernel_rfl) ?_;intro args p a h hp;unfold Vo at h;split at h
 ·rename_i s;cases h;refine⟨_,aw9,rfl,λb=> ?_,ajL hp⟩;cases b
  ·exact Sm rfl
  ·exact rfl
 ·cases h
def di (base:Int)(n:Nat):h_:=if n<=55 then [ag (base+n).toNat] else ag (base+55+(digits n).length).toNat::digits n
def aS (b:h_):h_:=if b.length=1/\ah b 0<128 then b else di 128 b.length++b
theorem Nk (k:Nat)(n:Int):(GX k n).length<=k:=by
 induction k generalizing n with
 | zero=>simp[GX]
 | succ k ih =>
   unfold GX;split
   ·have:=ih (n/256);simp only[e5,ej,en];omega
   ·simp
theorem qo (n:Int):(digits n).length<=8:=Nk 8 n
theorem ads {base n:Int}(h0:0<=base)(h1:base<=192)(h2:0<=n)(h3:n<1152921504606846976):au (eS amQ 115 eI [.int .u8 J base,.int .i64 J n] (λv=>ai v (.str J (di base n.toNat)))):=by
 refine au.j7 (aAn base n _) (by delta Fk Ix NI dQ fM gO fq bx aj fQ dM aA i7 yD kJ lU;exact rfl) ?_;have e:n%18446744073709551616=n:=by omega
 have e1:((n.toNat:Nat):Int)=n:=by omega
 have hd:=qo n;rw[e];refine⟨λh=>dc ?_,λh=>⟨by omega,by omega,dc ?_⟩⟩
 ·simp only[m_] at h;unfold di;rw[o_ (by omega),e1];congr 3;omega
 ·simp only[n_] at h;unfold di;rw[p_ (by omega),e1];simp only[cat,eP,ep];congr 3;omega
def Oz:List SV->Option (Prop×SV)
 | [.int .u8 J base,.int .i64 J n]=>M ((0<=base/\base<=192)/\0<=n/\n<1152921504606846976,.str J (di base n.toNat))
 | _=>S
noncomputable def aoz:PT:=aI Oz
theorem agx:aq N 115 aoz:=by
 refine iH aw9 (n:=20) Tryz.func115 (by kernel_rfl) (by kernel_rfl) ?_;intro args p r h hp;unfold Oz at h;split at h
 ·cases h;exact⟨rfl,rfl,ads hp.1.1 hp.1.2 hp.2.1 hp.2.2⟩
 ·cases h
noncomputable def aoZ:List (FuncId×PT):=(198,aw4)::(115,aoz)::aoY
theorem Y3:aR N (λf=>av f aoZ):=.cons anU (bK _) (.cons agx (aE _) Y2)
noncomputable def amR:iG:={bQ with cO:=λf=>av f aoZ}
theorem axa:Sx.Good N amR:=.of bI Y3 aO
def Q3 (s:h_):fC:=.fork (c9 s) λb=>match b with
 | true=>.ret (.dr [.bool J (e9 s),.str J (af s),.str J (aH s),.int .i64 L 0])
 | false=>.ret (.dr [.bool L J,.str L [],.str L [],.int .i64 L 2])
section
variable (n : Nat) (s : h_) (a b : Int) (p q r : Prop) (v w y z : SV) (x : Bool) (f : List SV) (g : SV-> Prop)
abbrev fz:List SV:=v::w::y::z::f
abbrev Qi:=SV.dr (fz fR fu fu (bq 2) bf)
abbrev dy:=n<9223372036854775808
abbrev bP:=Bk x (ai v w) (ai y z)
abbrev cW:=dy (V s)
abbrev aY:=p/\Bk x q r
abbrev aD:=(p/\q)/\r
abbrev GC:=Ix a 1152921504606846976
abbrev pR:=di a (X b)
abbrev aqZ:=aj (aD ((0:Int)<=128) ((128:Int)<=192) (GC (bB s))) (fQ (bx (pR 128 (bB s))+bB s)) (g (kJ (pR 128 (bB s)) s))
end
theorem aAI (b:h_)(R:SV->Prop):VC.holds (eS amR 69 c! [.str J b] R)=(bE (bB b) 1 (vl b/\aM (rM b) 128 (R (aA b)) (aqZ b R)) (aqZ b R)):=by kernel_rfl
theorem awF (s:h_):VC.holds (jd amR 166 c_ [.str J s] (Q3 s))=((fun(a:SV)=>aY (cW s) (Bk (c9 s) (ai a a) (ai a Qi)) (∀(_:Int),bP Qi a Qi Qi (c9 s)) (c9 s)) (m5 (gb (e9 s)) (aA (af s)) (aA (aH s)) qd)):=by kernel_rfl
theorem aoA (base:Int)(n:Nat):(di base n).length<=9:=by unfold di;have:=qo n;split<;>simp only[ej,en]<;>omega
theorem tD {b:h_}(h: ¬ (b.length=1/\ah b 0<128)):aS b=di 128 b.length++b:=p_ h
theorem afn {b:h_}(hb:b.length<1152921504606846976):au (eS amR 69 c! [.str J b] (λv=>ai v (.str J (aS b)))):=by
 refine au.j7 (aAI b _) (by delta Fk Ix NI aM bx bB aj fQ bE aA kJ rM vl aD GC pR aqZ;exact rfl) ?_;have hl:=aoA 128 b.length;simp only[c4];refine⟨λh=>⟨by simp at h;omega,λh2=>dc ?_,λh2=>⟨by omega,by omega,dc ?_⟩⟩,λh=>⟨by omega,by omega,dc ?_⟩⟩
 ·simp at h h2;exact(o_ ⟨by omega,h2⟩).symm
 ·simp only[n_] at h2;exact(tD λx=>h2 x.2).symm
 ·simp only[n_] at h;exact(tD λx=>h (by omega)).symm
def Ae:List SV->Option (Prop×SV)
 | [.str J b]=>M (b.length<1152921504606846976,.str J (aS b))
 | _=>S
noncomputable def asF:PT:=aI Ae
theorem aja:aq N 69 asF:=by
 refine iH axa (n:=20) (fn:=c!) Tryz.func69 (by kernel_rfl) (by kernel_rfl) ?_;intro args p r h hp;unfold Ae at h;split at h
 ·cases h;exact⟨rfl,rfl,afn hp⟩
 ·cases h
theorem abB {s:h_}(hs:s.length<9223372036854775808):au (jd amR 166 c_ [.str J s] (Q3 s)):=by
 refine au.j7 (awF s) (by delta Bk fu bq qd cU aA fR gb m5 fz Qi dy bP cW aY;exact rfl) ?_;cases c9 s with
 | true=>exact⟨hs,λ_=>⟨λ_ _=>rfl,(λh=>by cases h)⟩,λh=>by cases h⟩
 | false=>exact⟨hs,(λh=>by cases h),λ_ _=>⟨(λh=>by cases h),λ_ _=>rfl⟩⟩
def vU:List SV->Option (Prop×fC)
 | [.str J s]=>M (s.length<9223372036854775808,Q3 s)
 | _=>S
noncomputable def ai8:PT:=bZ vU
theorem abC:aq N 166 ai8:=by
 refine ee (n:=20) Tryz.func166 (by kernel_rfl) (by kernel_rfl) ?_;intro args p a h hp;unfold vU at h;split at h
 ·rename_i s;cases h;refine⟨_,axa,rfl,λb=> ?_,abB hp⟩;cases b<;>exact rfl
 ·cases h
noncomputable def ao0:List (FuncId×PT):=(69,asF)::(166,ai8)::aoZ
theorem Y4:aR N (λf=>av f ao0):=.cons aja (aE _) (.cons abC (bK _) Y3)
def zj (s:h_):Bool:=c9 s&& !e9 s&&O (aH s=[])&&O ((af s).length<=8)&& !(O (af s≠[])&&O (ah (af s) 0=0))
def ayo (s:h_):fC:=.fork (zj s) λb=>match b with
 | true=>.ret (.dr [.int .u64 J (num (af s)),.int .i64 L 0])
 | false=>.ret (.dr [.int .u64 L 0,.int .i64 L 2])
noncomputable def axX (l:h_):aN :={α:=Int,pre:=λ_ i=>0<=i/\i<=l.length,nF:=λ_ i=>(l.length-i).toNat,fresh:=0,slots:=λ_ i=>[(8,.int .u64 J (num (l.take i.toNat))),(42,.int .i64 J i)],mem:=λ_ _=>[]}
noncomputable def aun (l:h_):iG:={bQ with cO:=λf=>av f ao0,bU:=λf=>if f=124 then [(10,always (axX l))] else []}
theorem axc (l:h_):Sx.Good N (aun l):=.of bI Y4 aO
section
variable (n : Nat) (s : h_) (a : Int) (p q : Prop) (v w y : SV) (x : Bool)
abbrev dA:=V s<1152921504606846976
abbrev DE:=V (af s)
abbrev LS:=NI (DE s)
abbrev ahY:=i7 (num (W (X a) (af s))*256)
abbrev cw:=Ix a (NI n)
abbrev A5:=a<=18446744073709551615
abbrev rI:=NI n-a
abbrev fU:=cU v qd
abbrev jJ:=SV.int a_ J a
abbrev arG:=(∃(a:Int),cM (0<=a) (a<=LS s) (0=num (W (X a) (af s))) (0=a) True)/\(∀(a:Int),0<=a/\a<=LS s->aM a (LS s) (aC (cw (DE s) a) (0<=ah (af s) a/\A5 (ah (af s) a)) (az (0<=ahY s a) (A5 (ahY s a)) (0<=ah (af s) a) (A5 (ah (af s) a))) (dD a) (∃(b:Int),gK (aD (0<=b) (b<=NI (DE s)) (mu (X (rI (DE s) a)) (rI (DE s) b))) (bitsOf BinOp.or (ahY s a) (ah (af s) a)=num (W (X b) (af s))) (bt a b))) (bP (fU (jJ (num (W (X a) (af s))))) v (fU (jJ (num (W (X a) (af s))))) w (zj s)))
abbrev aX:=Bk (not x) p q
abbrev gC:=Bk x (ai v w) (ai y y)
abbrev gE:=aX p q (O (s=[]))
end
theorem aBM (s:h_):VC.holds (jd (aun (af s)) 124 c7 [.str J s] (ayo s))=((fun(a:SV)=>(fun(b:SV)=>aY (cW s) (Bk (e9 s) (gC a b a (zj s)) (gE (aH s) (gC a b a (zj s)) (aM 8 (LS s) (gC a b a (zj s)) (gE (af s) (Ix 0 (LS s)/\bE (ah (af s) 0) 0 (gC a b a (zj s)) (arG s b a)) (arG s b a))))) (gC a b a (zj s)) (c9 s)) (fU (jJ (num (af s))))) (cP (SV.int a_ L 0) (bq 2) bf)):=by kernel_rfl
theorem aBP (n:Int)(R:SV->Prop):VC.holds (eS (aun []) 71 eL [.int .u64 J n] R)=(aj (yD n) (dA (digits n)) (R (aA (aS (digits n))))):=by kernel_rfl
theorem apM (l:h_):0<=num l:=by
 unfold num;suffices ∀(l:h_) (a:Int),0<=a->0<=l.foldl (λa b=>a*256+(b.toNat:Int)) a from this _ _ (bn _)
 intro l;induction l with
 | nil=>exact λ_ h=>h
 | cons b r ih=>intro a h;exact ih _ (show 0<=a*256+(b.toNat:Int)by omega)
theorem ZJ {l:h_}{x:Int}(h:0<=x)(h2:x<l.length):num (l.take (x+1).toNat)=num (l.take x.toNat)*256+ah l x:=by
 have e:(x+1).toNat=x.toNat+1:=by omega
 have hx:x.toNat<l.length:=by omega
 rw[e,List.take_add_one,eT hx];simp only[Option.toList,zC];congr 1;unfold ah;rw[ef,eT hx];rfl
theorem apL: ∀(n:Nat) (l:h_),l.length<=n->num l<256^ n
 | 0,l,h=>by have:l=[]:=b!.1 (by omega);subst this;decide
 | n+1,l,h=>by
   rcases ec l with rfl | ⟨r,b,rfl⟩
   ·have:(0:Int)<256^ (n+1):=Int.pow_pos (by decide);exact this
   ·simp only[List.length_concat] at h;have:=apL n r (by omega);have hb:=b.toNat_lt;rw[d_,zC,cL];omega
theorem ag2 {l:h_}{x:Int}(_h0:0<=x)(h:x<l.length)(h2:l.length<=8):num (l.take x.toNat)<72057594037927936:=by have:=apL 7 (l.take x.toNat) (by simp only[List.length_take];omega);exact this
theorem aol {l:h_}{x:Int}(h0:0<=x)(h:x<l.length)(h2:l.length<=8):bitsOf .or (num (l.take x.toNat)*256%18446744073709551616) (ah l x)=num (l.take (x+1).toNat):=by have h3:=ag2 h0 h h2;have h4:=apM (l.take x.toNat);have h5:=e8 l x;rw[show num (l.take x.toNat)*256%18446744073709551616=num (l.take x.toNat)*256 by omega,apT h4 h5.1 h5.2,ZJ h0 h]
theorem Yz {s:h_}:zj s=L↔c9 s=L/\e9 s=J/\aH s=[]/\(af s).length<=8/\(af s=[]∨ah (af s) 0≠0):=by unfold zj;by_cases h:af s=[]<;>simp[and_assoc,h]
theorem YA {l:h_}(hl:l.length<=8){Q:Int->Prop}(hQ:Q l.length):(∃(y:Int),((0:Int)<=y/\y<=(↑l.length:Int))/\(0:Int)=num (W y.toNat l)/\(0:Int)=y/\True)/\
            ∀(x:Int),
             (0:Int)<=x/\x<=(↑l.length:Int)->
               (O (x<(↑l.length:Int))=L->
                 ((0:Int)<=x/\x<(↑l.length:Int))/\
                  ((0:Int)<=ah l x/\ah l x<=(18446744073709551615:Int))/\
                   ((0:Int)<=num (W x.toNat l)*(256:Int)%(18446744073709551616:Int)/\
                      num (W x.toNat l)*(256:Int)%(18446744073709551616:Int)<=(18446744073709551615:Int)/\
                       (0:Int)<=ah l x/\ah l x<=(18446744073709551615:Int))/\
                    ((-9223372036854775808:Int)<=x+(1:Int)/\x+(1:Int)<=(9223372036854775807:Int))/\
                     ∃(y:Int),
                      (((0:Int)<=y/\y<=(↑l.length:Int))/\((↑l.length:Int)-y).toNat<((↑l.length:Int)-x).toNat)/\
                       bitsOf BinOp.or (num (W x.toNat l)*(256:Int)%(18446744073709551616:Int)) (ah l x)=num (W y.toNat l)/\
                        x+(1:Int)=y/\True)/\
                 (O (x<(↑l.length:Int))=J->Q x):=by
 refine⟨⟨0,by omega,rfl,rfl,trivial⟩,λx ⟨h1,h2⟩=>⟨λh=> ?_,λh=> ?_⟩⟩
 ·simp only[m_] at h;have h5:=e8 l x;exact⟨by omega,by omega,by omega,by omega,x+1,by omega,aol h1 h hl,rfl,trivial⟩
 ·simp only[n_] at h;obtain rfl:x=l.length:=by omega
  exact hQ
theorem ajW {s:h_}(hs:s.length<9223372036854775808):au (jd (aun (af s)) 124 c7 [.str J s] (ayo s)):=by
 refine au.j7 (aBM s) (by delta Fk Bk I6 Ix NI aM bq cP aj qd aC az cU bE dK mu dD cM bt gK i7 dy bP cW aY aD DE LS ahY cw A5 rI fU jJ arG aX gC gE;exact rfl) ?_;have F: ∀ {p q:Prop},¬ (c9 s=L/\e9 s=J/\aH s=[]/\(af s).length<=8/\(af s=[]∨ah (af s) 0≠0))->q->(zj s=L->p)/\(zj s=J->q):=λh hq=>⟨λe=>absurd (Yz.1 e) h,λ_=>hq⟩
 refine⟨hs,λa=>⟨λb=>F (by simp[b]) λ_=>rfl,λb=>⟨λc=>F (by simp at c;simp[c]) λ_=>rfl,λc=>⟨λd=>F (by simp at d;omega) λ_=>rfl,λd=> ?_⟩⟩⟩,λa=>F (by simp[a]) λ_=>rfl⟩;simp only[n_,b_,ez,m_] at c d;have T:(af s=[]∨ah (af s) 0≠0)->zj s=true:=λe=>Yz.2 ⟨a,b,c,by omega,e⟩
 have G: ∀ {p:Prop},(af s=[]∨ah (af s) 0≠0)->(zj s=L->ai (SV.dr [SV.int a_ J (num (W (((af s).length:Int)).toNat (af s))),SV.int cy L (0:Int)])
                      (SV.dr [SV.int a_ J (num (af s)),SV.int cy L (0:Int)]))/\(zj s=J->p):=λe=>⟨λ_=>by rw[c4,List.take_length];exact λ_=>rfl,λh=>by rw[T e] at h;cases h⟩
 refine⟨λe=>⟨?_,λf=>F (by simp at e f;simp[e,f]) λ_=>rfl,λf=> ?_⟩,λe=> ?_⟩
 ·simp only[eA,n_] at e;have:=a!.2 e;omega
 ·exact YA (l:=af s) (by omega) (Q:=λx=>(zj s=L->ai (SV.dr [SV.int a_ J (num (W x.toNat (af s))),SV.int cy L (0:Int)]) _)/\(zj s=J->_)) (G (.inr (by simpa using f)))
 ·exact YA (l:=af s) (by omega) (Q:=λx=>(zj s=L->ai (SV.dr [SV.int a_ J (num (W x.toNat (af s))),SV.int cy L (0:Int)]) _)/\(zj s=J->_)) (G (.inl (by simpa using e)))
def VI:List SV->Option (Prop×fC)
 | [.str J s]=>M (s.length<9223372036854775808,ayo s)
 | _=>S
noncomputable def aw7:PT:=bZ VI
theorem aoj:aq N 124 aw7:=by
 refine ee (n:=20) Tryz.func124 (by kernel_rfl) (by kernel_rfl) ?_;intro args p a h hp;unfold VI at h;split at h
 ·rename_i s;cases h;refine⟨_,axc (af s),rfl,λb=> ?_,ajW hp⟩;cases b<;>exact rfl
 ·cases h
def EE:List SV->Option (Prop×SV)
 | [.int .u64 J n]=>M (0<=n/\n<18446744073709551616,.str J (aS (digits n)))
 | _=>S
noncomputable def axl:PT:=aI EE
theorem apN:aq N 71 axl:=by
 refine iH (axc []) (n:=20) Tryz.func71 (by kernel_rfl) (by kernel_rfl) ?_;intro args p r h hp;unfold EE at h;split at h
 ·rename_i n;cases h;have:=qo n;exact⟨rfl,rfl,(by refine au.j7 (aBP n _) (by delta Ix aj aA yD dA;exact rfl) ?_;exact⟨hp,by omega,λ_=>rfl⟩)⟩
 ·cases h
noncomputable def axh:List (FuncId×PT):=(124,aw7)::(71,axl)::ao0
theorem ao1:aR N (λf=>av f axh):=.cons aoj (bK _) (.cons apN (aE _) Y4)
end Go.Proofs.YtoibaecagklkaaaGreatDoor
namespace Go.Proofs
open Go.Shelf
def Tryz.AM:Go.Shelf.Ren:=⟨λ| 156=>116 | 165=>160 | 166=>161 | 169=>162 | 240=>194 | 241=>195 | 276=>212 | 277=>213 | n=>n,λ| 31=>29 | 9=>9 | 3=>3 | 4=>4 | 0=>0 | 20=>20 | 72=>249 | 76=>251 | 70=>247 | 37=>54 | 75=>84 | 127=>272 | 164=>142 | 5=>5 | 80=>102 | n=>n,λ| n=>n⟩
theorem Tryz.YU:Go.Proofs.Lays.n156 N Tryz.AM:={
 mixed:=by kernel_rfl,
 f156:=eN.trans (congrArg M (by kernel_rfl)),
 f165:=Tryz.func160.trans (congrArg M (by kernel_rfl)),
 f166:=Tryz.func161.trans (congrArg M (by kernel_rfl)),
 f169:=Tryz.func162.trans (congrArg M (by kernel_rfl)),
 f240:=Tryz.func194.trans (congrArg M (by kernel_rfl)),
 f241:=Tryz.func195.trans (congrArg M (by kernel_rfl)),
 f276:=Tryz.func212.trans (congrArg M (by kernel_rfl)),
 f277:=Tryz.func213.trans (congrArg M (by kernel_rfl)),
 t0:=Tryz.underlying0,
 a0:=Tryz.isAgg0,
 z0:=Tryz.sizeOf0,
 v0:=Tryz.zeroValue0,
 t3:=Tryz.underlying3,
 a3:=Tryz.isAgg3,
 z3:=Tryz.sizeOf3,
 v3:=Tryz.zeroValue3,
 t4:=Tryz.underlying4,
 a4:=Tryz.isAgg4,
 z4:=Tryz.sizeOf4,
 v4:=Tryz.zeroValue4,
 t9:=Tryz.underlying9,
 a9:=Tryz.isAgg9,
 z9:=Tryz.sizeOf9,
 v9:=Tryz.zeroValue9,
 t20:=Tryz.underlying20,
 a20:=Tryz.isAgg20,
 z20:=Tryz.sizeOf20,
 v20:=Tryz.zeroValue20,
 t31:=Tryz.underlying29,
 a31:=Tryz.isAgg29,
 z31:=Tryz.sizeOf29,
 v31:=Tryz.zeroValue29,
 t37:=Tryz.underlying54,
 a37:=Tryz.isAgg54,
 z37:=Tryz.sizeOf54,
 v37:=Tryz.zeroValue54,
 t70:=Tryz.underlying247,
 a70:=Tryz.isAgg247,
 z70:=Tryz.sizeOf247,
 v70:=Tryz.zeroValue247,
 t72:=Tryz.underlying249,
 a72:=Tryz.isAgg249,
 z72:=Tryz.sizeOf249,
 v72:=Tryz.zeroValue249,
 t75:=Tryz.underlying84,
 a75:=Tryz.isAgg84,
 z75:=Tryz.sizeOf84,
 v75:=Tryz.zeroValue84,
 t76:=Tryz.underlying251,
 a76:=Tryz.isAgg251,
 z76:=Tryz.sizeOf251,
 v76:=Tryz.zeroValue251,
 t127:=Tryz.underlying272,
 a127:=Tryz.isAgg272,
 z127:=Tryz.sizeOf272,
 v127:=Tryz.zeroValue272,
 t164:=Tryz.underlying142,
 a164:=Tryz.isAgg142,
 z164:=Tryz.sizeOf142,
 v164:=Tryz.zeroValue142}
end Go.Proofs
namespace Go.Proofs
open Go.Shelf Go.RowKit
theorem Tryz.extra:Builder.Extra N Tryz.AM:={
 sizeBuilder:=by kernel_rfl,
 liesBuilder:=by kernel_rfl,
 t5:=by kernel_rfl,
 a5:=by intro w;kernel_rfl,
 z5:=by intro w;kernel_rfl,
 v5:=by intro w;kernel_rfl,
 infoByte:=by kernel_rfl,
 cellsByte:=by kernel_rfl,
 sizeByte:=by kernel_rfl,
 neB5:=by decide}
end Go.Proofs
namespace Go.Proofs.YtoibaecagklkaaaGreatDoor
open Go Sx
set_option maxRecDepth 20000
theorem auS:Tryz.AM.f 156=116:=by kernel_rfl
def flat (l:List h_):h_:=l.flatten
def jw (f:Nat->h_)(i n:Nat):List h_:=(e_ n).map λj=>f (i+j)
theorem abh {f:Nat->h_}{i n j:Nat}{x:h_}(h:(jw f i n)[j]?=M x):j<n/\f (i+j)=x:=by
 unfold jw at h;rw[ei] at h;by_cases hj:j<n
 ·rw[List.getElem?_range hj] at h;injection h with h;exact⟨hj,h⟩
 ·rw[List.getElem?_eq_none (by simpa using hj)] at h;cases h
theorem xq (f:Nat->h_)(i n:Nat):(jw f i n).length=n:=by simp[jw]
def strCells:List SV->Option (List h_)
 | []=>M []
 | .str _ s::r=>(match strCells r with
   | some l=>M (s::l)
   | none=>S)
 | _=>S
theorem Jm {cs:List SV}{l:List h_}(h:strCells cs=M l):l.length=cs.length/\∀(j:Nat) (x:h_),l[j]?=M x->∃ b,cs[j]?=M (.str b x):=by
 induction cs generalizing l with
 | nil=>cases h;exact⟨rfl,λj x hx=>by simp at hx⟩
 | cons v r ih =>
   unfold strCells at h;split at h
   ·cases ‹_::_=[]›
   ·rename_i b s r' e;injection e with e1 e2;subst e1;subst e2;split at h
    ·rename_i l' hl;cases h;obtain⟨g1,g2⟩:=ih hl;refine⟨by simp[g1],λj x hx=> ?_⟩;cases j with
     | zero=>cases hx;exact⟨b,rfl⟩
     | succ j=>exact g2 j x (by simpa using hx)
    ·cases h
   ·cases h
def afh (m:Mem):SV->Option (Prop×List h_)
 | .bW=>M (True,[])
 | .slc key o n _ c=>(match m.get key with
   | some (.cells cs _ _)=>(match strCells ((cs.drop o).take n)with
     | some l=>M (l.length=n/\n<=c,l)
     | none=>S)
   | _=>S)
 | .bY key 1 _ i n c=>(match m.get key with
   | some (.rows _ n' [.str f] _ _ _)=>M (i+n<=n'/\n<=c,jw f i n)
   | _=>S)
 | .cT key 1 _ o i n c=>(match m.get key with
   | some (.view _ o' n' [.str f])=>M (o'=o/\i+n<=n'/\n<=c,jw f i n)
   | _=>S)
 | _=>S
theorem alA {Γ E m nx w}(h:bp Γ E m nx w){v:SV}{p:Prop}{l:List h_}(hv:afh m v=M (p,l))(hp:p) :
  (∃ a c,l=[]/\v.val E=.slice a 0 c)∨(∃ k o c,v.val E=.slice (M ⟨k,o,S⟩) l.length c/\l.length<=c/\k<w.heap.size/\∀(j:Nat) x,l[j]?=M x->w.cell? ⟨k,o+j,S⟩=M (.string ⟨x.toArray⟩)):=by
 unfold afh at hv;split at hv
 ·injection hv with hv;injection hv with h1 h2;subst h2;exact .inl ⟨_,_,rfl,rfl⟩
 ·rename_i key o n cl c;split at hv
  ·rename_i cs tot ty hk;split at hv
   ·rename_i l' hl;cases hv;obtain⟨g1,g2⟩:=Jm hl;obtain⟨ob,ho,ce,fr,rfl,_,h4,_⟩:=h.yZ key _ hk rfl;refine .inr ⟨E key,o,c,by rw[hp.1];rfl,by omega,(c6.1 ho).1,λj x hx=> ?_⟩;obtain⟨b,hb⟩:=g2 j x hx;rw[cell_of ho];have hj:j<n:=by have:=(List.getElem?_eq_some_iff.1 hx).1;omega
    rw[List.getElem?_take_of_lt hj,List.getElem?_drop] at hb;exact h4 _ _ hb
   ·cases hv
  ·cases hv
 ·rename_i key z i n c;split at hv
  ·rename_i z' n' f ro tot ty hk;cases hv;cases n with
   | zero=>exact .inl ⟨_,_,rfl,rfl⟩
   | succ n =>
     obtain⟨ob,ho,ce,fr,rfl,_,_,_,h4⟩:=h.yZ key _ hk (SB.o5 (i:=0) (by omega));refine .inr ⟨E key,i,c,?_,by rw[xq];exact hp.2,(c6.1 ho).1,λj x hx=> ?_⟩
     ·rw[xq];cases z<;>simp[SV.val,show Nat.beq (n+1) 0=J from rfl]
     ·obtain⟨hj,hx⟩:=abh hx;rw[cell_of ho];have:=h4 (i+j) 0 (.str f) (by omega) rfl;simpa [bh.at,SV.val,hx] using this
  ·cases hv
 ·rename_i key z o i n c;split at hv
  ·rename_i z' o' n' f hk;cases hv;cases n with
   | zero=>exact .inl ⟨_,_,rfl,rfl⟩
   | succ n =>
     obtain⟨ob,ho,ce,ty,fr,rfl,h4⟩:=h.yZ key _ hk (SB.NA (i:=0) (by omega));refine .inr ⟨E key,o+i,c,?_,by rw[xq];exact hp.2.2,(c6.1 ho).1,λj x hx=> ?_⟩
     ·rw[xq];cases z<;>simp[SV.val,show Nat.beq (n+1) 0=J from rfl]
     ·obtain⟨hj,hx⟩:=abh hx;rw[cell_of ho];have:=h4 (i+j) 0 (.str f) (by omega) rfl;obtain⟨rfl,_⟩:=hp;simpa [bh.at,SV.val,hx,Nat.add_assoc] using this
  ·cases hv
 ·cases hv
noncomputable def Kf:PT:=λargs m nx K=>match args with
 | [v,.str _ []]=>(match afh m v with
   | some (p,l)=>.and (.atom (p/\l.length<=140737488355328/\(flat l).length<=140737488355328)) (K (.str J (flat l)) m nx)
   | none=>.fail "texts that are not known")
 | _=>.fail "a separator"
theorem LI:bC Kf:=by
 intro args m nx K K' hK h;unfold Kf at h ⊢;split at h
 ·split at h
  ·rename_i p l hl;exact⟨h.1,hK _ _ _ h.2⟩
  ·exact h.elim
 ·exact h.elim
theorem Kg: ∀ l:List h_,Lib.join l []=flat l
 | []=>rfl
 | [x]=>by simp[Lib.join,flat,eW]
 | x::y::r=>by have:=Kg (y::r);simp[Lib.join,flat,eW] at this ⊢;rw[this]
theorem agH:aq N 116 Kf:=by
 intro args m nx K hk hwf hargs Γ E w hs;unfold Kf at hk;split at hk
 ·rename_i v b;split at hk
  ·rename_i p l hl;obtain⟨⟨hp,h1,h2⟩,hk⟩:=hk;have hc:Calls N 116 (SV.vals E [v,.str b []]).toArray w λe w'=>e=.returned (.string ⟨(flat l).toArray⟩)/\RowKit.Below w.heap.size w w':=by
    rw[← auS];rcases alA hs hl hp with ⟨a,c,rfl,hv⟩ | ⟨k,o,c,hv,g1,g2,g3⟩
    ·simp only[SV.vals,hv,SV.val];exact(Any.strings_Join_none Tryz.YU Tryz.extra a c _ w).mono λe w' ⟨he,hw⟩=>⟨he,hw▸ RowKit.Below.refl _ _⟩
    ·simp only[SV.vals,hv,SV.val];have:=Any.strings_Join Tryz.YU Tryz.extra k o c (l.map λx=>⟨x.toArray⟩) ⟨#[]⟩ w (λj x hx=>by
      rw[ei] at hx;cases hj:l[j]? with
      | none=>rw[hj] at hx;cases hx
      | some y=>rw[hj] at hx;cases hx;exact g3 j y hj) g2 (by simpa using h1) (by simpa using g1) (by
      simp only[e7];have:(l.map ((λx:ByteArray=>x.data.toList)∘ λx=>(⟨x.toArray⟩:ByteArray)))=l:=by
       rw[show((λx:ByteArray=>x.data.toList)∘ λx:h_=>(⟨x.toArray⟩:ByteArray))=id from by funext x;simp]
       simp
      rw[this];show(Lib.join l []).length<=_;rw[Kg];exact h2)
     rw[e6] at this;refine this.mono λe w' ⟨he,hw⟩=>⟨?_,hw⟩
     rw[he,e7];have:(l.map ((λx:ByteArray=>x.data.toList)∘ λx=>(⟨x.toArray⟩:ByteArray)))=l:=by
      rw[show((λx:ByteArray=>x.data.toList)∘ λx:h_=>(⟨x.toArray⟩:ByteArray))=id from by funext x;simp]
      simp
     rw[this];rw[← Kg]
   refine mY eN (by kernel_rfl) (by kernel_rfl) (hc.mono ?_);rintro e w' ⟨rfl,hb⟩;exact⟨_,rfl,E,M (.str J (flat l)),m,nx,λ_ _=>rfl,Nat.le_refl _,λx hx=>by cases hx;rfl,hs.still (Ext.apO hb),hk⟩
  ·exact hk.elim
 ·exact hk.elim
end Go.Proofs.YtoibaecagklkaaaGreatDoor
namespace Go.Proofs.YtoibaecagklkaaaGreatDoor
open Go Sx
set_option maxRecDepth 20000
noncomputable def axi:List (FuncId×PT):=(116,Kf)::axh
theorem ao2:aR N (λf=>av f axi):=.cons agH LI ao1
def cu (s:h_):Nat->h_
 | 0=>s
 | k+1=>aH (cu s k)
def CL (s:h_):h_:=s.take (s.length-(aH s).length)
def ax (s:h_)(k:Nat):h_:=CL (cu s k)
def scan:Nat->h_->Nat×Bool
 | 0,s=>(0,O (s=[]))
 | f+1,s=>if s=[] then(0,L)else if c9 s then((scan f (aH s)).1+1,(scan f (aH s)).2)else(0,J)
def ck (s:h_):Nat:=(scan s.length s).1
def ga (s:h_):Bool:=(scan s.length s).2
def OG (s:h_):fC:=.fork (ga s) λb=>match b with
 | true=>.all Nat λc=>.req (ck s<=c) (.new (λk=>.dr [.bY k 1 L 0 (ck s) c,.int .i64 L 0]) (.rows L (ck s) [.str (ax s)] J c 9))
 | false=>.ret (.dr [.bW,.int .i64 L 2])
structure Fe where
 k:Nat
 c:Nat
structure xI (s:h_)(x:Fe):Prop where
 walk: ∀ j,j<x.k->cu s j≠[]/\c9 (cu s j)=L
 cap:x.k<=x.c
noncomputable def amt (s:h_):aN :=
 {α:=Fe,pre:=λ_ x=>xI s x,nF:=λ_ x=>(cu s x.k).length,fresh:=1,slots:=λ_ x=>[(3,.str J (cu s x.k))],
  mem:=λst x=>[(2,.cells [.bY st.nx 1 L 0 x.k x.c] 1 29),(st.nx,.rows L x.k [.str (ax s)] J x.c 9)]}
noncomputable def aye (s:h_):iG:={bQ with cO:=λf=>av f axi,bU:=λf=>if f=214 then [(1,always (amt s))] else []}
theorem aBi (s:h_):Sx.Good N (aye s):=.of bI ao2 aO
section
variable (n m k i : Nat) (s t : h_) (p q r P Q h A : Prop) (v w : SV) (f : Nat-> h_) (B : SB) (g : Bool) (y : TypeId) (x : Fe) (o : Loop) (z : List bh)
abbrev nQ:=Sr (SB.loop LoopState.ready S o)
abbrev Ft:=bx (cu s x.k)-bx (aH (cu s x.k))
abbrev wV:=cu s x.k
abbrev bN:=SB.rows L n z J m y
abbrev bJ:List bh:=bh.str f::z
abbrev cY:=bN n m y (bJ f bf)
abbrev LV:=cY x.k x.c (ax s) 9
abbrev aB:=n+1
abbrev oE:=aB (aB n)
abbrev Fz:=oE (oE 0)
abbrev gW:=SB.cells (SV.cells v) n y
abbrev TH:=gW 1 SV.bW 29
abbrev b8:=0+n<=m
abbrev gZ:=az (b8 n m) True (k<=281474976710656) (dy i)
abbrev FP:=aB x.k
abbrev ahi:=gZ x.k x.k (2*FP x*16) (FP x)
abbrev yH:=cP SV.bW v bf
abbrev Mn:=yH (bq 2)
abbrev arc:=gK (Sr (gW 1 (aA s) 9)) (Sr (gW 1 (bq 0) 30)) (Sr TH)
abbrev DD:=V (wV s x)
abbrev dh:=SV.bY n m L 0 k i
abbrev arT:=fU (dh (aB Fz) 1 x.k x.c)
abbrev cv:=aa (bN n m y z) B
abbrev bA:=Er 0
abbrev aV:=g=L
abbrev br:=n<=m/\p
abbrev fo:=aV (SB.no B)
abbrev cI:=aj p q (aC r P Q h A)
abbrev nG:=aj bA (n=m) p
abbrev dx:=aj p q (ai v w)
abbrev fN:=nG n m (k=i)
abbrev cK:=p/\aC q r P Q h
abbrev eZ:=cv n m B y (bJ f bf)
abbrev dg:h_:=if n<m then s else l9 [t] (k-i)
abbrev gX:=aj p q (Bk g r P)
abbrev kL:=Er 1
end
theorem awr (s:h_):VC.holds (jd (aye s) 165 c8 [.str J s] (OG s))=(∀(a:Loop),(∃(b:Fe),cI (xI s b) (s=wV s b) kL (b.k=0) (fo (LV s b)) (nQ a) (arc s))/\(∀(b:Fe),xI s b->gE (wV s b) (aY (dy (DD s b)) (cK (I6 (Ft s b)) (aj nT (0<=Ft s b) (Ft s b<=NI (DD s b))) (Er a) (ahi b) (b.c=aF b.c) (∀(c:Nat),aJ (FP b) c (∃(d:Fe),cM (xI s d) (DD s d<DD s b) (aH (wV s b)=wV s d) kL (aC (fN (FP b) d.k c d.c) True (eZ (FP b) (aF c) (λa=>dg a b.k a b.k (ax s a) (bT (wV s b) S (cc 37) 0 (Ft s b))) (LV s d) 9) (nQ a) (arc s))))) (∀(_:Int),gX (iJ (bB s) (NI (DD s b))) (Er a) (∃(a:Nat),br (ck s) a False) (ai Mn Mn) (ga s)) (c9 (wV s b))) (Bk (ga s) (∃(a:Nat),dx (ck s<=a) (aa (LV s b) (cY (ck s) a (ax s) 9)) (arT b) (fU (dh (aB Fz) 1 (ck s) a))) (ai (arT b) Mn)))):=by kernel_rfl
theorem HM {s:h_}(h: ¬ ah s 0<128):0<=lead s:=by unfold lead;split<;>omega
theorem J0 {s:h_}(h:c9 s=L):(aH s).length<s.length:=by
 obtain⟨h0,h⟩:=jL.1 h;have hl:=a!.2 h0;by_cases hA:ah s 0<128
 ·rw[(vF hA).2.2,ek];omega
 ·have g:=HM hA;by_cases hL:55<lead s
  ·have:=AW s (lead s-54);rw[(vY hA hL).2,ek];omega
  ·rw[(Az hA hL).2,ek];omega
theorem UG: ∀(f f':Nat) (s:h_),s.length<=f->s.length<=f'->scan f s=scan f' s
 | 0,0,_,_,_=>rfl
 | 0,f'+1,s,h,_=>by have:s=[]:=b!.1 (by omega);subst this;rfl
 | f+1,0,s,_,h=>by have:s=[]:=b!.1 (by omega);subst this;rfl
 | f+1,f'+1,s,h,h'=>by
   simp only[scan];split
   ·rfl
   ·split
    ·rename_i hc;have:=J0 hc;rw[UG f f' (aH s) (by omega) (by omega)]
    ·rfl
theorem oY:ga []=L/\ck []=0:=⟨rfl,rfl⟩
theorem Ke {s:h_}(h0:s≠[])(h:c9 s=L):ga s=ga (aH s)/\ck s=ck (aH s)+1:=by
 have hl:=J0 h;unfold ga ck;obtain⟨n,hn⟩: ∃ n,s.length=n+1:=⟨s.length-1,by omega⟩
 rw[hn];simp only[scan,h0,h,if_true,if_false];rw[UG n (aH s).length (aH s) (by omega) (by omega)];exact⟨rfl,rfl⟩
theorem Kc {s:h_}(h0:s≠[])(h:c9 s=J):ga s=false:=by
 have hl:=a!.2 h0;unfold ga;obtain⟨n,hn⟩: ∃ n,s.length=n+1:=⟨s.length-1,by omega⟩
 rw[hn];simp[scan,h0,h]
theorem uB (s:h_): ∀ k,cu s (k+1)=cu (aH s) k
 | 0=>by simp only[cu]
 | k+1=>by rw[cu,uB s k];simp only[cu]
def Walk (s:h_)(k:Nat):Prop:=∀ j,j<k->cu s j≠[]/\c9 (cu s j)=L
theorem Walk.len {s:h_}: ∀ {k:Nat},Walk s k->(cu s k).length+k<=s.length
 | 0,_=>by simp[cu]
 | k+1,h=>by have h1:=Walk.len (k:=k) (λj hj=>h j (by omega));have h2:=J0 (h k (by omega)).2;simp only[cu];omega
theorem Walk.tail {s:h_}{k:Nat}(h:Walk s (k+1)):Walk (aH s) k:=λj hj=>by rw[← uB];exact h (j+1) (by omega)
theorem Walk.items {s:h_}: ∀ {k:Nat},Walk s k->ga s=ga (cu s k)/\ck s=ck (cu s k)+k
 | 0,_=>⟨rfl,rfl⟩
 | k+1,h=>by obtain⟨h0,h1⟩:=h 0 (by omega);obtain⟨g1,g2⟩:=Ke (s:=s) h0 h1;obtain⟨g3,g4⟩:=Walk.items h.tail;rw[uB,g1,g2,g3,g4];exact⟨rfl,by omega⟩
theorem Walk.snoc {s:h_}{k:Nat}(h:Walk s k)(h0:cu s k≠[])(h1:c9 (cu s k)=L):Walk s (k+1):=λj hj=>by
 by_cases e:j=k
 ·subst e;exact⟨h0,h1⟩
 ·exact h j (by omega)
theorem Sx.aa.UC {z:Bool}{n n':Nat}{ay cols':List bh}{tot tot':Nat}{ty:TypeId}(hn:n=n')(ht:tot=tot')(hl:ay.length=cols'.length)
  (h: ∀(i k:Nat) (c':bh),i<n->cols'[k]?=M c'->∃ c,ay[k]?=M c/\c.at i=c'.at i):aa (.rows z n ay J tot ty) (.rows z n' cols' J tot' ty):=by
 subst hn;subst ht;refine aa.of rfl rfl λhno=> ?_;refine⟨hno,λE o ⟨c,fr,h1,h2,h3,h4,h5⟩=>⟨c,fr,h1,h2,by rw[← hl];exact h3,h4,λi k col hi hk=> ?_⟩,λ_=>rfl⟩;obtain⟨c0,hc0,he⟩:=h i k col hi hk;rw[← he,← hl];exact h5 i k c0 hi hc0
theorem Sx.aa.tO {z:Bool}{n n':Nat}{f g:Nat->h_}{tot tot':Nat}{ty:TypeId}(hn:n=n')(ht:tot=tot')(h: ∀ i,i<n->f i=g i):aa (.rows z n [.str f] J tot ty) (.rows z n' [.str g] J tot' ty):=by
 refine Sx.aa.UC hn ht rfl λi k c' hi hk=>⟨.str f,?_,?_⟩
 ·match k,hk with
  | 0,_=>rfl
 ·match k,hk with
  | 0,hk =>simp only[List.getElem?_cons_zero,Option.some.injEq] at hk;subst hk;simp only[bh.at,h i hi]
theorem YI {s:h_}(hs:s.length<1099511627776):au (jd (aye s) 165 c8 [.str J s] (OG s)):=by
 refine au.j7 (awr s) (by delta Bk I6 Sr Er NI aJ aF bx bB bq cP aj qd aC az cU cM gK aA nT cc iJ dy aY fU aX gE nQ Ft wV bN bJ cY LV aB oE Fz gW TH b8 gZ FP ahi yH Mn arc DD dh arT cv bA aV br fo cI nG dx fN cK eZ dg gX kL;exact rfl) ?_;intro R;refine⟨⟨⟨0,0⟩,⟨λj hj=>absurd hj (Nat.not_lt_zero _),Nat.le_refl _⟩,rfl,rfl,rfl,rfl,aa.refl _,aa.refl _,aa.refl _,aa.refl _,trivial⟩,λx hx=> ?_⟩;have hw:Walk s x.k:=hx.walk;have hl:=hw.len;obtain⟨i1,i2⟩:=hw.items;refine⟨λa=> ?_,λa=> ?_⟩
 ·have a:cu s x.k≠[]:=by simpa using a
  refine⟨by omega,λb=> ?_,λb y=> ?_⟩
  ·have hlt:=J0 b;refine⟨by omega,by omega,rfl,⟨by omega,trivial,by omega,by omega⟩,by omega,λc hc=>⟨⟨x.k+1,c⟩,⟨⟨hw.snoc a b,hc⟩,?_⟩,?_,rfl,⟨rfl,rfl,rfl⟩,trivial,?_,aa.refl _,aa.refl _,aa.refl _,aa.refl _,trivial⟩⟩
   ·simp only[cu];exact hlt
   ·simp only[cu]
   ·refine Sx.aa.tO rfl (Nat.mul_one c) λi hi=> ?_;by_cases h:i<x.k
    ·rw[o_ h]
    ·rw[p_ h];have e:i=x.k:=by omega
     subst e;simp only[Nat.sub_self,l9,bT,ax,CL];rw[show((↑(cu s x.k).length:Int)-(↑(aH (cu s x.k)).length:Int)).toNat=(cu s x.k).length-(aH (cu s x.k)).length by omega];simp only[List.getD_cons_zero]
  ·have hb:=Kc a b;rw[← i1] at hb;exact⟨by omega,rfl,(λh=>by rw[hb] at h;cases h),λ_ _=>rfl⟩
 ·have a:cu s x.k=[]:=by simpa using a
  rw[a] at i1 i2;have n0:ck s=x.k:=by rw[i2,oY.2];omega
  have b0:ga s=true:=by rw[i1,oY.1]
  refine⟨λ_=>⟨x.c,by rw[n0];exact hx.cap,?_,?_⟩,λh=>by rw[b0] at h;cases h⟩
  ·rw[n0];exact aa.refl _
  ·rw[n0];exact λ_=>rfl
def El:List SV->Option (Prop×fC)
 | [.str J s]=>M (s.length<1099511627776,OG s)
 | _=>S
noncomputable def VT:PT:=bZ El
theorem aoL:aq N 165 VT:=by
 refine ee (n:=20) Tryz.func165 (by kernel_rfl) (by kernel_rfl) ?_;intro args p a h hp;unfold El at h;split at h
 ·rename_i s;cases h;refine⟨_,aBi s,rfl,λb=> ?_,YI hp⟩;cases b with
  | false=>exact rfl
  | true =>
    intro c;refine⟨rfl,rfl,λk=>by simp[SV.wf,SV.lY,Nat.blt_eq],λE E' k k' h=> ?_⟩;cases hn:ck s with
    | zero=>rfl
    | succ n =>rw[hn] at h;have hk:E k=E' k':=h rfl;simp[SV.val,SV.vals,hk]
 ·cases h
end Go.Proofs.YtoibaecagklkaaaGreatDoor
namespace Go.Proofs.YtoibaecagklkaaaGreatDoor.Sx
open Go
def azu:SV->SV
 | .int k _ n=>.int k L n
 | .bool _ b=>.bool L b
 | .str _ s=>.str L s
 | v=>v
def apj:SV->SV
 | .agg cs=>.agg (cs.map azu)
 | v=>azu v
def lit:SV->SV
 | .dr vs=>.dr (vs.map apj)
 | v=>apj v
theorem Ak {f:SV->SV}{E:Nat->Nat}(hf: ∀ v,(f v).val E=v.val E): ∀ l:List SV,SV.vals E (l.map f)=SV.vals E l
 | []=>rfl
 | v::r=>by simp only[List.map_cons,SV.vals,hf,Ak hf r]
theorem Y6 (E:Nat->Nat)(v:SV):(azu v).val E=v.val E:=by cases v<;>rfl
theorem apk (E:Nat->Nat)(v:SV):(apj v).val E=v.val E:=by cases v<;>first | rfl | simp only[apj,SV.val,Ak (Y6 E)]
theorem Nw (E:Nat->Nat)(v:SV):(lit v).val E=v.val E:=by cases v<;>first | rfl | simp only[lit,apj,SV.val,Ak (Y6 E),Ak (apk E)]
def aoJ:SV->Bool
 | .int _ l _=>l
 | .bool l _=>l
 | .str l _=>l
 | _=>J
def isLit:SV->Bool
 | .agg cs=>cs.all aoJ
 | v=>aoJ v
def NO:List SV->Bool
 | []=>L
 | v::r=>isLit v&&NO r
def DN (ay:List bh)(i:Nat):Nat->List SV
 | 0=>[]
 | n+1=>ay.map (λc=>lit (c.at i))++DN ay (i+1) n
theorem I9 {ay:List bh}: ∀ {n i0 j:Nat} {v:SV},(DN ay i0 n)[j]?=M v->∃ i k col,j=i*ay.length+k/\i<n/\ay[k]?=M col/\v=lit (col.at (i0+i))
 | 0,_,_,_,h=>by simp[DN] at h
 | n+1,i0,j,v,h=>by
   simp only[DN] at h;by_cases hj:j<ay.length
   ·rw[eR (by simpa using hj),ei] at h;cases hc:ay[j]? with
    | none=>rw[hc] at h;cases h
    | some c=>rw[hc] at h;injection h with h;exact⟨0,j,c,by simp,by omega,hc,h.symm⟩
   ·rw[List.getElem?_append_right (by simpa using hj)] at h;obtain⟨i,k,col,h1,h2,h3,h4⟩:=I9 h;simp only[e6] at h1;refine⟨i+1,k,col,by rw[Nat.add_mul];omega,by omega,h3,?_⟩;rw[h4];congr 2;omega
def aym:SB->SB
 | .rows L 0 ay ro tot ty=>.rows L 0 ay ro tot ty
 | .rows _z n ay J tot ty=>.cells (DN ay 0 n) tot ty
 | B=>B
def agr:SV->SV
 | .bY _ _ L _ 0 _=>.bW
 | .bY k _ _ 0 n c=>.slc k 0 n J c
 | v=>v
def ags:SV->SV
 | .agg cs=>.agg (cs.map agr)
 | v=>agr v
def auw:SV->SV
 | .dr vs=>.dr (vs.map ags)
 | v=>ags v
theorem auv (B:SB):aa B (aym B):=by
 unfold aym;split
 ·exact aa.refl _
 ·rename_i z n ay tot ty hne;refine aa.of rfl rfl λ_=> ?_;have hno:(SB.rows z n ay J tot ty).no=false:=by
   cases z with
   | false=>rfl
   | true =>
     cases n with
     | zero=>exact(hne rfl rfl).elim
     | succ n=>rfl
  refine⟨hno,λE o ⟨c,fr,h1,h2,h3,h4,h5⟩=>⟨c,fr,h1,h2 rfl,λj v hv=> ?_,h4⟩,λ_=>rfl⟩;obtain⟨i,k,col,g1,g2,g3,g4⟩:=I9 hv;rw[g4,Nw,Nat.zero_add,g1];exact h5 i k col g2 g3
 ·exact aa.refl _
theorem Sv (E:Nat->Nat)(v:SV):(agr v).val E=v.val E:=by
 unfold agr;split
 ·rfl
 ·rename_i k w z n c hne;have hz:(z&&Nat.beq n 0)=false:=by
   cases z with
   | false=>rfl
   | true =>
     cases n with
     | zero=>exact(hne rfl rfl).elim
     | succ n=>rfl
  simp[SV.val,hz]
 ·rfl
theorem Sw (E:Nat->Nat)(v:SV):(ags v).val E=v.val E:=by
 unfold ags;split
 ·simp only[SV.val,Ak (Sv E)]
 ·exact Sv E _
theorem aoa (E:Nat->Nat)(v:SV):(auw v).val E=v.val E:=by
 unfold auw;split
 ·simp only[SV.val,Ak (Sw E)]
 ·exact Sw E _
def fC.vcl (m:Mem)(nx:Nat)(K:SV->Mem->Nat->VC):fC->VC
 | .ret v=>K (lit v) m nx
 | .new v B=>K (lit (auw (v nx))) ((nx,aym B)::m) (nx+1)
 | .all α f=>.all α λx=>(f x).vcl m nx K
 | .req p a=>.imp p (a.vcl m nx K)
 | .fork b f=>match b with
   | true=>(f L).vcl m nx K
   | false=>(f J).vcl m nx K
def az7 (Γ:b5)(E:Nat->Nat)(nx:Nat)(K:SV->Mem->Nat->VC):SV->Mem->Nat->VC:=λv m' nx' =>.atom (∀(E':Nat->Nat) (w':World),(∀ k,k<nx->E' k=E k)->nx<=nx'->bp Γ E' m' nx' w'->cn (lift K) Γ E nx (v.val E') w')
theorem fC.yo {Γ:b5}{E:Nat->Nat}{m:Mem}{nx:Nat}{K:SV->Mem->Nat->VC}: ∀ {a:fC},(a.vcl m nx K).holds->(a.vc m nx (az7 Γ E nx K)).holds
 | .ret v,h=>λE' w' h1 h2 hs=>⟨E',M (lit v),m,nx,h1,h2,λx hx=>by cases hx;rw[Nw],hs,h⟩
 | .new v B,h=>λE' w' h1 h2 hs=>⟨E',M (lit (auw (v nx))),_,nx+1,h1,h2,λx hx=>by cases hx;rw[Nw,aoa],hs.abL (auv B),h⟩
 | .all _ f,h=>λx=>fC.yo (a:=f x) (h x)
 | .req _ a,h=>λx=>fC.yo (a:=a) (h x)
 | .fork b f,h=>dY.2 (by
    cases b with
    | true=>exact fC.yo (a:=f L) h
    | false=>exact fC.yo (a:=f J) h)
theorem fC.Am {m:Mem}{nx:Nat}{K K':SV->Mem->Nat->VC}(hK: ∀ v m nx,(K v m nx).holds->(K' v m nx).holds): ∀ {a:fC},(a.vcl m nx K).holds->(a.vcl m nx K').holds
 | .ret _,h=>hK _ _ _ h
 | .new _ _,h=>hK _ _ _ h
 | .all _ f,h=>λx=>fC.Am (a:=f x) hK (h x)
 | .req _ a,h=>λx=>fC.Am (a:=a) hK (h x)
 | .fork b f,h=>by
   cases b with
   | true=>exact fC.Am (a:=f L) hK h
   | false=>exact fC.Am (a:=f J) hK h
noncomputable def Cl (spec:List SV->Option (Prop×fC)):PT:=λargs m nx K=>match NO args with
 | true=>(match spec (args.map Re)with
   | some (p,a)=>.and (.atom p) (a.vcl m nx K)
   | none=>.fail "arguments that nothing is said of")
 | false=>bZ spec args m nx K
theorem xK (spec:List SV->Option (Prop×fC)):bC (Cl spec):=by
 intro args m nx K K' hK h;unfold Cl at h ⊢;split at h
 ·split at h
  ·exact⟨h.1,fC.Am hK h.2⟩
  ·exact h
 ·exact bK spec _ _ _ _ _ hK h
theorem cn.axx {Γ:b5}{E:Nat->Nat}{nx:Nat}{r:Value}{w:World}{K:SV->Mem->Nat->VC}(h:cn (lift (λv m nx=>K (lit v) m nx)) Γ E nx r w):cn (lift K) Γ E nx r w:=by
 obtain⟨E',sv,m',nx',h1,h2,h3,h4,h5⟩:=h;cases sv with
 | none=>exact h5.elim
 | some v=>exact⟨E',M (lit v),m',nx',h1,h2,λx hx=>by cases hx;rw[Nw];exact h3 v rfl,h4,h5⟩
theorem Nc {P:Program}{f:FuncId}{spec:List SV->Option (Prop×fC)}(h:aq P f (bZ spec)):aq P f (Cl spec):=by
 intro args m nx K hk hwf hargs Γ E w hs;unfold Cl at hk;split at hk
 ·have:(bZ spec args m nx (az7 Γ E nx K)).holds:=by
   unfold bZ;split at hk
   ·rename_i p a hsp
    first
     | exact⟨hk.1,fC.yo hk.2⟩
     | (rw[hsp];exact⟨hk.1,fC.yo hk.2⟩)
   ·exact hk.elim
  refine(h args m nx _ this hwf hargs Γ E w hs).mono (λe w' hh=> ?_) (λ_ _ h=>h);obtain⟨E',sv,m',nx',h1,h2,h3,h4,h5⟩:=hh;cases sv with
  | none=>exact h5.elim
  | some v=>rw[h3 v rfl];exact h5 E' w' h1 h2 h4
 ·exact h args m nx K hk hwf hargs Γ E w hs
noncomputable def AY (spec:List SV->Option (Prop×SV)):PT:=λargs m nx K=>match NO args with
 | true=>aI spec args m nx (λv m nx=>K (lit v) m nx)
 | false=>aI spec args m nx K
theorem AZ (spec:List SV->Option (Prop×SV)):bC (AY spec):=by
 intro args m nx K K' hK h;unfold AY at h ⊢;split at h
 ·exact aE spec _ _ _ _ _ (λv m nx=>hK _ _ _) h
 ·exact aE spec _ _ _ _ _ hK h
theorem PD {P:Program}{f:FuncId}{spec:List SV->Option (Prop×SV)}(h:aq P f (aI spec)):aq P f (AY spec):=by
 intro args m nx K hk hwf hargs Γ E w hs;unfold AY at hk;split at hk
 ·exact(h args m nx _ hk hwf hargs Γ E w hs).mono (λe w' hh=>cn.axx hh) (λ_ _ h=>h)
 ·exact h args m nx K hk hwf hargs Γ E w hs
def Y7 (t:List SV->Mem->Bool)(pt:PT):PT:=λargs m nx K=>match t args m with
 | true=>pt args m nx (λv m nx=>K (lit v) m nx)
 | false=>pt args m nx K
theorem ad9 {t:List SV->Mem->Bool}{pt:PT}(h:bC pt):bC (Y7 t pt):=by
 intro args m nx K K' hK hh;unfold Y7 at hh ⊢;split at hh
 ·exact h _ _ _ _ _ (λv m nx=>hK _ _ _) hh
 ·exact h _ _ _ _ _ hK hh
theorem apm {P:Program}{f:FuncId}{t:List SV->Mem->Bool}{pt:PT}(h:aq P f pt):aq P f (Y7 t pt):=by
 intro args m nx K hk hwf hargs Γ E w hs;unfold Y7 at hk;split at hk
 ·exact(h args m nx _ hk hwf hargs Γ E w hs).mono (λe w' hh=>cn.axx hh) (λ_ _ h=>h)
 ·exact h args m nx K hk hwf hargs Γ E w hs
def apl (m:Mem):SV->Bool
 | .bW=>L
 | .slc key o n _ _=>(match m.get key with
   | some (.cells cs _ _)=>NO ((cs.drop o).take n)
   | _=>J)
 | _=>J
end Go.Proofs.YtoibaecagklkaaaGreatDoor.Sx
namespace Go.Proofs.YtoibaecagklkaaaGreatDoor
open Go Sx
set_option maxRecDepth 20000
noncomputable def Bw:List (FuncId×PT) :=
 (165,Cl El)::(116,Y7 (λargs m=>apl m (args.headD .eJ)) Kf)::(124,Cl VI)::(71,AY EE) ::
 (69,AY Ae)::(166,Cl vU)::(198,Cl Vo)::(115,AY Oz)::lM
theorem n7:aR N (λf=>av f Bw) :=
 .cons (Nc aoL) (xK _) (.cons (apm agH) (ad9 LI) (.cons (Nc aoj) (xK _) (.cons (PD apN) (AZ _)
  (.cons (PD aja) (AZ _) (.cons (Nc abC) (xK _) (.cons (Nc anU) (xK _) (.cons (PD agx) (AZ _) iF)))))))
noncomputable def aBc:iG:={bQ with cO:=λf=>av f Bw,rounds:=4}
theorem aBg:Sx.Good N aBc:=.of bI n7 aO
theorem tR {x y:h_}{i:Int}(h0:0<=i)(h:i<x.length):ah (x++y) i=ah x i:=by unfold ah;rw[ef,ef,eR (by omega)]
theorem qB (b:UInt8)(l:h_):ah (b::l) 0=(b.toNat:Int):=rfl
theorem Hf (b c:UInt8)(l:h_):ah (b::c::l) 1=(c.toNat:Int):=rfl
theorem ofNat_toNat {n:Int}(h0:0<=n)(h:n<256):((ag n.toNat).toNat:Int)=n:=by rw[UInt8.toNat_ofNat'];omega
theorem zc {k:Nat}{n:Int}(h:n<=0):GX k n=[]:=by
 cases k with
 | zero=>rfl
 | succ k=>unfold GX;rw[p_ (by omega)]
theorem Hp {k:Nat}{n:Int}(h:0<n):GX (k+1) n=GX k (n/256)++[ag (n%256).toNat]:=by
 conv=>lhs;unfold GX
 rw[o_ h]
theorem agh: ∀(k:Nat) (n:Int),0<=n->n<256^ k->num (GX k n)=n
 | 0,n,h0,h=>by
   have:n=0:=by simp at h;omega
   subst this;rfl
 | k+1,n,h0,h=>by
   by_cases hp:0<n
   ·rw[cL] at h;rw[Hp hp,zC,agh k (n/256) (by omega) (by omega),ofNat_toNat (by omega) (by omega)];omega
   ·have:n=0:=by omega
    subst this;rw[zc (bn _)];rfl
theorem Cq {x:h_}{b:UInt8}(h:x≠[]):ah (x++[b]) 0=ah x 0:=by have:=a!.2 h;exact tR (bn _) (by omega)
theorem Yb: ∀(k:Nat) (n:Int),0<n->n<256^ k->GX k n≠[]/\ah (GX k n) 0≠0
 | 0,n,h0,h=>by simp at h;omega
 | k+1,n,h0,h=>by
   rw[cL] at h;rw[Hp h0];refine⟨by simp,?_⟩;by_cases hp:0<n/256
   ·obtain⟨h1,h2⟩:=Yb k (n/256) hp (by omega);rw[Cq h1];exact h2
   ·rw[zc (by omega),ep,qB,ofNat_toNat (by omega) (by omega)];omega
theorem ZI: ∀(n:Nat) (l:h_),l.length<=n->ah l 0≠0->0<num l
 | 0,l,hn,h=>by have:l=[]:=b!.1 (by omega);subst this;exact absurd rfl h
 | n+1,l,hn,h=>by
   rcases ec l with rfl | ⟨r,b,rfl⟩
   ·exact absurd rfl h
   ·rw[d_] at h hn ⊢;rw[zC];by_cases hr:r=[]
    ·subst hr;rw[ep,qB] at h;have:num []=0:=rfl;rw[this];omega
    ·rw[Cq hr] at h;have h2:=ZI n r (by simp at hn;omega) h;omega
theorem avj (l:h_)(h:ah l 0≠0):0<num l:=ZI l.length l (Nat.le_refl _) h
theorem anV: ∀(k:Nat) (l:h_),l.length<=k->(l=[]∨ah l 0≠0)->GX k (num l)=l
 | 0,l,h,_=>by have:l=[]:=b!.1 (by omega);subst this;rfl
 | k+1,l,h,hl=>by
   rcases ec l with rfl | ⟨r,b,rfl⟩
   ·exact zc (bn _)
   ·rw[d_] at hl h ⊢;have hne:ah (r++[b]) 0≠0:=by
     rcases hl with hl | hl
     ·simp at hl
     ·exact hl
    have hp:=avj _ hne;have hb:=b.toNat_lt;rw[Hp hp];rw[zC] at hp ⊢;have e1:(num r*256+(b.toNat:Int))/256=num r:=by omega
    have e2:((num r*256+(b.toNat:Int))%256).toNat=b.toNat:=by omega
    rw[e1,e2,UInt8.ofNat_toNat];congr 1;refine anV k r (by simp at h;omega) ?_;by_cases hr:r=[]
    ·exact .inl hr
    ·rw[Cq hr] at hne;exact .inr hne
theorem Sj: ∀(j k:Nat) (n:Int),n<256^ j->(GX k n).length<=j
 | 0,k,n,h=>by rw[zc (by simp at h;omega)];simp
 | j+1,0,n,h=>by simp[GX]
 | j+1,k+1,n,h=>by
   by_cases hp:0<n
   ·rw[cL] at h;rw[Hp hp];have:=Sj j k (n/256) (by omega);simp only[e5,ej,en];omega
   ·rw[zc (by omega)];simp
theorem ac1 {n:Int}(h0:0<=n)(h:n<18446744073709551616):num (digits n)=n:=agh 8 n h0 h
theorem Yd {n:Int}(h0:0<n)(h:n<18446744073709551616):digits n≠[]/\ah (digits n) 0≠0:=Yb 8 n h0 h
theorem ajN {l:h_}(h:l.length<=8)(h2:l=[]∨ah l 0≠0):digits (num l)=l:=anV 8 l h h2
theorem Vs {n:Int}(h:n<16777216):(digits n).length<=3:=Sj 3 8 n h
theorem OA {base:Int}{n:Nat}(h:n<=55):di base n=[ag (base+n).toNat]:=o_ h
theorem SG {base:Int}{n:Nat}(h: ¬ n<=55):di base n=ag (base+55+(digits n).length).toNat::digits n:=p_ h
theorem agL {s:h_}{base n:Int}(hb:base=128∨base=192)(h0:0<=n)(h:n<64)(h1:ah s 0=base+n):lead s=n/\¬ ah s 0<128/\(ah s 0<192↔base=128):=by
 unfold lead;rcases hb with rfl | rfl
 ·rw[o_ (by omega)];omega
 ·rw[p_ (by omega)];omega
structure F2 (base:Int)(n:Nat)(s d t:h_):Prop where
 eq:s=ag (base+55+d.length).toNat::(d++t)
 num:num d=n
 hd:ah d 0≠0
 len:1<=d.length/\d.length<=3
theorem au5 {base:Int}{n:Nat}(h: ¬ n<=55)(h2:n<=1048576)(t:h_):F2 base n (di base n++t) (digits n) t:=by have h1:=Yd (n:=n) (by omega) (by omega);have h3:=a!.2 h1.1;exact⟨by rw[SG h];rfl,ac1 (by omega) (by omega),h1.2,by omega,Vs (by omega)⟩
theorem F2.aBn {base:Int}{n:Nat}{s d t:h_}(hb:base=128∨base=192)(h:F2 base n s d t):ah s 0=base+55+d.length/\lead s=55+d.length/\¬ ah s 0<128/\(ah s 0<192↔base=128):=by
 have hl:=h.len;have h0:ah s 0=base+55+d.length:=by rw[h.eq,qB,ofNat_toNat (by omega) (by omega)]
 obtain⟨h1,h2,h3⟩:=agL (s:=s) (base:=base) (n:=55+d.length) hb (by omega) (by omega) (by omega);exact⟨h0,h1,h2,h3⟩
theorem F2.part' {base:Int}{n:Nat}{s d t:h_}(h:F2 base n s d t):part s (d.length+1)=n/\ah s 1≠0:=by
 have hl:=h.len;constructor
 ·unfold part;rw[h.eq];have e:((d.length:Int)+1-1).toNat=d.length:=by omega
  rw[e,List.drop_one,List.tail_cons,er];exact h.num
 ·rw[h.eq];have h2:=h.hd
  match d,hl with
  | c::d,_ =>rw[qB] at h2;rw[eP,Hf];exact h2
theorem F2.cut {base:Int}{n:Nat}{s d t:h_}(hb:base=128∨base=192)(hn:55<n)(hn2:n<=1048576)(h:F2 base n s d t):c9 s=O (n<=t.length)/\e9 s=O (base=192)/\af s=t.take n/\aH s=t.drop n:=by
 obtain⟨b0,l1,l2,l3⟩:=h.aBn hb;obtain⟨p1,p2⟩:=h.part';have hl:=h.len;have e1:lead s-54=d.length+1:=by omega
 have hs:s.length=1+d.length+t.length:=by rw[h.eq];simp;omega
 have hlen:zu s (lead s-54)=true:=n6.2 (by rw[e1,p1];exact⟨by omega,p2,by omega,by omega⟩);rw[e1] at hlen;obtain⟨c1,c2⟩:=vY (s:=s) l2 (by omega);refine⟨?_,?_,?_,?_⟩
 ·rw[bl,jL];have hne:s≠[]:=by rw[h.eq];simp
  have hL:55<lead s:=by omega
  simp only[hne,ne_eq,not_false_eq_true,l2,hL,hlen,e1,p1,true_and,false_or,not_true_eq_false,false_and,or_false,m_];omega
 ·unfold e9;rcases hb with rfl | rfl
  ·have:=l3.2 rfl;simp;omega
  ·simp;omega
 ·rw[c1,e1,p1,h.eq];have e:((d.length:Int)+1).toNat=d.length+1:=by omega
  rw[e,d!,c5,c4]
 ·rw[c2,e1,p1,h.eq];have e:((d.length:Int)+1+n).toNat=d.length+n+1:=by omega
  rw[e,d!,← List.drop_drop,c5]
theorem alu {base:Int}{n:Nat}{s t:h_}(hb:base=128∨base=192)(hn:n<=55)(h:s=ag (base+n).toNat::t) :
  (c9 s=L↔n<=t.length/\¬ (base=128/\n=1/\ah t 0<128))/\e9 s=O (base=192)/\af s=t.take n/\aH s=t.drop n:=by
 have h0:ah s 0=base+n:=by rw[h,qB,ofNat_toNat (by omega) (by omega)]
 obtain⟨l1,l2,l3⟩:=agL (s:=s) (base:=base) (n:=n) hb (by omega) (by omega) h0;have hs:s.length=1+t.length:=by rw[h];simp;omega
 obtain⟨c1,c2⟩:=Az (s:=s) l2 (by omega);have hb1:0<t.length->ah s 1=ah t 0:=λhp=>by
  rw[h]
  match t,hp with
  | c::t,_=>rw[Hf,qB]
 refine⟨?_,?_,?_,?_⟩
 ·rw[jL];have hne:s≠[]:=by rw[h];simp
  have hL: ¬ (55:Int)<n:=by omega
  simp only[hne,ne_eq,not_false_eq_true,l2,hL,true_and,false_or,false_and,l1,l3];constructor
  ·rintro⟨a,b⟩;refine⟨by omega,fun⟨x,y,z⟩=>b ⟨x,by omega,by rw[hb1 (by omega)];exact z⟩⟩
  ·rintro⟨a,b⟩;refine⟨by omega,fun⟨x,y,z⟩=>b ⟨x,by omega,by rw[hb1 (by omega)] at z;exact z⟩⟩
 ·unfold e9;rcases hb with rfl | rfl
  ·have:=l3.2 rfl;simp;omega
  ·simp;omega
 ·rw[c1,l1,h,c4];rfl
 ·rw[c2,l1,h];have e:(1+(n:Int)).toNat=n+1:=by omega
  rw[e,d!]
theorem agm {base:Int}{x:h_}(hb:base=128∨base=192)(hx:x.length<=1048576)(h1: ¬ (base=128/\x.length=1/\ah x 0<128))(rest:h_) :
  c9 (di base x.length++x++rest)=L/\e9 (di base x.length++x++rest)=O (base=192)/\af (di base x.length++x++rest)=x/\aH (di base x.length++x++rest)=rest:=by
 rw[List.append_assoc];by_cases hn:x.length<=55
 ·obtain⟨g1,g2,g3,g4⟩:=alu (s:=di base x.length++(x++rest)) (t:=x++rest) hb hn (by rw[OA hn];rfl);refine⟨g1.2 ⟨by simp,fun⟨a,b,c⟩=>h1 ⟨a,b,?_⟩⟩,g2,by rw[g3,er],by rw[g4,c5]⟩
  rwa [tR (bn _) (by omega)] at c
 ·obtain⟨g1,g2,g3,g4⟩:=(au5 (base:=base) hn hx (x++rest)).cut hb (by omega) hx;exact⟨by rw[g1];simp,g2,by rw[g3,er],by rw[g4,c5]⟩
theorem Q8 {b:h_}(h:b.length=1/\ah b 0<128):aS b=b:=o_ h
theorem Q7 {b:h_}(hb:b.length<=1048576)(rest:h_):c9 (aS b++rest)=L/\e9 (aS b++rest)=J/\af (aS b++rest)=b/\aH (aS b++rest)=rest:=by
 by_cases h:b.length=1/\ah b 0<128
 ·rw[Q8 h]
  match b,h with
  | [c],h =>have h0:ah ([c]++rest) 0<128:=h.2;obtain⟨g1,g2,g3⟩:=vF h0;exact⟨jL.2 ⟨by simp,.inl h0⟩,g1,by rw[g2];rfl,by rw[g3];rfl⟩
 ·rw[tD h];exact agm (base:=128) (.inl rfl) hb (λx=>h x.2) rest
end Go.Proofs.YtoibaecagklkaaaGreatDoor
namespace Go.Proofs.YtoibaecagklkaaaGreatDoor.Sx
open Go
theorem U4 {P:Program}{f:FuncId}{fn:Func}(hf:P.funcs[f]?=M fn) (hn:(fn.name== "runtime.NumGoroutine")=J) (hb:fn.body.isSome=L) {n:Nat} {spec:List SV->Option (Prop×fC)}
  (h: ∀ args p a,spec args=M (p,a)->p->∃ cfg args',Good P cfg/\(∀ E,SV.vals E args'=SV.vals E args)/\SV.lY 0 args'=L/\a.Ok/\au (lZ P (calling P cfg n) [] Ny (cfg.bU f) cfg.rounds fn args' [] 0 (λv m _=>a.fit v m))):aq P f (bZ spec):=by
 intro args m nx K hk hwf hargs Γ E w hs;unfold bZ at hk;split at hk
 ·rename_i p a hr;obtain⟨hp,hk⟩:=hk;obtain⟨cfg,args',hg,e,h1,h2,h3⟩:=h _ _ _ hr hp;have hc:=kC hg hf hn hb h3 rfl h1 (bp.none w hs.adj);rw[SV.EW h1 (λ_=>0) E,e,Bi] at hc;refine mY hf hn hb (hc.mono ?_);rintro e w' ⟨v,rfl,E',sv,m',nx',_,_,g3,g4,g5⟩;refine⟨v,rfl,?_⟩;cases sv with
  | none=>exact g5.elim
  | some u=>rw[g3 u rfl];exact fC.told hs hwf g4 h2 g5 hk
 ·exact hk.elim
theorem fh {P:Program}{f:FuncId}{spec:List SV->Option (Prop×SV)}(h:aq P f (bZ λargs=>(spec args).map λp=>(p.1,.ret p.2))):aq P f (aI spec):=by
 intro args m nx K hk;refine h args m nx K ?_;unfold aI at hk;unfold bZ;split at hk
 ·rename_i p r hr;simp only[hr,Option.map_some];exact hk
 ·exact hk.elim
end Go.Proofs.YtoibaecagklkaaaGreatDoor.Sx
namespace Go.Proofs.YtoibaecagklkaaaGreatDoor
open Go Sx
set_option maxRecDepth 20000
structure iC (n:Nat)(t:Nat->Bool)(i:Nat):Prop where
 le:i<=n
 all: ∀ j,j<i->t j=L
noncomputable def U2 (tmp n:Nat)(t:Nat->Bool):aN :={α:=Nat,pre:=λ_ i=>iC n t i,nF:=λ_ i=>n-i,fresh:=0,slots:=λ_ i=>[(tmp,.int .i64 J i)],mem:=λ_ _=>[]}
def HW (p:h_)(i:Nat):Bool:=!decide (15<ah p i)
def ig (p:h_):Bool:=(e_ p.length).all (HW p)
noncomputable def ann (p:h_):iG:={bQ with cO:=λf=>av f Bw,bU:=λf=>if f=169 then [(2,always (U2 6 p.length (HW p)))] else []}
theorem ayU (p:h_):Sx.Good N (ann p):=.of bI n7 aO
def jO (k:h_)(j:Nat):Int:=if j%2=0 then ah k (j/2)/16 else ah k (j/2)%16
def ak (k:h_):h_:=b7 (jO k) 0 (2*k.length)
noncomputable def aua (k:h_):aN :=
 {α:=Nat×Nat,pre:=λ_ x=>x.1<=k.length/\2*x.1<=x.2,nF:=λ_ x=>k.length-x.1,fresh:=1,slots:=λst x=>[(11,.int .i64 J x.1),(3,.bY st.nx 1 J 0 (2*x.1) x.2)],
  mem:=λst x=>[(st.nx,.rows J (2*x.1) [.int .u8 (jO k)] J x.2 5)]}
noncomputable def anl (k:h_):iG:={bQ with cO:=λf=>av f Bw,bU:=λf=>if f=58 then [(3,always (aua k))] else []}
theorem ayS (k:h_):Sx.Good N (anl k):=.of bI n7 aO
def pP (p:h_)(j:Nat):Int:=bitsOf .or (ah p (2*(j:Int))*16%256) (ah p (2*(j:Int)+1))
def cC (p:h_):h_:=b7 (pP p) 0 (p.length/2)
noncomputable def amv (p:h_):aN :=
 {α:=Nat×(Nat->Int),pre:=λ_ x=>x.1<=p.length/2/\∀ j,j<x.1->x.2 j=pP p j,nF:=λ_ x=>p.length/2-x.1,fresh:=0,slots:=λ_ x=>[(11,.int .i64 J x.1)],
  mem:=λst x=>match slot st.tmps 3 with
   | some (.bY k _ _ _ _ _)=>(match st.m.get k with
     | some (.rows z n _ ro tot ty)=>[(k,.rows z n [.int .u8 x.2] ro tot ty)]
     | _=>[])
   | _=>[]}
noncomputable def anm (p:h_):iG:={bQ with cO:=λf=>av f Bw,bU:=λf=>if f=170 then [(3,always (amv p))] else []}
theorem ayT (p:h_):Sx.Good N (anm p):=.of bI n7 aO
def mR (leaf odd:Bool):Int:=(bif leaf then 2 else 0)+(bif odd then 1 else 0)
section
variable (n m k i : Nat) (s : h_) (a b : Int) (p q r P Q E F G H : Prop) (x C : Nat × Nat) (B D : SB) (h : Bool) (y : Nat × (Nat-> Int)) (I : TypeId) (g : SV-> Prop) (z : Nat-> Int) (A : List bh) (f : Nat-> Prop) (o : IntKind)
abbrev eD:=NI x.1
abbrev BF:=x.2=aF x.2
abbrev sJ:=2*x.1
abbrev j8:=bt (eD x) (eD C)
abbrev mL:=0=eD x
abbrev fF:=br n m (k<=i)
abbrev aih:=fF x.1 (V s) (sJ x) x.2
abbrev kP:=I6 (eD x+1)
abbrev jU:=bitsOf BinOp.and a b
abbrev wH:List bh:=[bh.int o z]
abbrev aP:=n-m<k-i
abbrev cN:=aJ n m (p/\q)
abbrev gY:=SB.rows J n A J m I
abbrev A6:=wH z eB
abbrev k9:=aC p q r (aa B D) P
abbrev A7:=a<=140737488355328
abbrev kG:=SV.int eB h a
abbrev gH:=kG 0 L
abbrev nM:=SV.bool L L
abbrev gS:=bt (NI n) (NI m)
abbrev fy:=0=NI n
abbrev sI:=ah s (NI n)
abbrev i5:=I6 (NI n+1)
abbrev ij:Prop:=g fR
abbrev cR:=Exists f/\p
abbrev jH:=aM (NI n) a p q
abbrev fE:=Ix (NI n) a
abbrev dF:=i5 n/\Exists f
abbrev aiq:=cR (∀(a:Nat),iC (V s) (HW s) a->jH a (bB s) (fE a (bB s)/\aM 15 (sI a s) (ij g) (dF a (λb=>aj (iC (V s) (HW s) b/\aP (V s) b (V s) a) (gS a b) True))) (g nM)) (λa=>aj (iC (V s) (HW s) a) (fy a) True)
abbrev oD:=NI y.1
abbrev ahl:=br y.1 (V s/2) (∀(a:Nat),a<y.1->y.2 a=pP s a)
abbrev Iw:=V s/2
abbrev zS:=dU (bB s) (fQ (bB s)) ((0:Int)<2)
abbrev xe:=X (bB s/2)
abbrev BY:=2*oD y
abbrev aT:=aC p q r P (aC Q E F G H)
abbrev cX:=az p q (aa B D) r
abbrev og:Int:=if n=m then a else b
abbrev dR:=0+X a
abbrev lS:=aM a (NI n) p q
abbrev pY:=dR (NI n)
end
theorem atd (p:h_)(R:SV->Prop):VC.holds (eS (ann p) 169 Tryz.f169 [.str J p] R)=(aiq p R):=by kernel_rfl
theorem awv (k:h_)(R:SV->Prop):VC.holds (eS (anl k) 58 Tryz.f58 [.str J k] R)=(az (I6 (2*bB k)) (dU (2*bB k) (A7 (1*(2*bB k))) (fQ (2*bB k))) (∃(a:Nat×Nat),cK (aih k a) (mL a) (fN 0 (sJ a) (X (2*bB k)) a.2) True (bH (aF (X (2*bB k))) (gY (sJ a) a.2 5 (A6 (jO k))) bf 5) True) (∀(a:Nat×Nat),aih k a->aM (eD a) (bB k) (cK (Ix (eD a) (bB k)) (Ix (eD a) (bB k)) (az (0<=ah k (eD a)) (ah k (eD a)<=255) ((0:Int)<=15) ((15:Int)<=255)) (gZ (sJ a) (sJ a) (aF (2*(sJ a+2))) (sJ a+2)) (BF a) (∀(b:Nat),cN (sJ a+2) b (kP a) (∃(c:Nat×Nat),aD (aih k c) (aP (V k) c.1 (V k) a.1) (k9 (j8 a c) (nG (sJ a+2) (sJ c) (b=c.2)) True True (gY (sJ a+2) (aF b) 5 (A6 (λb=>if b<sJ a then jO k b else M8 [ah k (eD a)/16,jU (ah k (eD a)) 15] (b-sJ a)))) (gY (sJ c) c.2 5 (A6 (jO k))))))) (br (0+sJ a) (sJ a) (R (aA (b7 (jO k) 0 (sJ a))))))):=by kernel_rfl
theorem atc (p:h_)(R:SV->Prop):VC.holds (eS (anm p) 170 Tryz.f170 [.str J p] R)=(az (zS p) (az (Er (bB p/2)) (0<=bB p/2) (A7 (1*(bB p/2))) (fQ (bB p/2))) (∃(a:Nat×(Nat->Int)),cX (ahl p a) (0=oD a) True (gY (xe p) (aF (xe p)) 5 (A6 (λ_=>0))) (gY (xe p) (aF (xe p)) 5 (A6 a.2))) (∀(a:Nat×(Nat->Int)),ahl p a->lS (xe p) (oD a) (I6 (BY a)/\aT (Ix (BY a) (bB p)) (I6 (BY a)) (dD (BY a)) (Ix (BY a+1) (bB p)) (az (0<=dQ (ah p (BY a)*16)) (dQ (ah p (BY a)*16)<=255) (0<=ah p (BY a+1)) (ah p (BY a+1)<=255)) (cw (xe p) (oD a)) (pY a.1<xe p) (dD (oD a)) (∃(b:Nat×(Nat->Int)),cX (ahl p b/\aP (Iw p) b.1 (Iw p) a.1) (bt (oD a) (oD b)) True (gY (xe p) (aF (xe p)) 5 (A6 (λb=>og b (pY a.1) (bitsOf BinOp.or (dQ (ah p (BY a)*16)) (ah p (BY a+1))) (a.2 b)))) (gY (xe p) (aF (xe p)) 5 (A6 b.2)))) (br (0+xe p) (xe p) (R (aA (b7 a.2 0 (xe p))))))):=by kernel_rfl
theorem awu (a b:Bool)(R:SV->Prop):VC.holds (eS aBc 220 Tryz.f220 [.bool J a,.bool J b] R)=(Bk a (Bk b (R (kG 3 L)) (Bk a (R (kG 2 L)) (Bk b (R (kG 1 L)) (R gH)))) (Bk a (R (kG 2 L)) (Bk b (R (kG 1 L)) (R gH)))):=by kernel_rfl
end Go.Proofs.YtoibaecagklkaaaGreatDoor
