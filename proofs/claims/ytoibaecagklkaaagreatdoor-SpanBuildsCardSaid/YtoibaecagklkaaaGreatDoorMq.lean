/- A part of the proof. -/
import Derived.Test.YtoibaecagklkaaaGreatDoorMp
open And renaming intro->X
open Bool renaming false->I,not_eq_false'->ct,not_eq_true'->cx,true->J
open Decidable renaming decide->V
open Go.Proofs.Tryz renaming f100->cy,f101->cB,f103->bW,f51->b_,f84->a!,func84->cL,prog->S
open Int renaming toNat->Z,toNat_natCast->b!
open List renaming filter_append->c4,filter_cons->c5,getD->cl,getD_eq_getElem?_getD->c6,getElem?_cons_zero->c7,getElem?_eq_getElem->c8,length->M,length_append->an,length_cons->bf,length_nil->c_,mem_range->c!,nil->Q,range->a_
open Nat renaming add->bl,beq->Y,le_refl->dr,not_lt_zero->d_,zero_add->d!,zero_le->bn
open Option renaming none->W,some->O
namespace Go.Proofs.YtoibaecagklkaaaGreatDoor
open Go Sx
variable {t:h_}{c i m n:Nat}{p:Prop}{ty:TypeId}{s:Wk}
section
open Go Sx
set_option maxRecDepth 20000
theorem acV: ∀(a b:h_) (x:Nat),iC (min a.length b.length) (QV a b) x->(x<min a.length b.length->ah a (x:Int)≠ah b (x:Int)->cg a b=x)/\(¬ x<min a.length b.length->cg a b=x)
 | [],b,x,h=>⟨λh1 _=>absurd h1 (by simp),λ_=>by
   have:=h.le;rw[c_,Nat.zero_min] at this;have:x=0:=by omega
   subst this;cases b<;>rfl⟩
 | a::p,[],x,h=>⟨λh1 _=>absurd h1 (by simp),λ_=>by
   have:=h.le;rw[c_,Nat.min_zero] at this;have:x=0:=by omega
   subst this;rfl⟩
 | a::p,b::q,0,h=>⟨λ_ h2=>by have:a≠b:=λe=>h2 (by subst e;rfl);rw[cg,p_ this],λh1=>by rw[bf,bf] at h1;omega⟩
 | a::p,b::q,x+1,h=>by
   have e0:a=b:=by have:=h.all 0 (Nat.succ_pos x);have:ah (a::p) 0=ah (b::q) 0:=i_ this;have:(a.toNat:Int)=(b.toNat:Int):=this;exact UInt8.toNat_inj.1 (by omega)
   have hm:min (a::p).length (b::q).length=min p.length q.length+1:=by rw[bf,bf];omega
   have h':iC (min p.length q.length) (QV p q) x:=⟨by have:=h.le;omega,λj hj=>by have:=h.all (j+1) (by omega);unfold QV at this ⊢;rw[dz,dz] at this;exact this⟩
   obtain⟨g1,g2⟩:=acV p q x h';have ec:cg (a::p) (b::q)=cg p q+1:=by rw[cg,o_ e0]
   rw[dz,dz,ec];exact⟨λh1 h2=>by rw[g1 (by omega) h2],λh1=>by rw[g2 (by omega)]⟩
theorem Vm (a b:h_)(ha:a.length<9223372036854775807):au (jd (am6 a b) 100 cy [.str I a,.str I b] (.ret (.int .i64 I (cg a b)))):=by
 refine au.xD (as3 a b) (by delta Fk Bk I6 Ix NI aM bx bB bF aj bt cJ aD aX aP gS fy sI i5 cR jH fE dF TR wN;exact rfl) ?_;simp only[cx,ct,m_,n_];refine⟨⟨0,iC.zero _ _,rfl⟩,λx hx=>⟨λh=> ?_,λh=> ?_⟩⟩
 ·have hlt:x<min a.length b.length:=by omega
  refine⟨⟨by omega,by omega⟩,⟨by omega,by omega⟩,λh1=>vK ?_,λh1=>⟨by omega,x+1,⟨hx.next (by omega) ?_,by omega⟩,by omega⟩⟩
  ·rw[(acV a b x hx).1 hlt h1]
  ·exact k_ h1
 ·have:=(acV a b x hx).2 (by omega);have hle:=hx.le;exact vK (by omega)
def Ga (args:List SV):Option (Prop×SV):=match args with
 | [.str I a,.str I b]=>O (a.length<9223372036854775807,.int .i64 I (cg a b))
 | _=>W
theorem ajK:aq S 100 (aI Ga):=by
 refine fh (ee (n:=20) Tryz.func100 (by kernel_rfl) (by kernel_rfl) ?_);intro args p a h hp;unfold Ga at h;split at h
 ·cases h;exact⟨_,ayG _ _,rfl,rfl,Vm _ _ hp⟩
 ·cases h
def JX (vs:List SV)(l:List Seen):Option (Prop×fC):=match vs,l with
 | [_],[⟨_,_,_,n,_,[.str f,.str g]⟩]=>O (n<9223372036854775808,.ret (.int .i64 I (iT n f g)))
 | _,_=>W
theorem anH:aq S 62 (bV UH JX):=by
 refine gi (n:=20) Tryz.func62 (by kernel_rfl) (by kernel_rfl) ?_;intro vs l q a h hq;unfold JX at h;split at h
 ·rename_i v key z o n c f g;cases h;exact⟨_,ayE n f g,rfl,rfl,X1 n hq f g z o c key⟩
 ·cases h
def Oh (vs:List SV)(l:List Seen):Option (Prop×fC):=match vs,l with
 | [_],[⟨_,_,_,n,_,[.str f,.str g]⟩]=>O (True,.ret (.bool I (Hx n f g)))
 | _,_=>W
theorem auu:aq S 19 (bV UH Oh):=by
 refine gi (n:=20) Tryz.func19 (by kernel_rfl) (by kernel_rfl) ?_;intro vs l q a h hq;unfold Oh at h;split at h
 ·rename_i v key z o n c f g;cases h;exact⟨_,ayI n f g,rfl,rfl,Yn n f g z o c key⟩
 ·cases h
theorem abj (l:List Rw):(QM l).Ok:=λ_=>⟨rfl,rfl,λk=>by
 show Nat.blt k (k+1)=J;rw[Nat.blt_eq];omega,λE E' k k' h=>by
 show(SV.bY k 2 I 0 l.length _).val E=(SV.bY k' 2 I 0 l.length _).val E';have:=h rfl;simp only[SV.val];rw[this]⟩
def QN (vs:List SV)(l:List Seen):Option (Prop×fC):=match vs,l with
 | [_],[⟨_,_,_,n,_,[.str f,.str g]⟩]=>O (n<=1000/\∀ i,i<n->(f i).length<1099511627776,QM (aQ n (λi=>ak (f i)) g))
 | _,_=>W
theorem asj:aq S 64 (bV UH QN):=by
 refine gi (n:=20) Tryz.func64 (by kernel_rfl) (by kernel_rfl) ?_;intro vs l q a h hq;unfold QN at h;split at h
 ·rename_i v key z o n c f g;cases h;exact⟨_,ay2 n f g,rfl,abj _,ae8 n f g hq.1 hq.2 z o c key⟩
 ·cases h
def avS:List E6:=[.of (.slice dE),.of .one]
def D1 (vs:List SV)(l:List Seen):Option (Prop×fC):=match vs,l with
 | [_,.int .i64 I k],[⟨_,_,_,n,_,[.str f,.str g]⟩]=>O (0<=k/\n<=1000/\∀ i,i<n->k.toNat<=(f i).length,QM (eV k.toNat (aQ n f g)))
 | _,_=>W
theorem afF:aq S 102 (bV avS D1):=by
 refine gi (n:=20) Tryz.func102 (by kernel_rfl) (by kernel_rfl) ?_;intro vs l q a h hq;unfold D1 at h;split at h
 ·rename_i v k key z o n c f g;cases h;have:=RT n k.toNat f g hq.2.1 hq.2.2 z o c key;rw[Int.toNat_of_nonneg hq.1] at this;exact⟨_,azb n k.toNat f g,rfl,abj _,this⟩
 ·cases h
section
variable (n : Nat) (p q : Prop) (y : Nat × Nat) (B D : SB) (z : Pl) (x : List Rw × Nat × Nat) (f : List Rw) (g : Nat × Nat-> SB)
abbrev vB:=dJ Pl.k
abbrev aeS:=jz x.2.2 (List.take y.1 x.1)
abbrev Ij:=jz x.2.2 x.1
abbrev zK:=M x.1
abbrev jW:=Pl.s 1 z
abbrev BI:=jW Pl.k
abbrev Mg:=uO PZ
abbrev rU:=M (aeS y x)
abbrev FJ:=M (Ij x)
abbrev uy:=dJ Mg
abbrev aa7:=fF y.1 (zK x) (rU y x) y.2
abbrev aiQ:=bN (rU y x) (bG y.2) 174 (iY (aeS y x) (aeS y x))
abbrev arA:=I6 (eD y+1)/\(∃(a:Nat×Nat),cM (aa7 a x) (aP (zK x) a.1 (zK x) y.1) (j8 y a) (rU y x=rU a x/\ur y a) (aa (g y) (aiQ a x)))
abbrev gp:=cl f n (Q,Q)
abbrev Ur:=(gp (fZ y) x.1).1
abbrev A4:=jQ n vB z
abbrev wJ:=A4 0 z
abbrev nK:=aj p q (aa B D)
end
theorem aAj (x:List Rw×Nat×Nat):dw (iE uy (rF 1 1 (wP 1 3 1 qe qe) qe) (wJ BI)) (runM (am7 x.2.2 x.1) 103 bW anS x) ((fun(a:Nat×Nat->SB)=>(∃(a:Nat×Nat),az (aa7 a x) (mL a) (rU a x=0) (fo (RN J (aeS a x) a.2 I)))/\(∀(b:Nat×Nat),aa7 b x->lS (zK x) (eD b) (aj (cw (zK x) (eD b)) (fZ b<zK x) (gE (Ur b x) (aj (Ix 0 (bx (Ur b x))) (I6 (ah (Ur b x) 0)) (bE (ah (Ur b x) 0) (NI x.2.2) (gL (rU b x) (rU b x) 2 (rU b x) 32 (rU b x)/\(∀(a:Nat),cN (aB (rU b x)) a (kP b) (∃(c:Nat×Nat),cM (aa7 c x) (aP (zK x) c.1 (zK x) b.1) (j8 b c) (aB (rU b x)=rU c x/\a=c.2) (cv (aB (rU b x)) (bG a) (aiQ c x) 174 (gD (λa=>dg a (rU b x) a (rU b x) (gp a (aeS b x)).1 (Ur b x)) (λa=>dg a (rU b x) a (rU b x) (gp a (aeS b x)).2 (gp (fZ b) x.1).2)))))) (arA b x a))) (arA b x a))) (∃(c:Nat),nK (FJ x<=c) (aK (rU b x) (FJ x) b.2 c) (a b) (bN (FJ x) (bG c) 174 (iY (Ij x) (Ij x)))))) (λa=>aiQ a x)):=⟨by kernel_rfl,by kernel_rfl⟩
theorem ai3 {l:List Rw}{r:Rw}:aa (.rows J (l.length+1) [.str λj=>if j<l.length then(l.getD j ([],[])).1 else l9 [r.1] (j-l.length),.str λj=>if j<l.length then(l.getD j ([],[])).2 else l9 [r.2] (j-l.length)] I (c*2) ty) (.rows J (l++[r]).length [nj (l++[r]),nk (l++[r])] I (c*2) ty):=by
 refine tM (by simp) rfl rfl λk c c' h1 h2 i hi E=> ?_;have e: ∀(x:Rw->h_),(if i<l.length then x (l.getD i ([],[]))else l9 [x r] (i-l.length))=x ((l++[r]).getD i ([],[])):=λx=>by
  rw[DR l r ([],[]) i hi];by_cases h:i<l.length
  ·rw[o_ h,o_ h]
  ·rw[p_ h,p_ h];have:i-l.length=0:=by omega
   rw[this];rfl
 match k,h1,h2 with
 | 0,h1,h2 =>injection h1 with h1;injection h2 with h2;subst h1;subst h2;simp only[nj,bh.at,SV.val,← e Prod.fst]
 | 1,h1,h2 =>injection h1 with h1;injection h2 with h2;subst h1;subst h2;simp only[nk,bh.at,SV.val,← e Prod.snd]
 | k+2,h1,_=>simp at h1
theorem Lb {l:List Rw}{k:Nat}(hk:k<l.length):l.take (k+1)=l.take k++[l.getD k ([],[])]:=by rw[List.take_add_one,c6,c8 hk];rfl
theorem aur {l:List Rw}{k:Nat}(hk:k<l.length)(h:qt i (l.getD k ([],[])).1=J):jz i (l.take (k+1))=jz i (l.take k)++[l.getD k ([],[])]:=by rw[Lb hk];unfold jz;rw[c4];congr 1;rw[c5,h];rfl
theorem anT {l:List Rw}{k:Nat}(hk:k<l.length)(h:qt i (l.getD k ([],[])).1=I):jz i (l.take (k+1))=jz i (l.take k):=by rw[Lb hk];unfold jz;rw[c4,c5,h];simp
theorem auq (i:Nat)(l:List Rw)(k:Nat):(jz i (l.take k)).length<=l.length:=by
 have:=List.length_filter_le (λr:Rw=>qt i r.1) (l.take k);have h2:(l.take k).length<=l.length:=by rw[List.length_take];omega
 unfold jz;omega
theorem aj2 {p:h_}(hp: ¬ p=[]):qt i p=V (ah p 0=(i:Int)):=by
 cases p with
 | nil=>exact absurd rfl hp
 | cons b q =>show V (b.toNat=i)=V ((b.toNat:Int)=(i:Int));exact decide_eq_decide.2 (by omega)
theorem ai2 {z:Bool}{l l':List Rw}{c':Nat}(h:l=l')(hc:c=c'):aa (.rows z l.length [nj l,nk l] I (c*2) ty) (.rows z l'.length [nj l',nk l'] I (c'*2) ty):=by subst h;subst hc;exact aa.refl _
theorem acZ (x:List Rw×Nat×Nat)(hx:x.1.length<=1000):au (runM (am7 x.2.2 x.1) 103 bW anS x):=by
 refine au.xD (aAj x) (by delta Fk Bk I6 Ix NI aM aJ bx aj az bE cM bt dy cw aX gE bN bJ aB b8 gZ cv aV br fo dg eD j8 mL fF kP aP cN lS ur iM gL bG gD fZ aK iY aeS Ij zK rU FJ aa7 aiQ arA gp Ur nK;exact rfl) ?_;obtain⟨l,c0,i⟩:=x;simp only[b!,d!,true_and,cx,ct,m_,n_];have hx:l.length<=1000:=hx;refine⟨⟨(0,0),⟨bn _,bn _⟩,rfl,rfl,rfl⟩,λx ⟨h1,h2⟩=>⟨λh=> ?_,λh=> ?_⟩⟩
 ·have hlt:x.1<l.length:=by omega
  have hcl:=auq i l x.1;refine⟨⟨by omega,by omega⟩,hlt,λa=> ?_,λa=> ?_⟩
  ·have hpos:0<(l.getD x.1 ([],[])).1.length:=List.length_pos_iff.2 a;have hb:=aj2 (i:=i) a;refine⟨⟨by omega,by omega⟩,?_,λb=>⟨⟨dr _,by omega,by omega⟩,λc hc=> ?_⟩,λb=> ?_⟩
   ·have h0:=e8 (l.getD x.1 ([],[])).1 0;omega
   ·have e:=aur hlt (hb.trans (k_ b));refine⟨by omega,(x.1+1,c),⟨⟨by show x.1+1<=_;omega,?_⟩,by show _-(x.1+1)<_;omega⟩,by show(x.1:Int)+1=((x.1+1:Nat):Int);omega,⟨?_,rfl⟩,?_⟩
    ·show(jz i (l.take (x.1+1))).length<=c;rw[e,an];exact hc
    ·show _=(jz i (l.take (x.1+1))).length;rw[e,an];rfl
    ·show aa _ (.rows J (jz i (l.take (x.1+1))).length [nj (jz i (l.take (x.1+1))),nk (jz i (l.take (x.1+1)))] I (c*2) _);rw[e];exact ai3
   ·have e:=anT hlt (hb.trans (l_ b));refine⟨by omega,(x.1+1,x.2),⟨⟨by show x.1+1<=_;omega,?_⟩,by show _-(x.1+1)<_;omega⟩,by show(x.1:Int)+1=((x.1+1:Nat):Int);omega,⟨?_,rfl⟩,ai2 e.symm rfl⟩
    ·show(jz i (l.take (x.1+1))).length<=x.2;rw[e];exact h2
    ·show _=(jz i (l.take (x.1+1))).length;rw[e]
  ·have e:=anT (i:=i) hlt (by rw[a];rfl);refine⟨by omega,(x.1+1,x.2),⟨⟨by show x.1+1<=_;omega,?_⟩,by show _-(x.1+1)<_;omega⟩,by show(x.1:Int)+1=((x.1+1:Nat):Int);omega,⟨?_,rfl⟩,ai2 e.symm rfl⟩
   ·show(jz i (l.take (x.1+1))).length<=x.2;rw[e];exact h2
   ·show _=(jz i (l.take (x.1+1))).length;rw[e]
 ·have e:l.take x.1=l:=List.take_of_length_le (by omega);rw[e] at h2 ⊢;exact⟨x.2,h2,⟨rfl,rfl⟩,aa.refl _⟩
theorem avG:aq S 103 (dI anS) :=jT (n:=20) Tryz.func103 (by kernel_rfl) (by kernel_rfl) anS λx hx=>⟨_,ayH x.2.2 x.1,rfl,acZ x hx⟩
noncomputable def adR:List (FuncId×PT):=(105,bZ (vA λx=>O (Fits x,ZW x)))::(150,aI EJ)::(100,aI Ga)::(102,bV avS D1)::(103,dI anS)::mX
theorem SR:aR S (λf=>av f adR):=.cons aet (bK _) (.cons aeu (aE _) (.cons ajK (aE _) (.cons afF (bR _ _) (.cons avG (de _) gT))))
theorem qI (l:List Rw):aQ l.length (λi=>(l.getD i ([],[])).1) (λi=>(l.getD i ([],[])).2)=l:=by refine List.ext_getElem (by rw[fI]) λi h1 h2=> ?_;simp only[aQ,List.getElem_map,List.getElem_range,c6,c8 h2,Option.getD_some]
structure Pd where
 D:Nat->Bool
 mP:Nat->h_
 fb:Nat->Nat
 nb:Nat->Nat
 cb:Nat->Nat
 D2:Nat->Bool
 n2:Nat->Nat
 g:Nat->Nat->Nat
def Pd.parts (P:Pd)(kB:Nat):SB:=.sy P.D [.str P.mP,.iP kB 1 J P.fb P.nb P.cb] 2 165 I
def Pd.lists (P:Pd)(kA:Nat):SB:=.ni P.D2 P.n2 [.ref kA P.g] I
def Told (P:Pd):Nat->Nat->List h_->Prop
 | 0,_,_=>False
 | d+1,a,L=>P.D a=J/\∃ Ks:List (List h_),P.nb a=Ks.length/\(0<Ks.length->P.D2 (P.fb a)=J/\Ks.length<=P.n2 (P.fb a))/\L=P.mP a::Ks.flatten/\∀(i:Nat) (L':List h_),Ks[i]?=O L'->Told P d (P.g (P.fb a) i) L'
def yX (P:Pd)(d n:Nat)(f:Nat->Nat)(B:List h_):Prop:=∃ Ks:List (List h_),n=Ks.length/\Ks.flatten=B/\∀(i:Nat) (L':List h_),Ks[i]?=O L'->Told P d (f i) L'
def vu (m:Nat)(l:List Rw):List h_:=if l=[] then [] else(if(ctext m l).length<32 then [] else [ctext m l])++dH m l
def qv (m:Nat)(l:List Rw):h_:=if l=[] then [] else j5 (ctext m l)
def Hw (n a b:Nat):Mem->List Gh
 | []=>[]
 | e::r=>match Nat.blt e.1 n,e.2 with
   | false,.sy .. =>.merge a e.1::Hw n a b r
   | false,.ni .. =>.merge b e.1::Hw n a b r
   | _,_=>Hw n a b r
def VP (nb cb:Nat)(f:Nat->Nat)(P:Pd)(k:Nat):Mem:=[(0,.cells [.str J [],.bY k 1 J 0 nb cb] 2 165),(k,.rows J nb [.ref 3 f] I (cb*1) 106),(3,P.parts 4),(4,P.lists 3)]
structure Cg where
 l:List Rw
 c:Nat
 nb:Nat
 cb:Nat
 f:Nat->Nat
 P:Pd
 B:List h_
structure sB where
 nb:Nat
 cb:Nat
 f:Nat->Nat
 P:Pd
def CK (m:Nat):mg :=
 {G:=Cg,n:=5,N:=6,pre:=λx=>dZ m x.l/\x.l.length<=1000/\m<=13/\x.nb<=x.cb/\(x.B++vu m x.l).length<=100000/\yX x.P (m+1) x.nb x.f x.B,args:=λx=>[.ptr 0 J 0,.bY 1 2 I 0 x.l.length x.c],
  mem:=λx=>(1,RN I x.l x.c J)::VP x.nb x.cb x.f x.P 2,
  Fg:=λx=>.all sB λy=>.req (y.nb<=y.cb/\yX y.P (m+1) y.nb y.f (x.B++vu m x.l)) (.ret (.str I (qv m x.l)) (VP y.nb y.cb y.f y.P 5)),
  gh:=λ_ m=>Hw 5 3 4 m}
def azP:SV->Mem->List Gh:=λv m=>match v with
 | .ptr kp _ _=>(match m.get kp with
   | some (.cells [_,.bY kr _ _ _ _ _] _ _)=>(match m.get kr with
     | some (.rows _ _ [.ref kA _] _ _ _)=>(match m.get kA with
       | some (.sy _ [_,.iP kB _ _ _ _ _] _ _ _)=>[.name kr 0,.merge kB kr,.name kp kB,.merge kA kp]
       | _=>[.name kp 0])
     | _=>[.name kp 0])
   | _=>[.name kp 0])
 | _=>[]
def JV (m:Nat):mg :=
 {G:=List Rw×Nat,n:=1,N:=3,pre:=λx=>dZ m x.1/\x.1.length<=1000/\m<=13,args:=λx=>[.bY 0 2 I 0 x.1.length x.2],mem:=λx=>[(0,RN I x.1 x.2 J)],
  Fg:=λx=>.all (Nat×Pd) λy=>.req (Told y.2 (m+1) y.1 (jy m x.1)) (.ret (.l7 1 y.1 0) [(1,y.2.parts 2),(2,y.2.lists 1)]),
  gh:=azP}
def jR (m:Nat)(l:List Rw)(i:Nat):List h_:=(a_ i).flatMap λj=>vu m (bz l j)
def uz (m:Nat)(l:List Rw)(i j:Nat):h_:=if j<i then qv m (bz l j)else []
noncomputable def at3 (m:Nat)(l:List Rw):aN :=
 {α:=Nat×sB,pre:=λ_ x=>x.1<=16/\x.2.nb<=x.2.cb/\yX x.2.P (m+1) x.2.nb x.2.f (jR m l x.1),nF:=λ_ x=>16-x.1,fresh:=3,slots:=λ_ x=>[(11,.int .i64 I x.1)],
  mem:=λst x=>[(By st 3,.cells [.str J [],.bY st.nx 1 J 0 x.2.nb x.2.cb] 2 165),(st.nx,.rows J x.2.nb [.ref (st.nx+1) x.2.f] I (x.2.cb*1) 106),(st.nx+1,x.2.P.parts (st.nx+2)),(st.nx+2,x.2.P.lists (st.nx+1)),
   (By st 4,.cells (kq ⟨3,[],[],uz m l x.1⟩) 19 138)]}
noncomputable def Aw:Nat->PT
 | 0=>λ_ _ _ _=>.fail "no rows"
 | m+1=>dI (JV (m+1))
noncomputable def aBp (m:Nat):List (FuncId×PT):=(63,Aw m)::adR
noncomputable def Sc (m:Nat):iG:={bQ with cO:=λf=>av f (aBp m)}
noncomputable def aBo (m:Nat):List (FuncId×PT):=(101,dI (CK m))::adR
noncomputable def af2 (m:Nat)(l:List Rw):iG:={bQ with cO:=λf=>av f (aBo m),bU:=λh=>if h=63 then [(5,always (at3 m l))] else []}
theorem He: ∀ m,bC (Aw m)
 | 0=>λ_ _ _ _ _ _ h=>h
 | _m+1=>de _
theorem acE:aq S 63 (Aw 0):=λ_ _ _ _ h=>h.elim
theorem ayK (h:aq S 63 (Aw m)):Sx.Good S (Sc m):=.of bI (aR.cons h (He m) SR) aO
theorem ayD (h:aq S 101 (dI (CK m)))(l:List Rw):Sx.Good S (af2 m l):=.of bI (aR.cons h (de _) SR) aO
section
variable (n m k i : Nat) (s : h_) (a : Int) (p q : Prop) (B : SB) (A : Bool) (f : List Rw × Nat) (x : Cg) (y : Nat × Pd) (G : TypeId) (g : sB) (h E F : Nat-> Nat) (z : Pd) (C : List bh) (o : Nat-> Bool) (D : List fW)
abbrev wM:List bh:=[bh.ref n h]
abbrev gr:=SB.sy o C n G I
abbrev jV:=bh.iP n m J h E F
abbrev pS:=aa B (Pd.lists z n)
abbrev mz:=SB.ni o h D I
abbrev uQ:=fW.ref n z.g
abbrev aha:=cX (aK x.nb g.nb x.cb g.cb) (cv x.nb (aF x.cb) (bN g.nb (aF g.cb) 106 (wM 3 g.f)) 106 (wM 3 x.f)) (pS 3 (mz x.P.n2 x.P.D2 [uQ 3 x.P]) g.P) (gr 2 165 (bJ x.P.mP [jV 4 1 x.P.fb x.P.nb x.P.cb]) x.P.D) (Pd.parts g.P 4)
abbrev L0:=M x.l
abbrev aq5:=Pl.n vB Pl.k
abbrev aiF:=uO (jW aq5)
abbrev pX:=bE (NI n) a p q
abbrev A8:=qv n x.l
abbrev uR:=aa B (Pd.parts z n)
abbrev C7:h_:=bif A then z.mP n else s
abbrev jf:Nat:=bif Y n m then k else i
abbrev C5:Nat:=bif z.D n then m else k
abbrev C4:Nat:=bif z.D2 n then m else k
abbrev aqf:=uR 4 (gr 2 165 (bJ (λa=>C7 a (y.2.mP a) (x.P.D a) x.P) [jV (jf (jf 4 6 3 4) 7 4 (jf 4 6 3 4)) 1 (λa=>C5 a (x.P.fb a) (y.2.fb a) x.P) (λa=>C5 a (x.P.nb a) (y.2.nb a) x.P) (λa=>C5 a (x.P.cb a) (y.2.cb a) x.P)]) (λa=>x.P.D a||y.2.D a)) g.P/\pS 3 (mz (λa=>C4 a (x.P.n2 a) (y.2.n2 a) x.P) (λa=>x.P.D2 a||y.2.D2 a) [fW.nE (λa=>jf a 7 4 a) (fW.ref (jf 3 6 3 3) (λa=>λb=>C4 a (x.P.g a b) (y.2.g a b) x.P))]) g.P
abbrev mG:=M f.1
abbrev aqh:=Fa 1 (OT 0 ((1,RN I x.l x.c J)::VP x.nb x.cb x.f x.P 2) (RN I f.1 f.2 J) (RN I x.l x.c J) [(0,1)]) 5
abbrev aqo:=bN g.nb (aF g.cb) 106 (wM 3 g.f)
abbrev ahd:=br g.nb g.cb (yX g.P (oE n) g.nb g.f (x.B++vu (aB n) x.l))
abbrev aab:=SB.rows I (M x.l) (iY x.l x.l) J (bG x.c) 174
abbrev aaf:=jf 3 6 3 3
abbrev Dk:=Pd.parts y.2 2
abbrev Iv:=y.2.mP y.1
abbrev TO:=x.nb+y.2.nb y.1
abbrev aq8:=∀(a:Nat),aV (SB.dom (SB.told (YF 6 3) (λa=>jf a 6 3 a) (Pd.lists x.P 3)) a)->SB.dom (SB.told (YF 6 3) (λa=>jf a 6 3 a) (SB.aW (aqh f x) (Pd.lists y.2 1))) a=I
abbrev Mq:=SB.rows I (mG f) (iY f.1 f.1) J (bG f.2) 174
abbrev aro:=∀(a:Nat),aV (SB.dom (Pd.parts x.P 4) a)->SB.dom (SB.aW (aqh f x) (Dk y)) a=I
abbrev gA:=n<=1000
end
theorem awp (x:Cg):dw (C8 (dJ aiF)) (runM (Sc 0) 101 cB (CK 0) x) (pX (L0 x) 0 (∃(a:sB),aj (br a.nb a.cb (yX a.P 1 a.nb a.f (x.B++vu 0 x.l))) ([]=A8 0 x) (aha x a)) False):=⟨by kernel_rfl,by kernel_rfl⟩
theorem aAo (m:Nat)(x:Cg):dw (Pl.n (dJ aiF) (wJ (jh 0 (wP 2 2 3 aiF aiF)))) (runM (Sc (m+1)) 101 cB (CK (m+1)) x) (pX (L0 x) 0 (∃(a:sB),aj (ahd m x a) ([]=A8 (aB m) x) (aha x a)) (∃(a:List Rw×Nat),cX (aj (dZ (aB (bl._f 0 () m)) a.1) (gA (mG a)) (aB (bl._f 0 () m)<=13)) (aK (L0 x) (mG a) x.c a.2) (∀(b:Nat×Pd),Told b.2 (oE (bl._f 0 () m)) b.1 (jy (aB (bl._f 0 () m)) a.1)->az (aV (b.2.D b.1)) (dA (Iv b)) (cW (j5 (Iv b))) (Bk (cH (j5 (Iv b))) (gL x.nb x.nb 2 x.nb 8 x.nb/\(∀(c:Nat),aJ (aB x.nb) c (aro a x b->aq8 a x b->(∃(a:sB),aC (ahd m x a) (j5 (Iv b)=A8 (aB m) x) (aK (aB x.nb) a.nb c a.cb) (cv (aB x.nb) (aF c) (aqo a) 106 (wM (jf aaf 7 4 aaf) (λa=>if a<x.nb then x.f a else ass [b.1] (a-x.nb)))) (aqf x b a))))) (aj (aV (b.2.D b.1)) (az (b8 x.nb x.nb) (0<b.2.nb b.1->aV (b.2.D2 (b.2.fb b.1))/\b8 (b.2.nb b.1) (b.2.n2 (b.2.fb b.1))) (2*TO x b*8<=281474976710656) (dy (TO x b))) (∀(c:Nat),aJ (TO x b) c (aro a x b->aq8 a x b->(∃(a:sB),aC (ahd m x a) (j5 (Iv b)=A8 (aB m) x) (aK (TO x b) a.nb c a.cb) (cv (TO x b) (aF c) (aqo a) 106 (wM (jf aaf 7 4 aaf) (λa=>if a<x.nb then x.f a else b.2.g (b.2.fb b.1) (a-x.nb)))) (aqf x b a))))))) (aab x) (Mq a))):=⟨by kernel_rfl,by kernel_rfl⟩
section
variable (n m k : Nat) (s : h_) (f C : Pl) (o : Bool) (y : List Rw × Nat) (g : Cg) (x : Nat × sB) (h : Nat × Pd) (A : List Rw × Nat × Nat) (z : sB) (B : Nat-> Nat × sB-> SV)
abbrev mB:=uz n y.1 m k
abbrev aeP:Nat->h_:=λa=>aU a (dS (mB n x.1 0 y) (mB n x.1 1 y) (mB n x.1 2 y) (mB n x.1 3 y) (mB n x.1 4 y) (mB n x.1 5 y) (mB n x.1 6 y) (mB n x.1 7 y) (dS (mB n x.1 8 y) (mB n x.1 9 y) (mB n x.1 10 y) (mB n x.1 11 y) (mB n x.1 12 y) (mB n x.1 13 y) (mB n x.1 14 y) (mB n x.1 15 y) Q))
abbrev BV:=x.2.P
abbrev wK:=o&&Y n m
abbrev Dy:=oE 1
abbrev arP:=id (jf (id (aB Dy)) Dy (Dy+2) (id (aB Dy)))
abbrev avD:=pS 1 (mz (λa=>C4 a ((BV x).n2 a) x.2.nb (BV x)) (λa=>(BV x).D2 a||Y a n&&not (wK x.2.nb 0 J)) [fW.ref (jf arP 1 (aB Dy) arP) (λa=>λb=>C4 a ((BV x).g a b) (x.2.f b) (BV x))]) h.2
abbrev arQ:=id (jf (id (Dy+2)) Dy (Dy+2) (id (Dy+2)))
abbrev avF:List bh:=[jV (jf arQ 1 (aB Dy) arQ) 1 (λa=>C5 a ((BV x).fb a) n (BV x)) (λa=>C5 a ((BV x).nb a) x.2.nb (BV x)) (λa=>C5 a ((BV x).cb a) x.2.cb (BV x))]
abbrev aaI:=wN (cl y.1 0 (Q,Q)).1 (cl y.1 (dR (rI (M y.1) 1)) (Q,Q)).1
abbrev C1:=oE 1
abbrev nr:=x.2.P
abbrev aru:=id (jf (id 7) 9 8 (id 7))
abbrev aqj:=pS 1 (mz (λa=>C4 a (z.P.n2 a) z.nb z.P) (λa=>z.P.D2 a||Y a n&&not (wK z.nb 0 J)) [fW.ref (jf aru 1 7 aru) (λa=>λb=>C4 a (z.P.g a b) (z.f b) z.P)]) h.2
abbrev arv:=id (jf (id 8) 9 8 (id 8))
abbrev FO:=z.P.D n
abbrev aqm:List bh:=[jV (jf arv 1 7 arv) 1 (λa=>bif FO a z then z.P.fb a else n) (λa=>bif FO a z then z.P.nb a else z.nb) (λa=>bif FO a z then z.P.cb a else z.cb)]
abbrev Im:=Told h.2 (oE n) h.1 (jy (aB n) y.1)
abbrev PM:=x.2.nb
abbrev aqn:=bN g.nb (aF g.cb) 106 (wM 3 g.f)
abbrev aqq:=cK (dZ n g.l) (gA (M g.l)) (n<=13) (g.nb<=g.cb) (M (g.B++vu n g.l)<=100000) (yX g.P (aB n) g.nb g.f g.B)
abbrev aqs:=aG (B 0 x) (B 1 x) (B 2 x) (B 3 x) (B 4 x) (B 5 x) (B 6 x) (B 7 x) (aG (B 8 x) (B 9 x) (B 10 x) (B 11 x) (B 12 x) (B 13 x) (B 14 x) (B 15 x) Q)
abbrev qO:=Y n m
abbrev uh:=True/\True
abbrev ahp:=∀(a:Nat),¬SB.nc 0 (Pd.lists h.2 1) a
abbrev aht:List bh:=[jV 0 1 (λ_=>0) (λ_=>0) (λ_=>0)]
abbrev Dq:=NI x.1
abbrev TW:=eV (Z (aaI y)) (aQ (mG y) (λa=>(gp a y.1).1) (λa=>(gp a y.1).2))
abbrev TX:=eV 1 (aQ (M (Ij A)) (λa=>(gp a (Ij A)).1) (λa=>(gp a (Ij A)).2))
abbrev Ml:=uO vB
abbrev aiB:=∀(a:Nat),aV ((nr x).D2 a)->(Y a n&&not (wK x.2.nb 0 J))=I
abbrev aiD:=∀(a:Nat),aV ((nr x).D a)->qO a n=I
abbrev aqT:=∀(a:Nat),aiB a x->(∀(b:Nat),aiD b x->(∃(c:Nat×Pd),cX (Im n y c) (b=c.1) (avD a x c) (gr 2 165 (bJ (λa=>C7 a Q ((nr x).D a) (nr x)) (avF a x)) (λa=>(nr x).D a||qO a b)) (Dk c)))
abbrev Dv:=gp 0 y.1
abbrev sM:=NI (mG y)
abbrev ahQ:=aj (x.1<=16) (PM x<=x.2.cb) (yX (nr x) (aB n) (PM x) x.2.f (jR n y.1 x.1))
abbrev ahS:=bN (PM x) (aF x.2.cb) 106 (wM (aB C1) x.2.f)
abbrev aq9:=∀(a:Nat),∃(b:Nat×Pd),cX (Im n y b) (a=b.1) (ahp b) (gr 2 165 (bJ (λ_=>Q) aht) (λb=>qO b a)) (Dk b)
abbrev ard:=br z.nb z.cb (yX z.P (aB n) z.nb z.f (g.B++vu n g.l))
abbrev arh:=∀(a:Nat),aV (z.P.D2 a)->(qO a n&&not (wK z.nb 0 J))=I
abbrev Qm:=uO Mg
abbrev aaX:=Pl.n (dJ Ml) (dJ Ml)
abbrev aix:=Nd.mk 2 (bT (Dv y).1 W (cc 81) 0 (aaI y)) Q (λa=>aU a (A8 n g::WS))
abbrev aiL:=Nd.mk 1 (Dv y).1 (Dv y).2 Xw
abbrev Us:=uO Qm
abbrev oe:=iE Pl.k f C
abbrev gV:=oe Pl.k f
abbrev C3:=M s<9223372036854775807
abbrev oy:=rF n m Pl.k f
abbrev pW:=jh n (gV f)
abbrev m4:=rF n m vB f
end
theorem awf (m:Nat)(x:List Rw×Nat):dw (iE (dJ aaX) (Pl.s 4 aaX) (jQ 5 (A4 11 (jh 0 (oy 1 3 aaX))) (iE (jh 0 (oy 1 2 PZ)) (m4 0 1 (gV (A4 4 (jh 0 (A4 1 (pW 0 (jh 4 (m4 1 0 Us)))))))) (wP 1 2 0 aaX aaX)))) (runM (af2 m x.1) 63 Tryz.f63 (JV (m+1)) x) ((fun(a:Nat->Nat×sB->SV)=>(fun(b:Nat->Nat×sB->Cg->SV)=>(fun(c:Nat->Nat×sB->SV)=>(fun(d:List Rw×Nat×Nat->SB)=>bE (sM x) 0 (aY (Fits va) (∀(a:Nat),∃(b:Nat×Pd),cX (Im m x b) (a=b.1) (ahp b) (gr 2 165 (bJ (λ_=>eM va) aht) (λb=>qO b a)) (Dk b)) (aq9 m x) (aZ va)) (bE (sM x) 1 (cK (Ix 0 (sM x)) (0<mG x) (Ix 0 (sM x)) (0<mG x) (Fits (aiL x)) (Bk (aZ (aiL x)) (∀(a:Nat),∃(b:Nat×Pd),cX (Im m x b) (a=b.1) (ahp b) (gr 2 165 (bJ (λ_=>eM (aiL x)) aht) (λb=>qO b a)) (Dk b)) (aq9 m x))) (cI (Ix 0 (sM x)) (0<mG x) (iJ (sM x) 1) (Ix (sM x-1) (sM x)) (fO (mG x) (sM x-1)) (C3 (Dv x).1) (aM 0 (aaI x) (aj (Ix 0 (sM x)) (0<mG x) (aT (iJ (sM x) 1) (Ix (sM x-1) (sM x)) (fO (mG x) (sM x-1)) (C3 (Dv x).1) (Ix 0 (sM x)) (0<mG x) (aj nT (0<=aaI x) (aaI x<=bx (Dv x).1)) (az (aD (Er I) (b8 (mG x) (mG x)) uh) (0<=aaI x) (gA (mG x)) (∀(a:Nat),a<mG x->Z (aaI x)<=M (gp a x.1).1)) (∀(a:Nat),aJ (M (TW x)) a (∃(b:Cg),cX (aqq m b) (aK (M (TW x)) (L0 b) a b.c) (aC (b.nb=0) (fo (aqn b)) (∀(a:Nat),¬SB.nc 0 (Pd.parts b.P 4) a) (∀(a:Nat),¬SB.nc 0 (Pd.lists b.P 3) a) (∀(a:sB),ard m b a->aY (Fits (aix m x b)) (∀(c:Nat),arh c a->(∀(d:Nat),(∀(b:Nat),aV (FO b a)->qO b d=I)->(∃(e:Nat×Pd),cX (Im m x e) (d=e.1) (aqj c e a) (gr 2 165 (bJ (λc=>C7 c (eM (aix m x b)) (FO c a) a.P) (aqm c a)) (λb=>FO b a||qO b d)) (Dk e)))) (∀(b:Nat),arh b a->(∀(c:Nat),(∀(b:Nat),aV (FO b a)->qO b c=I)->(∃(d:Nat×Pd),cX (Im m x d) (c=d.1) (aqj b d a) (gr 2 165 (bJ (λb=>C7 b Q (FO b a) a.P) (aqm b a)) (λb=>FO b a||qO b c)) (Dk d)))) (aZ (aix m x b)))) (gY (M (TW x)) (bG a) 174 (iY (TW x) (TW x))) (aab b))))) ((∃(b:Nat×sB),cI (ahQ m x b) (0=Dq b) (PM b=0) (fo (ahS b)) (∀(a:Nat),¬SB.nc 0 (Pd.parts (nr b) (C1+2)) a) (∀(a:Nat),¬SB.nc 0 (Pd.lists (nr b) (aB C1)) a) (aa My (eY 19 (bF 3) (uc::uc::aqs b a) 138)))/\(∀(a:Nat×sB),ahQ m x a->aM (Dq a) 16 (∃(e:List Rw×Nat×Nat),aC (gA (zK e)) (aK (mG x) (zK e) x.2 e.2.1) (aa (Mq x) (SB.rows I (zK e) (iY e.1 e.1) J (bG e.2.1) 174)) (bH 1 (d e) [bF (Dq a)] 3) (∀(f:Nat),aJ (FJ e) f (aj (O (d e)=O (eY 1 (bF (Dq a)) Q 3)) (az (aD i9 (b8 (FJ e) (FJ e)) uh) uk (gA (FJ e)) (∀(a:Nat),a<FJ e->1<=M (gp a (Ij e)).1)) (∀(f:Nat),cN (M (TX e)) f (dB (d e)) (∃(g:Cg),cX (aqq m g) (aK (M (TX e)) (L0 g) f g.c) (aC (aK (PM a) g.nb a.2.cb g.cb) (aa (ahS a) (aqn g)) (uR 4 (gr 2 165 (bJ (nr a).mP [jV (C1+2) 1 (nr a).fb (nr a).nb (nr a).cb]) (nr a).D) g.P) (pS 3 (mz (nr a).n2 (nr a).D2 [uQ (aB C1) (nr a)]) g.P) (∀(f:sB),ard m g f->aC (dB (d e)) (Ix (Dq a) 16) (mu 16 (Dq a)) (dD (Dq a)) (∃(d:Nat×sB),cI (ahQ m x d/\aP 16 d.1 16 a.1) (bt (Dq a) (Dq d)) (aK f.nb (PM d) f.cb d.2.cb) (cv f.nb (aF f.cb) (ahS d) 106 (wM 4 f.f)) (uR (C1+2) (gr 2 165 (bJ f.P.mP [jV 5 1 f.P.fb f.P.nb f.P.cb]) f.P.D) (nr d)) (pS (aB C1) (mz f.P.n2 f.P.D2 [uQ 4 f.P]) (nr d)) (bH 19 (eY 19 (bF 3) (uc::uc::aqs d c) 138) (bF 3::uc::uc::aG (b 0 a g) (b 1 a g) (b 2 a g) (b 3 a g) (b 4 a g) (b 5 a g) (b 6 a g) (b 7 a g) (aG (b 8 a g) (b 9 a g) (b 10 a g) (b 11 a g) (b 12 a g) (b 13 a g) (b 14 a g) (b 15 a g) Q)) 138)))) (gY (M (TX e)) (bG f) 174 (iY (TX e) (TX e))) (aab g)))))) (aj (Ix 0 (sM x)) (0<mG x) (ja (Dv x).1 (az (Ix 0 (sM x)) (0<mG x) (Fits (iX (Dv x).2 3 (aeP m x a))) (Bk (aZ (iX (Dv x).2 3 (aeP m x a))) (∀(b:Nat),aiB b a->(∀(c:Nat),aiD c a->(∃(d:Nat×Pd),cX (Im m x d) (c=d.1) (avD b a d) (gr 2 165 (bJ (λb=>C7 b (eM (iX (Dv x).2 3 (aeP m x a))) ((nr a).D b) (nr a)) (avF b a)) (λb=>(nr a).D b||qO b c)) (Dk d)))) (aqT m x a))) (aY (Fits (iX Q 3 (aeP m x a))) (∀(b:Nat),aiB b a->(∀(c:Nat),aiD c a->(∃(d:Nat×Pd),cX (Im m x d) (c=d.1) (avD b a d) (gr 2 165 (bJ (λb=>C7 b (eM (iX Q 3 (aeP m x a))) ((nr a).D b) (nr a)) (avF b a)) (λb=>(nr a).D b||qO b c)) (Dk d)))) (aqT m x a) (aZ (iX Q 3 (aeP m x a)))))))))))) (λa=>eY 1 (bF (NI a.2.2)) Q 3)) (λa=>λb=>aA (mB m b.1 a x))) (λa=>λb=>λc=>aA (if Z (Dq b)=a then A8 m c else mB m b.1 a x))) (λa=>λb=>aA (mB m b.1 a x))):=⟨by kernel_rfl,by kernel_rfl⟩
section
variable (n m : Nat) (s : h_) (h : Nat × Nat) (f A : Nd) (B D E G K C F : SB) (H : G0 × h_) (x : G0 × Nd × h_) (y o : Nat × Wk × Nat × Nat) (z : Wk) (g : Loop)
abbrev ue:=cD y.2.1
abbrev kW:=y.2.1
abbrev BC:=y.2.2
abbrev ux:=(BC y).2
abbrev qz6:Nat×Wk×Nat×Nat->SB:=λa=>bN (ue a) (bG (ux a)) 50 (jK (kW a).fs (kW a).fs)
abbrev cm:=M z.ns
abbrev uf:=cm y.2.1
abbrev wU:=xW z.ns
abbrev uw:=(BC y).1
abbrev qz8:Nat×Wk×Nat×Nat->SB:=λa=>bN (uf a) (aF (uw a)) 9 [wU (kW a)]
abbrev wR:=x.1.w
abbrev uU:=x.1.s
abbrev arV:List (h_×h_):=[(cC (cat x.2.2 x.2.1.p),x.2.1.v)]
abbrev aq0:=M (if aV (p5 (wR x) x.2.1 x.2.2)then(uU x).fs++arV x else(uU x).fs)
abbrev Qj:=(uU x).fs
abbrev avB:=∃(a:Nat),br (aq0 x) a (aC jZ (Er (wR x).fr) (Er (wR x).to) bA (aT bA (aj bA (Er (cm (uU x))) (Er x.1.c1)) True (bt (eX (uU x)) (rH (uU x).lk)) (fN (M (Qj x)) (aq0 x) x.1.c2 a) True (cv (M (Qj x)) (bG x.1.c2) (kD (Wk.p4 (wR x) (uU x) x.2.1 x.2.2) a) 50 (jK (Qj x) (Qj x))) (Sr B) (aT (Sr D) (Sr E) (Sr (Nb (uU x))) (Sr (mQ (uU x) x.1.c1)) (Sr G) (Sr (eO (wR x).ad (wR x).ag)) (Sr K) (Sr (Sp.view (wR x))) True)))
abbrev aap:List (h_×h_):=if aV (p5 (wR x) x.2.1 x.2.2)then Qj x++arV x else Qj x
abbrev lV:=wR x
abbrev oM:=uU x
abbrev arL:=fF (cm y.2.1) y.2.2.1 (cD y.2.1) y.2.2.2
abbrev iW:=x.2.1
abbrev lH:=NI y.1
abbrev mI:=x.2.2
abbrev xb:=x.1.c1
abbrev ahk:=SV.str J (116::lp (lp (lp (lp (lp (lp (ff 115) 100 101) 110 111) 121 32) 97 110) 32 109) 111 111)
abbrev BH:=x.1.c2
abbrev PY:=aP 16 y.1 16 o.1
abbrev zQ:=eO (lV x).ad (lV x).ag
abbrev aiM:=lX (lV x) (aB n) (oM x) (iW x) (mI x)
abbrev Qo:=nO (lV x) (aB n) (oM x) (iW x) (mI x)
abbrev aat:=∀(a:h_×h_),Bk (aiM n x) (∃(a:Nat×Nat),aD (cm (Qo n x)<=a.1) (cD (Qo n x)<=a.2) False) (∃(b:h_×h_),aj bA (aa (vC a) (vC b)) True)
abbrev pK:=nO (lV x) n (oM x) (iW x) (mI x)
abbrev P7:=nO (lV x) (aB n) (oM x) (iW x) (mI x)
abbrev P8:=aj (y.1<=16) (eE (lV x) (qy (lV x) n) (iW x) (mI x) y.1 (Wk.p4 (lV x) (oM x) (iW x) (mI x))=O (kW y)) (arL y)
abbrev Mj:=eO (kW y).ud (kW y).us
abbrev Mk:=SB.view (lV x).z (lV x).o (lV x).n (bJ (lV x).f Q)
abbrev ot:=(iW x).r n
abbrev aqQ:=l9 (dS (ot 0 x) (ot 1 x) (ot 2 x) (ot 3 x) (ot 4 x) (ot 5 x) (ot 6 x) (ot 7 x) (dS (ot 8 x) (ot 9 x) (ot 10 x) (ot 11 x) (ot 12 x) (ot 13 x) (ot 14 x) (ot 15 x) Q)) (Z (lH y))
abbrev rT:=cD (oM x)
abbrev x8:=eX (kW y)
abbrev aau:=aC ((iQ H).z=(lV x).z) ((iQ H).o=(lV x).o) bA (tr H=(lV x).n) (rL (iQ H) (lV x))
abbrev BQ:=kD (kW y) (BC y).2
abbrev BR:=mQ (kW y) (BC y).1
abbrev ahP:=eY 1 (SV.cT 7 1 (lV x).z (lV x).o 0 (lV x).n (lV x).c) Q 29
abbrev Dz:=cm (oM x)
abbrev aaG:=Sr (Sp.view (lV x))/\True
abbrev DA:=(oM x).lk
abbrev BT:=Z (lH y)
abbrev qS:=(lV x).fr
abbrev qT:=(lV x).to
abbrev Mr:=cat (mI x) (iW x).p
abbrev ail:=dU (lH y) (lH y<16) (lH y<NI 16)
abbrev Ui:=aj (nQ g) (Sr B) (aT (Sr D) (Sr E) (Sr G) (Sr K) (Sr E) (Sr C) (Sr (zQ x)) (Sr F) (aaG x))
abbrev arB:=cI (Sp.Ok (lV x)) (Wk.Small (oM x)) (fF (Dz x) (xb x) (rT x) (BH x)) (Wk.Fit (oM x) (aB (DA x))) (401<=DA x+n) (Nd.xJ (iW x)) (fk (13*DA x) (mI x))
abbrev ov:=jg n z.fs
abbrev arD:=bN (cD (pK n x)) (bG h.2) 50 (gD (λa=>(ov a (pK n x)).1) (λa=>(ov a (pK n x)).2))
abbrev FT:=NI (DA x)
abbrev dm:=f.r n=(iW x).r m
abbrev gd:=fk 1000 s
abbrev lT:=aU n z.ns
abbrev qx:=f.k=A.k
end
theorem ab6 (m:Nat)(x:G0×Nd×h_):VC.holds (runM (anD m x.1 x.2.1 x.2.2) 84 a! (abQ (m+1)) x)=((fun(a:SB)=>(fun(b:SB)=>(fun(c:SB)=>(fun(d:SB)=>(fun(e:SB)=>(fun(f:G0×h_->Nd)=>(fun(g:SB)=>(fun(h:SB)=>(fun(i:SB)=>(fun(j:Nat×Wk×Nat×Nat->SB)=>(fun(k:Nat×Wk×Nat×Nat->SB)=>dM 400 (FT x) (Bk (aiM m x) (∃(a:Nat×Nat),hJ (fF (cm (Qo m x)) a.1 (cD (Qo m x)) a.2)) (∃(a:h_×h_),aj bA (bH 2 (vC a) (eC ahk fu) 207) True)) (aj (dD (FT x)) (cE (fQ (bx (mI x)+bx (iW x).p)) (aD (gd (qS x)) (gd (qT x)) (Bk (hasB (qS x) (qT x) (Mr x)) (aY (bS (Mr x)) (cK (gG i) (gG b) (gG b) (gL (rT x) (rT x) 2 (rT x) 32 (rT x)) (Er (bG (BH x))) (∀(d:Nat),cN (aB (rT x)) d (gG b) (∃(f:Nat),aC (M (aap x)<=f) jZ (Er (qS x)) (Er (qT x)) (aT bA bA (aj bA (Er (Dz x)) (Er (xb x))) True (bt (FT x) (rH (DA x))) (fN (aB (rT x)) (M (aap x)) d f) True (cv (aB (rT x)) (bG d) (kD (Wk.p4 (lV x) (oM x) (iW x) (mI x)) f) 50 (gD (λa=>dg a (rT x) a (rT x) (ov a (oM x)).1 (cC (Mr x))) (λa=>dg a (rT x) a (rT x) (ov a (oM x)).2 (iW x).v))) (aT (Sr e) (Sr c) (Sr b) (Sr (Nb (oM x))) (Sr (mQ (oM x) (xb x))) (Sr h) (Sr (zQ x)) (Sr a) (aaG x)))))) (avB e c b h a x) (oZ (Mr x))) (avB e c b h a x))) (avB e c b h a x) (V ((iW x).v=[]))) (∀(i:Nat),aJ (M (aap x)) i (∀(l:Loop),(∃(f:Nat×Wk×Nat×Nat),az (P8 m x f) (0=lH f) jZ (aC (Er (qS x)) (Er (qT x)) bA bA (aT (fN (Dz x) (uf f) (xb x) (uw f)) True (rH (DA x)=x8 f) (fN (M (aap x)) (ue f) i (ux f)) True (gy (eO (oM x).ud (oM x).us) (kW f)) (cv (Dz x) (aF (xb x)) (BR f) 9 [wU (oM x)]) (cv (M (aap x)) (bG i) (BQ f) 50 (jK (aap x) (aap x))) (Ui g d b e c h a x l))))/\(∀(i:Nat×Wk×Nat×Nat),P8 m x i->aM (lH i) 16 (ail i/\ja (aqQ x i) (jk (lH i) (∃(f:Nat×Wk×Nat×Nat),cM (P8 m x f) (PY f i) (bt (lH i) (lH f)) jZ (aC (Er (qS x)) (Er (qT x)) bA bA (aT (fN (uf i) (uf f) (uw i) (uw f)) True (x8 i=x8 f) (fN (ue i) (ue f) (ux i) (ux f)) True (gy (Mj i) (kW f)) (aa (k i) (BR f)) (aa (j i) (BQ f)) (Ui g d b e c h a x l))))) (aj (fQ (bx (mI x)+bx (iW x).p)) (k8 3 (lq 1 (Mr x)/\(∃(_:Unit),cI True (cat (Mr x) (fq (lH i))=ki (iW x) (mI x) (BT i)) (Sr (amc (lV x) (kW i) 16 17 (uw i) (ux i))) (Sr (Nb (kW i))) (Sr (BR i)) (Sr (BQ i)) (Ui g d b e c h a x l))) (∃(_:Unit),cI True (Mr x=ki (iW x) (mI x) (BT i)) (Sr (amc (lV x) (kW i) 16 17 (uw i) (ux i))) (Sr (Nb (kW i))) (Sr (BR i)) (Sr (BQ i)) (Ui g d b e c h a x l)) (iW x)) (∀(_:Unit),True->aD (gd (qS x)) (gd (qT x)) (Bk (dj (qS x) (qT x) (ki (iW x) (mI x) (BT i))) (Er l/\(∃(n:G0×h_),cK (az (Sp.Ok (iQ n)) (Wk.Small (jn n)) (fF (mM n) (uj n) (oJ n) (x6 n)) (cW n.2)) bA (aqQ x i=n.2) jZ (qS x=rW n) (aT (qT x=rX n) bA bA (fN (uf i) (mM n) (uw i) (uj n)) True (x8 i=rV n) (fN (ue i) (oJ n) (ux i) (x6 n)) True (aT (gy (Mj i) (jn n)) (gu (uj n) (k i) (jn n)) (gz (x6 n) (j i) (jn n)) kL (aa (zQ x) (sL n)) kL (aC ((lV x).z=(iQ n).z) ((lV x).o=(iQ n).o) bA ((lV x).n=tr n) (rL (lV x) (iQ n))) (aa (Mk x) (Qd n)) (Bk (cS n.2) (∀(f:Nat×Nat),Qr f n->(∃(j:G0×Nd×h_),aT (arB m j) bA (qx (nt n) (iW j)) ((nt n).p=(iW j).p) ((nt n).v=(iW j).v) (dm 0 0 (nt n) j) (dm 1 1 (nt n) j) (dm 2 2 (nt n) j) (aT (dm 3 3 (nt n) j) (dm 4 4 (nt n) j) (dm 5 5 (nt n) j) (dm 6 6 (nt n) j) (dm 7 7 (nt n) j) (dm 8 8 (nt n) j) (dm 9 9 (nt n) j) (dm 10 10 (nt n) j) (aT (dm 11 11 (nt n) j) (dm 12 12 (nt n) j) (dm 13 13 (nt n) j) (dm 14 14 (nt n) j) (dm 15 15 (nt n) j) (ki (iW x) (mI x) (BT i)=mI j) jZ (rW n=qS j) (aT (rX n=qT j) bA bA (fN (mM n) (Dz j) f.1 (xb j)) True (rV n=FT j) (fN (oJ n) (rT j) f.2 (BH j)) True (aT (gy (aaM n) (oM j)) (eZ (mM n) (aF f.1) (λa=>aU a (jn n).ns) (mQ (oM j) (xb j)) 9) (gz (BH j) (Mx f n) (oM j)) kL (aa (sL n) (zQ j)) kL (aau n j) (aa (Mk x) (Mk j)) (Bk (lX (lV j) m (oM j) (iW j) (mI j)) (∀(f:Nat×Nat),fF (cm (pK m j)) f.1 (cD (pK m j)) f.2->jk (lH i) (∃(k:Nat×Wk×Nat×Nat),aD (P8 m x k) (PY k i) (aT (bt (lH i) (lH k)) jZ (qS j=qS x) (qT j=qT x) bA bA (fN (cm (pK m j)) (uf k) f.1 (uw k)) True (aT (eX (pK m j)=x8 k) (fN (cD (pK m j)) (ue k) f.2 (ux k)) True (gy (eO (pK m j).ud (pK m j).us) (kW k)) (aa (cY (cm (pK m j)) (aF f.1) (λa=>lT a (pK m j)) 9) (BR k)) (aa (arD m f j) (BQ k)) (nQ l) (Sr g) (aT (Sr d) (Sr b) (Sr e) (Sr c) (Sr b) (Sr h) (aa (zQ j) (zQ x)) (aa (ahP j) a) (aaG x)))))) (aat m x)))))))) (Bk (cH n.2) (jY (ug n) (∀(j:Nat×Nat),Qn j n->(∃(k:G0×Nd×h_),aT (arB m k) bA (qx (f n) (iW k)) ((f n).p=(iW k).p) ((f n).v=(iW k).v) (dm 0 0 (f n) k) (dm 1 1 (f n) k) (dm 2 2 (f n) k) (aT (dm 3 3 (f n) k) (dm 4 4 (f n) k) (dm 5 5 (f n) k) (dm 6 6 (f n) k) (dm 7 7 (f n) k) (dm 8 8 (f n) k) (dm 9 9 (f n) k) (dm 10 10 (f n) k) (aT (dm 11 11 (f n) k) (dm 12 12 (f n) k) (dm 13 13 (f n) k) (dm 14 14 (f n) k) (dm 15 15 (f n) k) (ki (iW x) (mI x) (BT i)=mI k) jZ (rW n=qS k) (aT (rX n=qT k) bA bA (fN (M (Mf n)) (Dz k) j.1 (xb k)) True (rV n=FT k) (fN (oJ n) (rT k) j.2 (BH k)) True (aT (gy (eO (kQ (jn n).ud (ug n)) (qh (jn n).us (ug n) (Wk.used (jn n) (ug n)+1))) (oM k)) (eZ (M (Mf n)) (aF j.1) (λa=>aU a (Mf n)) (mQ (oM k) (xb k)) 9) (gz (BH k) (Mx j n) (oM k)) kL (aa (sL n) (zQ k)) kL (aau n k) (aa (Mk x) (Mk k)) (Bk (lX (lV k) m (oM k) (iW k) (mI k)) (∀(f:Nat×Nat),fF (cm (pK m k)) f.1 (cD (pK m k)) f.2->jk (lH i) (∃(j:Nat×Wk×Nat×Nat),aD (P8 m x j) (PY j i) (aT (bt (lH i) (lH j)) jZ (qS k=qS x) (qT k=qT x) bA bA (fN (cm (pK m k)) (uf j) f.1 (uw j)) True (aT (eX (pK m k)=x8 j) (fN (cD (pK m k)) (ue j) f.2 (ux j)) True (gy (eO (pK m k).ud (pK m k).us) (kW j)) (aa (cY (cm (pK m k)) (aF f.1) (λa=>lT a (pK m k)) 9) (BR j)) (aa (arD m f k) (BQ j)) (nQ l) (Sr g) (aT (Sr d) (Sr b) (Sr e) (Sr c) (Sr b) (Sr h) (aa (zQ k) (zQ x)) (aa (ahP k) a) (aaG x)))))) (aat m x)))))))) (aat m x) (iQ n)) (aat m x))))))) (jk (lH i) (∃(f:Nat×Wk×Nat×Nat),cM (P8 m x f) (PY f i) (bt (lH i) (lH f)) jZ (aC (Er (qS x)) (Er (qT x)) bA bA (aT (fN (uf i) (uf f) (uw i) (uw f)) True (x8 i=x8 f) (fN (ue i) (ue f) (ux i) (ux f)) True (gy (Mj i) (kW f)) (aa (k i) (BR f)) (aa (j i) (BQ f)) (Ui g d b e c h a x l))))))))) (Bk (aiM m x) (∃(b:Nat×Nat),aT (fF (cm (Qo m x)) b.1 (cD (Qo m x)) b.2) jZ (Er (qS x)) (Er (qT x)) bA bA (fN (uf i) (cm (P7 m x)) (uw i) b.1) True (aT (x8 i=eX (P7 m x)) (fN (ue i) (cD (P7 m x)) (ux i) b.2) True (gy (Mj i) (P7 m x)) (gu b.1 (k i) (P7 m x)) (gz b.2 (j i) (P7 m x)) (Sr h) (Sr (zQ x)) (wX a))) (Exists C2))))))) qz8) qz6) (SB.cells (pT 5 (bF (FT x+1)) (aA (qS x)::aA (qT x)::SV.func (Fn.func 50) Q (eC (rK 4 0) (rK 6 0))::fz (SV.map 1) (dh 2 1 (Dz x) (xb x)) (bF (FT x)) (dh 3 2 (rT x) (BH x)) Q)) 7 92)) Iq) (gW 1 (aA (mI x)) 9)) (λa=>mD (ug a) (iQ a))) (gW 1 SV.cj 84)) (gW 19 (SV.agg (kq (iW x))) 138)) (gW 19 (Nd.sv (iW x)) 138)) (gW 1 (rK 0 0) 82)) (ahP x)):=by kernel_rfl
theorem Ai (w:Sp)(s:Wk)(h t:h_):(s.take w h).used t=if t=h then s.used h+1 else s.used t:=by
 show dflt (s.ud t||decide (t=h)) (bif V (t=h)then s.used h+1 else s.us t)=_
 by_cases e:t=h
 ·rw[o_ e,k_ e,Bool.or_true];rfl
 ·rw[p_ e,l_ e,Bool.or_false];rfl
theorem Wk.Fit.mono {j k:Nat}(h:s.Fit j)(hk:j<=k):s.Fit k:=⟨λt=>by have:=h.u t;omega,by have:=h.ns;omega,h.fs,h.lk⟩
theorem Wk.Fit.small {k:Nat}(h:s.Fit k)(hk:k<=1000):s.Small:=⟨λt=>by have:=h.u t;omega,by have:=h.ns;omega,by have:=h.lk;omega,by have:=h.fs;have:=h.lk;omega⟩
theorem Wk.Fit.take {k:Nat}(h:s.Fit k)(w:Sp)(t:h_):(s.take w t).Fit (k+1):=by
 refine⟨λr=> ?_,?_,h.fs,h.lk⟩
 ·rw[Ai];have h1:=h.u r;have h2:=h.u t;split<;>omega
 ·have:=h.ns;show(if s.used t=0 then s.ns++[w.at t] else s.ns).length<=_
  split
  ·rw[an];simp;omega
  ·omega
theorem Wk.Fit.p4 (h:s.Fit (s.lk+1))(hl:s.lk<400)(w:Sp)(x:Nd)(p:h_):(s.p4 w x p).Fit (s.p4 w x p).lk:=by
 refine⟨h.u,h.ns,?_,hl⟩;have:=h.fs;show(if p5 w x p=J then s.fs++[(cC (cat p x.p),x.v)] else s.fs).length<=s.lk+1
 split
 ·rw[an];simp;omega
 ·omega
theorem K4 {w:Sp}{s':Wk}{y:Nd}{k:Nat}(h:s.Fit k)(hf:pM w s t=O (y,s')):s'.Fit (k+1)/\s'.lk=s.lk/\aZ y=true:=by
 unfold pM at hf;split at hf
 ·rename_i hi;cases hf;exact⟨h.mono (Nat.le_succ _),rfl,SJ hi⟩
 ·split at hf
  ·rename_i hi;cases hf;simp only[gF,Bool.and_eq_true] at hi;exact⟨h.take w _,rfl,sW hi.2.2⟩
  ·cases hf
def amk (_w:Sp)(T:Wk->Nd->h_->Option Wk):Prop:=∀ s x p s',s.Fit (s.lk+1)->T s x p=O s'->s'.Fit s'.lk/\s.lk<s'.lk
theorem xm {w:Sp}{T:Wk->Nd->h_->Option Wk}(hT:amk w T){x:Nd}{p:h_}: ∀ {i:Nat} {s s':Wk},s.Fit s.lk->eE w T x p i s=O s'->s'.Fit s'.lk/\s.lk<=s'.lk
 | 0,s,s',h,e=>by cases e;exact⟨h,dr _⟩
 | i+1,s,s',h,e=>by
   unfold eE at e;split at e
   ·cases e
   ·rename_i s1 h1;obtain⟨g1,g2⟩:=xm hT h h1;unfold lK at e;split at e
    ·cases e;exact⟨g1,g2⟩
    ·cases hm:dj w.fr w.to (ki x p i)with
     | false =>rw[hm] at e;cases e;exact⟨g1,g2⟩
     | true =>
       rw[hm] at e;simp only[cond_true] at e;split at e
       ·cases e
       ·rename_i y s2 hf;obtain⟨q1,q2,_⟩:=K4 g1 hf;obtain⟨r1,r2⟩:=hT s2 y _ s' (by rw[q2];exact q1) e;exact⟨r1,by omega⟩
theorem ES (w:Sp): ∀ m,amk w (qy w m)
 | 0=>λs x p s' _ e=>by cases e
 | m+1=>λs x p s' h e=>by
   unfold qy at e;split at e
   ·cases e
   ·rename_i hl;obtain⟨g1,g2⟩:=xm (ES w m) (h.p4 (by omega) w x p) e;have:(s.p4 w x p).lk=s.lk+1:=rfl;exact⟨g1,by omega⟩
theorem ye {w:Sp}{T:Wk->Nd->h_->Option Wk}{x:Nd}{p:h_}{s:Wk}: ∀ {j i:Nat},i<=j->eE w T x p i s=W->eE w T x p j s=W
 | 0,i,hj,e=>by
   have:i=0:=by omega
   subst this;exact e
 | j+1,i,hj,e=>by
   by_cases h:i=j+1
   ·subst h;exact e
   ·unfold eE;rw[ye (by omega:i<=j) e]
section
variable {w : Sp} {T : Wk-> Nd-> h_-> Option Wk} {x : Nd} {p : h_} {s s' : Wk} {i : Nat}
theorem gP (h:eE w T x p i s=O s'):eE w T x p (i+1) s=lK w T x p i s':=by rw[eE,h]
theorem qg (h:x.r i=[]):lK w T x p i s=O s:=by rw[lK,o_ h]
theorem yd (h:dj w.fr w.to (ki x p i)=I):lK w T x p i s=O s:=by rw[lK,h];split<;>rfl
theorem A9 (h: ¬ x.r i=[])(hm:dj w.fr w.to (ki x p i)=J)(hf:pM w s (x.r i)=W):lK w T x p i s=none:=by rw[lK,p_ h,hm,hf];rfl
theorem oP (h: ¬ x.r i=[])(hm:dj w.fr w.to (ki x p i)=J){y:Nd}(hf:pM w s (x.r i)=O (y,s')):lK w T x p i s=T s' y (ki x p i):=by rw[lK,p_ h,hm,hf];rfl
theorem Jh (h:cS t=J):pM w s t=O (getD t,s):=by rw[pM,o_ h]
theorem Be (h:cS t=I)(h1:cH t=J)(h2:gF w (af t)=J):pM w s t=O (getD (w.at (af t)),s.take w (af t)):=by rw[pM,p_ (by rw[h];simp),o_ (by rw[h1,h2];rfl)]
theorem QZ (h:cS t=I)(h1:cH t=I∨gF w (af t)=I):pM w s t=none:=by rw[pM,p_ (by rw[h];simp),p_ (by rcases h1 with h1 | h1<;>rw[h1]<;>simp)]
end
theorem ajd {x:Nd}(h:x.xJ)(p:h_)(i:Nat):(ki x p i).length<=p.length+13:=by have:=h.p;unfold ki cat;split<;>simp<;>omega
theorem VH {l:List (h_×h_)}{k v:h_}:aa (.rows J (l.length+1) [.str λj=>if j<l.length then(l.getD j ([],[])).1 else l9 [k] (j-l.length),.str λj=>if j<l.length then(l.getD j ([],[])).2 else l9 [v] (j-l.length)] I (c*2) ty) (.rows J (l++[(k,v)]).length [nj (l++[(k,v)]),nk (l++[(k,v)])] I (c*2) ty):=by
 refine tM (by simp) rfl rfl λq c c' h1 h2 i hi E=> ?_;have e:=DR l (k,v) ([],[]) i hi;have hz: ¬ i<l.length->i-l.length=0:=by omega
 match q,h1,h2 with
 | 0,h1,h2 =>
   simp only[c7,Option.some.injEq] at h1 h2;subst h1;subst h2;simp only[nj,bh.at,SV.val,e];by_cases h:i<l.length
   ·rw[o_ h,o_ h]
   ·rw[p_ h,p_ h,hz h];rfl
 | 1,h1,h2 =>
   simp only[List.getElem?_cons_succ,c7,Option.some.injEq] at h1 h2;subst h1;subst h2;simp only[nk,bh.at,SV.val,e];by_cases h:i<l.length
   ·rw[o_ h,o_ h]
   ·rw[p_ h,p_ h,hz h];rfl
 | q+2,h1,h2=>simp at h1
section
variable {w : Sp} {m : Nat} {s s' : Wk} {x : Nd} {p : h_}
theorem Xi (hl: ¬ 400<=s.lk)(h:eE w (qy w m) x p 16 (s.p4 w x p)=O s'):lX w (m+1) s x p=J/\nO w (m+1) s x p=s':=by
 have:qy w (m+1) s x p=O s':=by rw[qy,p_ hl,h]
 exact⟨by rw[lX,this];rfl,by rw[nO,this]⟩
theorem Xh (hl: ¬ 400<=s.lk)(h:eE w (qy w m) x p 16 (s.p4 w x p)=W):lX w (m+1) s x p=false:=by rw[lX,qy,p_ hl,h];rfl
theorem Jq (h:lX w m s x p=J):qy w m s x p=O (nO w m s x p):=by
 unfold lX at h;unfold nO;cases hx:qy w m s x p with
 | none=>rw[hx] at h;cases h
 | some s'=>rfl
theorem Af (h:lX w m s x p=I):qy w m s x p=none:=by
 unfold lX at h;cases hx:qy w m s x p with
 | none=>rfl
 | some s'=>rw[hx] at h;cases h
theorem Yv {a b:h_}:aa (SB.cells [SV.str J a,SV.str J b] 2 ty) (SB.cells [SV.str I (a,b).1,SV.str I (a,b).2] 2 ty):=aa.cells (λ_=>rfl) rfl
theorem Yu {a b:h_}:aa (SB.cells [SV.str I a,SV.str I b] 2 ty) (SB.cells [SV.str I (a,b).1,SV.str I (a,b).2] 2 ty):=aa.refl _
theorem asH (h:x.k=3)(i:Nat)(hi:i<16):cat (cat p x.p) [UInt8.ofNat ((i:Int)%256).toNat]=ki x p i:=by rw[ki,o_ h,show((i:Int)%256).toNat=i by omega]
end
section
attribute [local irreducible] bM getD cS cH af gF dj hasB oZ ak cC ki qy lX nO eE Wk.used
set_option maxHeartbeats 4000000 in
theorem RS {x:G0×Nd×h_}(hx:(abQ (m+1)).pre x):au (runM (anD m x.1 x.2.1 x.2.2) 84 a! (abQ (m+1)) x):=by
 refine au.j7 (ab6 m x) (by delta Fk Bk I6 Sr Er NI fu dQ fM aM aJ fq aF bx eC bF rK aj bH aC fQ az bE dK dM dD cM bt jk aA dU eY ja fz dy cW aY aD aX nQ bN bJ cY aB gW b8 gZ dh cv bA aV br cI nG fN cK eZ dg kL fF aP cN aT ff bS cE dS dB gG fk pT aU lq hJ k8 gL rH C2 jn vC iQ Iq x6 uj lp cD oJ eO sL tr eX rV gy rW rX mM jK bG mD gz gu jY jZ wX ug nt Mf Qd aaM gD jg Mx Qn Qr rL ue kW BC ux qz6 cm uf wU uw qz8 wR uU arV aq0 Qj avB aap lV oM arL iW lH mI xb ahk BH PY zQ aiM Qo aat pK P7 P8 Mj Mk ot aqQ rT x8 aau BQ BR ahP Dz aaG DA BT qS qT Mr ail Ui arB ov arD FT dm gd lT qx;exact rfl) ?_;obtain⟨⟨w,s,c1,c2⟩,y,p⟩:=x;obtain⟨hw,_,⟨hc1,hc2⟩,hf,hm,hy,hp⟩:=hx;dsimp only at hw hc1 hc2 hf hm hy hp ⊢;have hm:401<=s.lk+(m+1):=hm;have hyp:=hy.p;have hcat:(cat p y.p).length=p.length+y.p.length:=by unfold cat;simp
 have hlk:=hf.lk;have hfs:=hf.fs;have hns:=hf.ns;by_cases hl:400<=s.lk
 ·have hB:lX w (m+1) s y p=false:=by unfold lX qy;rw[o_ hl];rfl
  rw[hB,k_ (show(400:Int)<=(s.lk:Int)by omega)];exact⟨λ_=>⟨(λh=>by cases h),λ_=>⟨(_,_),rfl,Yv,trivial⟩⟩,(λh=>by cases h)⟩
 refine⟨λh=>absurd (i_ h) (by omega),λ_=>⟨⟨by omega,by omega⟩,⟨by omega,?_⟩,?_⟩⟩
 ·
  have no:p5 w y p=I->(s.p4 w y p).fs=s.fs:=λh=>by show(if p5 w y p=J then _ else _)=_;rw[h];rfl
  have yes:p5 w y p=J->(s.p4 w y p).fs=s.fs++[(cC (cat p y.p),y.v)]:=λh=>by show(if p5 w y p=J then _ else _)=_;rw[h];rfl
  have eb:p5 w y p=(!decide (y.v=[])&&(hasB w.fr w.to (cat p y.p)&&oZ (cat p y.p))):=rfl;have le0:p5 w y p=I->aa (SB.rows J s.fs.length [nj s.fs,nk s.fs] I (c2*2) 50) (kD (s.p4 w y p) c2):=λh=>by unfold kD;rw[no h];exact aa.refl _
  have le1:p5 w y p=J->∀ c,aa (SB.rows J (s.fs.length+1) [.str λj=>if j<s.fs.length then(s.fs.getD j ([],[])).1 else l9 [cC (cat p y.p)] (j-s.fs.length),.str λj=>if j<s.fs.length then(s.fs.getD j ([],[])).2 else l9 [y.v] (j-s.fs.length)] I (c*2) 50) (kD (s.p4 w y p) c):=λh c=>by unfold kD;rw[yes h];exact VH
  have wfr:=hw.fr;have wto:=hw.to;refine⟨λhv=>⟨⟨wfr,wto⟩,λhh=>⟨by omega,λhk=> ?_,λhk=> ?_⟩,λhh=> ?_⟩,λhv=> ?_⟩
  ·rw[hv,hh,hk] at eb;have l1:=le1 eb;refine⟨rfl,rfl,rfl,⟨⟨by omega,trivial,by omega,by omega⟩,rfl,λc hc=>⟨rfl,⟨c,?_⟩⟩⟩⟩;rw[o_ (show p5 w y p=J from eb),an]
   have l1:=l1 c
   repeat' first
    | exact l1
    | exact aa.refl _
    | refine X ?_ ?_
    | rfl
    | assumption
    | omega
    | exact trivial
    | fail
  all_goals
   first
    | rw[hv,hh,hk] at eb
    | rw[hv,hh] at eb
    | rw[hv] at eb
   have l0:=le0 (eb.trans (by first | rfl | simp))
   have e0:p5 w y p=false:=eb.trans (by first | rfl | simp)
   refine⟨c2,?_⟩;rw[e0];simp only[Bool.false_eq_true,if_false]
   repeat' first
    | exact l0
    | exact aa.refl _
    | refine X ?_ ?_
    | rfl
    | assumption
    | omega
    | exact trivial
    | fail
 ·intro c2' hc2' R;refine⟨⟨(0,s.p4 w y p,c1,c2'),⟨⟨bn _,by unfold eE;rfl,hc1,hc2'⟩,?_⟩⟩,λz hz=> ?_⟩
  ·repeat' first
    | exact aa.refl _
    | refine X ?_ ?_
    | rfl
    | assumption
    | omega
    | exact trivial
    | fail
  obtain⟨i,si,d1,d2⟩:=z;obtain⟨hi16,hi,hd1,hd2⟩:=hz;dsimp only at hi16 hi hd1 hd2 ⊢;obtain⟨fi,hlki⟩:=xm (ES w m) (hf.p4 (by omega) w y p) hi;have hlki:s.lk+1<=si.lk:=hlki;have fil:=fi.lk;simp only[-eq_self,b!];refine⟨λhlt=> ?_,λhlt=> ?_⟩
  ·have hlt:i<16:=by have:=i_ hlt;omega
   simp only[-eq_self,B5 y.r hlt];have bad:eE w (qy w m) y p (i+1) (s.p4 w y p)=W->∀(a b:h_),(lX w (m+1) s y p=J->∃(q:Nat×Nat),((nO w (m+1) s y p).ns.length<=q.1/\(nO w (m+1) s y p).fs.length<=q.2)/\False)/\(lX w (m+1) s y p=I->∃(q:h_×h_),(0:Nat)=0/\aa (SB.cells [SV.str I a,SV.str I b] 2 207) (SB.cells [SV.str I q.1,SV.str I q.2] 2 207)/\True):=λh a b=>by have hB:=Xh hl (ye (by omega:i+1<=16) h);rw[hB];exact⟨(λh=>by cases h),λ_=>⟨(a,b),rfl,Yu,trivial⟩⟩
   refine⟨⟨by omega,by omega,by omega⟩,λh0=>⟨⟨by omega,by omega⟩,(i+1,si,d1,d2),⟨⟨⟨by show i+1<=16;omega,(gP hi).trans (qg (i_ h0)),hd1,hd2⟩,by show 16-(i+1)<16-i;omega⟩,?_⟩⟩,λh0=> ?_⟩
   ·repeat' first
     | exact aa.refl _
     | refine X ?_ ?_
     | rfl
     | assumption
     | omega
     | exact trivial
     | fail
   have h0:=j_ h0;have htl:=ajd hy p i;refine⟨by omega,⟨λh3=>⟨by omega,(),trivial,asH (i_ h3) i hlt,?_⟩,λh3=>⟨(),trivial,by unfold ki;rw[p_ (j_ h3)],?_⟩⟩,λ_ _=>⟨⟨hw.fr,hw.to⟩,λhM=>⟨rfl,?_⟩,λhM=>⟨⟨by omega,by omega⟩,(i+1,si,d1,d2),⟨⟨⟨by show i+1<=16;omega,(gP hi).trans (yd hM),hd1,hd2⟩,by show 16-(i+1)<16-i;omega⟩,?_⟩⟩⟩⟩
   ·repeat' first
     | exact aa.refl _
     | refine X ?_ ?_
     | rfl
     | assumption
     | omega
     | exact trivial
     | fail
   ·repeat' first
     | exact aa.refl _
     | refine X ?_ ?_
     | rfl
     | assumption
     | omega
     | exact trivial
     | fail
   rotate_left
   ·repeat' first
     | exact aa.refl _
     | refine X ?_ ?_
     | rfl
     | assumption
     | omega
     | exact trivial
     | fail
   have hrl:(y.r i).length<9223372036854775808:=by
    rcases hy.r i hlt with e | e
    ·exact absurd e h0
    ·have:=AO e;omega
   have go: ∀ {yy:Nd} {s2:Wk},pM w si (y.r i)=O (yy,s2)->s2.Fit (s2.lk+1)/\(401<=s2.lk+m)/\yy.xJ/\(ki y p i).length<=13*s2.lk/\s2.Small:=λh=>by obtain⟨q1,q2,q3⟩:=K4 fi h;exact⟨by rw[q2];exact q1,by omega,kj q3,by omega,q1.small (by omega)⟩
   have on: ∀ {yy:Nd} {s2:Wk},pM w si (y.r i)=O (yy,s2)->lX w m s2 yy (ki y p i)=J->eE w (qy w m) y p (i+1) (s.p4 w y p)=O (nO w m s2 yy (ki y p i)):=λh hb=>by rw[gP hi,oP h0 hM h,Jq hb]
   have off: ∀ {yy:Nd} {s2:Wk},pM w si (y.r i)=O (yy,s2)->lX w m s2 yy (ki y p i)=I->eE w (qy w m) y p (i+1) (s.p4 w y p)=none:=λh hb=>by rw[gP hi,oP h0 hM h,Af hb]
   refine⟨(⟨w,si,d1,d2⟩,y.r i),⟨hw,fi.small (by omega),⟨hd1,hd2⟩,hrl⟩,?_⟩;dsimp only;have inn:cS (y.r i)=J->pM w si (y.r i)=O (getD (y.r i),si):=Jh;have inh:cS (y.r i)=I->cH (y.r i)=J->gF w (af (y.r i))=J->pM w si (y.r i)=O (getD (w.at (af (y.r i))),si.take w (af (y.r i))):=Be;have inb:cS (y.r i)=I->(cH (y.r i)=I∨gF w (af (y.r i))=I)->eE w (qy w m) y p (i+1) (s.p4 w y p)=none:=λh1 h2=>by rw[gP hi,A9 h0 hM (QZ h1 h2)]
   have hsuc:i+1<=16:=by omega
   have hmea:16-(i+1)<16-i:=by omega
   refine⟨rfl,rfl,rfl,rfl,rfl,rfl,rfl,⟨rfl,rfl,rfl⟩,trivial,rfl,⟨rfl,rfl,rfl⟩,trivial,aa.refl _,aa.refl _,aa.refl _,rfl,aa.refl _,rfl,⟨rfl,rfl,rfl,rfl,rfl⟩,aa.refl _,λh1 e he=> ?_,λh1=>⟨λh2=>⟨λh3 e he=> ?_,λh3 yy=>bad (inb h1 (.inr h3)) _ _⟩,λh2 yy=>bad (inb h1 (.inl h2)) _ _⟩⟩
   ·have hfol:=inn h1;obtain⟨g1,g2,g3,g4,g5⟩:=go hfol;refine⟨(⟨w,si,e.1,e.2⟩,getD (y.r i),ki y p i),⟨hw,g5,he,g1,g2,g3,g4⟩,?_⟩;dsimp only;have on:=on hfol;have off:=off hfol
    repeat' first
     | exact λhb yy=>bad (off hb) _ _
     | refine λhb q hq=>⟨⟨by omega,by omega⟩,(i+1,nO w m si (getD (y.r i)) (ki y p i),q.1,q.2),⟨⟨hsuc,on hb,hq.1,hq.2⟩,hmea⟩,?_⟩
     | exact aa.refl _
     | refine X ?_ ?_
     | rfl
     | assumption
     | omega
     | exact trivial
     | fail
   ·have hfol:=inh h1 h2 h3;obtain⟨g1,g2,g3,g4,g5⟩:=go hfol;refine⟨(⟨w,si.take w (af (y.r i)),e.1,e.2⟩,getD (w.at (af (y.r i))),ki y p i),⟨hw,g5,he,g1,g2,g3,g4⟩,?_⟩;dsimp only;have on:=on hfol;have off:=off hfol
    repeat' first
     | exact λhb yy=>bad (off hb) _ _
     | refine λhb q hq=>⟨⟨by omega,by omega⟩,(i+1,nO w m (si.take w (af (y.r i))) (getD (w.at (af (y.r i)))) (ki y p i),q.1,q.2),⟨⟨hsuc,on hb,hq.1,hq.2⟩,hmea⟩,?_⟩
     | exact aa.refl _
     | refine X ?_ ?_
     | rfl
     | assumption
     | omega
     | exact trivial
     | fail
  ·have e16:i=16:=by have:=j_ hlt;omega
   subst e16;obtain⟨k1,k2⟩:=Xi hl hi;rw[k1,k2];refine⟨λ_=>⟨(d1,d2),⟨hd1,hd2⟩,?_⟩,(λh=>by cases h)⟩
   repeat' first
    | exact aa.refl _
    | refine X ?_ ?_
    | rfl
    | assumption
    | omega
    | exact trivial
    | fail
end
end
section
open Go Sx
set_option maxRecDepth 20000
theorem S8 (h:aq S 84 (dI (abQ m))):aR S (λf=>av f (V9 m)):=.cons h (de _) (.cons abx (de _) Kx)
theorem ajb: ∀ m,aq S 84 (dI (abQ m))
 | 0=>jT (n:=20) (fn:=a!) cL (by kernel_rfl) (by kernel_rfl) (abQ 0) λx hx=>by obtain⟨_,_,_,hf,hm,_⟩:=hx;have:=hf.lk;omega
 | m+1=>jT (n:=20) (fn:=a!) cL (by kernel_rfl) (by kernel_rfl) (abQ (m+1)) λx hx=>⟨anD m x.1 x.2.1 x.2.2,.of bI (S8 (ajb m)) aO,rfl,RS hx⟩
theorem akr (m:Nat):aR S (λf=>av f (V9 m)):=S8 (ajb m)
def numOf (n:Int):h_:=aS (digits n)
structure MV (n:Nat)(t:Nat->Bool)(i:Nat):Prop where
 le:i<=n
 all: ∀ j,j<i->t j=J
noncomputable def G3 (tmp:Nat)(n:Nat)(t:Nat->Bool):aN :={α:=Nat,pre:=λ_ i=>MV n t i,nF:=λ_ i=>n-i,fresh:=0,slots:=λ_ i=>[(tmp,.int .i64 I i)],mem:=λ_ _=>[]}
structure aCA (n:Nat)(x:Nat×Nat):Prop where
 le:x.1<=n
 cap:x.1<=x.2
theorem D0 {t:Nat->Bool}(h:MV n t i)(hi: ¬ (i:Int)<(n:Int)):(a_ n).all t=true:=by rw[List.all_eq_true];intro j hj;have:=c!.1 hj;exact h.all j (by omega)
theorem EV {t:Nat->Bool}(hi:(i:Int)<(n:Int))(ht:t i=I):(a_ n).all t=false:=by rw[List.all_eq_false];exact⟨i,c!.2 (by omega),by rw[ht];decide⟩
theorem Ah {t:Nat->Bool}(h:MV n t i)(hi:(i:Int)<(n:Int))(ht:t i=J):MV n t (i+1):=⟨by omega,λj hj=>by
 by_cases e:j=i
 ·subst e;exact ht
 ·exact h.all j (by omega)⟩
theorem jA {l:Bool}{a b:Bool}(h:a=b):ai (.bool l a) (.bool I b):=λE=>by subst h;rfl
theorem Sx.aa.empty {tot tot':Nat}{ay:List bh}{z:Bool}(h:tot=tot'):aa (.cells [] tot ty) (.rows z 0 ay I tot' ty):=by subst h;refine aa.of rfl rfl λ_=> ?_;refine⟨rfl,λE o ⟨c,fr,h1,h2,_,h4⟩=>⟨c,fr,h1,λ_=>h2,by omega,h4,λi k col hi=>absurd hi (d_ _)⟩,λ_=>rfl⟩
structure Pp where
 k:Int
 root:h_
 key:h_
 to:h_
 n:Nat
 f:Nat->h_
def Pp.sv (x:Pp)(u:SV):SV:=.agg [.int .i64 I x.k,.str I x.root,.str I x.key,.str I x.to,u]
def azJ (f:Nat->h_)(i:Nat):Bool:=!decide ((1000:Int)<((f i).length:Int))
def ave (n:Nat)(f:Nat->h_):Bool:=(a_ n).all (azJ f)
def Pp.ok (x:Pp):Bool:=(V (x.k=0)&&V (x.to=[])||decide (x.k=1))&&V ((x.root.length:Int)=32)&& !decide ((6:Int)<(x.key.length:Int))&& !decide ((6:Int)<(x.to.length:Int)) &&
 !decide ((200:Int)<(x.n:Int))&&ave x.n x.f
def aCo (f:Nat->h_)(i:Nat):h_:=aS (f i)
def Pp.rows (x:Pp):List h_:=jw (aCo x.f) 0 x.n
def Pp.items (x:Pp):List h_:=[numOf x.k,aS x.root,aS x.key,aS x.to,kE x.rows]
def Pp.put (x:Pp):h_:=kE x.items
def Pp.fits (x:Pp):Bool:=x.ok&& !decide ((65536:Int)<(x.put.length:Int))
def dP:List bh:=[.str λ_=>[]]
def kZ (n:Nat)(f:Nat->h_)(n':Nat)(f':Nat->h_):Bool:=V ((n:Int)=(n':Int))&&(a_ n).all λi=>decide (f i=f' i)
def uY (z:Bool)(o c n:Nat)(f:Nat->h_)(key:Option Nat):Seen:=⟨key,z,o,n,c,[.str f]⟩
def avT:List E6:=[.of (.slice dP),.of (.slice dP)]
noncomputable def anw (n:Nat)(f f':Nat->h_):iG:={bQ with cO:=λf=>av f lM,bU:=λg=>if g=51 then [(4,always (G3 13 n λi=>decide (f i=f' i)))] else []}
theorem ay4 (n:Nat)(f f':Nat->h_):Sx.Good S (anw n f f'):=.of bI iF aO
section
variable (n m : Nat) (x y : Nat-> h_)
abbrev L4:=MV n (λa=>ew (x a) (y a)) m
abbrev P2:=not (cJ (NI n) (NI m))
end
theorem as7 (n n':Nat)(f f':Nat->h_)(z z':Bool)(o o' c c':Nat)(key key':Option Nat):VC.holds (je (anw n f f') 51 b_ [.cT 0 1 z o 0 n c,.cT 1 1 z' o' 0 n' c'] [uY z o c n f key,uY z' o' c' n' f' key'] (.ret (.bool I (kZ n f n' f'))))=(Bk (P2 n n') (ai fR (gb (kZ n f n' f'))) (cR (∀(a:Nat),L4 n a f f'->Fk (rQ a n) (aC (mS a n) (pL o a n) (mS a n') (pL o' a n') (aX (ju fR (kZ n f n' f')) (dF a (λb=>aC (L4 n b f f'/\aP n b n a) (gS a b) (tg (uY z o c n f key)) (tg (uY z' o' c' n' f' key')) True)) (ew (kY a f) (kY a f')))) (ju nM (kZ n f n' f'))) (λa=>aC (L4 n a f f') (fy a) (tg (uY z o c n f key)) (tg (uY z' o' c' n' f' key')) True))):=by kernel_rfl
theorem atG [Decidable p](h:(!decide p)=I):p:=by
 cases hd:V p with
 | true=>exact i_ hd
 | false=>rw[hd] at h;cases h
theorem amd [Decidable p](h:(!decide p)=J):V p=false:=by
 cases hd:V p with
 | true=>rw[hd] at h;cases h
 | false=>rfl
theorem ame [Decidable p](h:(!decide p)=I):V p=true:=by
 cases hd:V p with
 | true=>rfl
 | false=>rw[hd] at h;cases h
theorem Vv {n':Nat}{f f':Nat->h_}(hn:n<9223372036854775808)(z z':Bool)(o o' c c':Nat)(key key':Option Nat):au (je (anw n f f') 51 b_ [.cT 0 1 z o 0 n c,.cT 1 1 z' o' 0 n' c'] [uY z o c n f key,uY z' o' c' n' f' key'] (.ret (.bool I (kZ n f n' f')))):=by
 refine au.j7 (as7 n n' f f' z z' o o' c c' key key') (by delta Fk Bk I6 Ix Sr Er NI cQ aj aC bt fR gb cJ cw aX aP nM gS fy i5 cR dF lu iD ew tg ju mS rQ pL kY L4 P2;exact rfl) ?_;simp only[b!,d!];refine⟨λh=>jA (by rw[kZ,amd h];rfl),λh=>⟨⟨0,⟨bn _,λj hj=>absurd hj (d_ _)⟩,rfl,aa.refl _,aa.refl _,trivial⟩,λi hi=>⟨λa=> ?_,λa=> ?_⟩⟩⟩
 ·simp only[m_] at a;have e:(n:Int)=(n':Int):=atG h;refine⟨by omega,⟨trivial,by omega⟩,by omega,⟨trivial,by omega⟩,λb=> ?_,λb=>⟨by omega,i+1,⟨Ah hi a (ame b),by omega⟩,by omega,aa.refl _,aa.refl _,trivial⟩⟩;exact jA (by rw[kZ,EV a (amd b),Bool.and_false])
 ·simp only[n_] at a;exact jA (by rw[kZ,D0 hi a,ame h];rfl)
def vT (vs:List SV)(l:List Seen):Option (Prop×fC):=match vs,l with
 | [_,_],[⟨_,_,_,n,_,[.str f]⟩,⟨_,_,_,n',_,[.str f']⟩]=>O (n<9223372036854775808,.ret (.bool I (kZ n f n' f')))
 | _,_=>W
theorem ajS:aq S 51 (bV avT vT):=by
 refine gi (n:=20) Tryz.func51 (by kernel_rfl) (by kernel_rfl) ?_;intro vs l q a h hq;unfold vT at h;split at h
 ·rename_i v v' key z o n c f key' z' o' n' c' f';cases h;exact⟨_,ay4 n f f',rfl,rfl,Vv hq z z' o o' c c' key key'⟩
 ·cases h
end
end Go.Proofs.YtoibaecagklkaaaGreatDoor
