/-
  Canon: hold: the contract.
-/
import Derived.Test.YtpaaiebohjjieaaGreatDoorMq
import Derived.Test.YtpaaiebohjjieaaGreatDoorMp
import Derived.Test.YtpaaiebohjjieaaGreatDoorMi
import Derived.Test.YtpaaiebohjjieaaGreatDoorMj
import Derived.Test.YtpaaiebohjjieaaGreatDoorMk
import Derived.Test.YtpaaiebohjjieaaGreatDoorMm
import Derived.Test.YtpaaiebohjjieaaGreatDoorMo
namespace Go.Proofs.YtpaaiebohjjieaaGreatDoor
open Go Sx
set_option maxRecDepth 20000
theorem KQ {n n' k k' c c':Nat}{f f':Nat->Nat}{ty:TypeId}(hn:n=n')(hc:c=c')(hk:k=k')(hf: ∀ i,i<n->f i=f' i):af (.rows true n [.ref k f] false (c*1) ty) (.rows true n' [.ref k' f'] false (c'*1) ty):=by
 subst hk;refine sZ hn (by rw[hc]) rfl fun j d d' h1 h2 i hi E=> ?_
 match j,h1,h2 with
 | 0,h1,h2 =>injection h1 with h1;injection h2 with h2;subst h1;subst h2;simp only[aK.at,hf i hi]
 | j+1,h1,_=>simp at h1
theorem MD {m:Nat}{x:w7}(hl:x.l=[])(h:tK x.P (m+1) x.nb x.f x.B):tK x.P (m+1) x.nb x.f (x.B++wY m x.l):=by rw[hl,show wY m []=[] from rfl,List.append_nil];exact h
theorem abp (x:w7)(hx:(xI 0).pre x):aq (runM (Mb 0) 129 Tryz.f129 (xI 0) x):=by
 refine aq.Qz (alL x) (by delta Fk NI ak aL cS eC cU bT cq cB cZ yw lU qt qp rX wR alc F6 Dj;exact rfl) ?_;obtain⟨h1,h2,h3,h4,h5,h6⟩:=hx;have hl:x.l=[]:=by
  cases e:x.l with
  | nil=>rfl
  | cons r l=>rw[e] at h1;exact absurd (h1.len r (List.mem_cons_self ..)) (Nat.not_lt_zero _)
 refine⟨fun _=>⟨⟨x.nb,x.cb,x.f,x.P⟩,⟨h4,MD hl h6⟩,by rw[hl];rfl,⟨rfl,rfl⟩,af.refl _,af.refl _,af.refl _⟩,fun h=> ?_⟩;rw[hl] at h;exact absurd h (by decide)
theorem abo (m:Nat)(x:w7)(hx:(xI (m+1)).pre x):aq (runM (Mb (m+1)) 129 Tryz.f129 (xI (m+1)) x):=by
 refine aq.Qz (ao9 m x) (by delta Fk Bk NI aX ak aI aL cS cr dj k8 ij aP pS eC cU jd bT dZ cq fW cI cB cZ iH mY yw lU qt qp rX wR alc F6 Dj uK GB mT Gy Gx aoN oI aoP agS Zq TL TO Ax C1 NL ahr Gk ahy lq Od;exact rfl) ?_;obtain⟨h1,h2,h3,h4,h5,h6⟩:=hx;refine⟨fun h=> ?_,fun h=> ?_⟩
 ·have hl:x.l=[]:=List.length_eq_zero_iff.1 (by have:=of_decide_eq_true h;omega);exact⟨⟨x.nb,x.cb,x.f,x.P⟩,⟨h4,MD hl h6⟩,by rw[hl];rfl,⟨rfl,rfl⟩,af.refl _,af.refl _,af.refl _⟩
 have hl:x.l≠[]:=fun e=>by have:=of_decide_eq_false h;rw[e] at this;exact this rfl
 refine⟨(x.l,x.c),⟨h1,h2,h3⟩,⟨rfl,rfl⟩,af.refl _,fun y hy=> ?_⟩;obtain⟨y1,Q⟩:=y;have hy:Told Q (m+1+1) y1 (j5 (m+1) x.l):=hy;obtain⟨hb1,hb2,hb3,hb4⟩:=Lj hy;have ht:Q.vb y1=ctext (m+1) x.l:=by injection hb3 with e _;exact e.symm
 have htail:(j5 (m+1) x.l).tail=gr (m+1) x.l:=rfl;have h700:=qE h3 h1 hl;have hrl:=UF h700;have hnb:=Ll h6;rw[List.length_append] at h5;have hkB:wY (m+1) x.l=(if(ctext (m+1) x.l).length<32 then [] else [ctext (m+1) x.l])++gr (m+1) x.l:=if_neg hl
 have hkr:Bm (m+1) x.l=gu (ctext (m+1) x.l):=if_neg hl;show Q.D y1=true/\(Q.vb y1).length<_/\_;rw[ht];refine⟨hb4,by omega,by omega,fun hh=> ?_,fun hh=>⟨hb4,?_⟩⟩
 ·have hlong: ¬ (ctext (m+1) x.l).length<32:=fun e=>by rw[oJ e] at hh;have:=xD hh;omega
  rw[if_neg hlong] at hkB;refine⟨⟨by omega,trivial,by omega,by omega⟩,fun c hc hd hd2=> ?_⟩;have hW:=Vp (Q:=Q) hd hd2 h6 (ajn hy);refine⟨⟨x.nb+1,c,fun j=>if j<x.nb then x.f j else aim [y1] (j - x.nb),x.P.or Q⟩,⟨hc,?_⟩,hkr.symm,⟨rfl,rfl⟩,KQ rfl rfl rfl fun _ _=>rfl,af.refl _,af.refl _⟩
  rw[hkB];exact hW
 ·have hshort:(ctext (m+1) x.l).length<32:=by
   by_cases e:(ctext (m+1) x.l).length<32
   ·exact e
   ·rw[(qZ e).1] at hh;cases hh
  rw[if_pos hshort,List.nil_append] at hkB;have hn2:=Ll hb1;rw[htail,← hkB] at hn2;refine⟨⟨by omega,fun h=> ?_,?_,?_⟩,fun c hc hd hd2=> ?_⟩
  ·have:=hb2 h;exact⟨this.1,by show 0+Q.nb y1<=_;rw[Nat.zero_add];exact this.2⟩
  ·show 2*(x.nb+Q.nb y1)*8<=_;omega
  ·show x.nb+Q.nb y1<_;omega
  have hW:=Vp (Q:=Q) hd hd2 h6 hb1;refine⟨⟨x.nb+Q.nb y1,c,fun j=>if j<x.nb then x.f j else Q.g (Q.fb y1) (j - x.nb),x.P.or Q⟩,⟨hc,?_⟩,hkr.symm,⟨rfl,rfl⟩,KQ rfl rfl rfl fun _ _=>rfl,af.refl _,af.refl _⟩
  rw[hkB];exact hW
theorem akn {m:Nat}(h:au Tryz.prog 57 (vk m)):au Tryz.prog 129 (kj (xI m)) :=
 vF (n:=20) (fn:=Tryz.f129) Tryz.func129 (by kernel_rfl) (by kernel_rfl) (xI m) fun x hx=>⟨Mb m,anG h,by rfl,by
  cases m with
  | zero=>exact abp x hx
  | succ m=>exact abo m x hx⟩
def Pd.top (P:Pd)(a a1:Nat)(t:List UInt8)(nb cb:Nat)(f:Nat->Nat):Pd :=
 {D:=fun b=>P.D b||b.beq a1,vb:=fun b=>bif P.D b then P.vb b else t,fb:=fun b=>bif P.D b then P.fb b else a,nb:=fun b=>bif P.D b then P.nb b else nb,cb:=fun b=>bif P.D b then P.cb b else cb,
  D2:=fun b=>P.D2 b||b.beq a&& !(true&&nb.beq 0),n2:=fun b=>bif P.D2 b then P.n2 b else nb,g:=fun b i=>bif P.D2 b then P.g b i else f i}
def Pd.one (a a1:Nat)(t:List UInt8)(nb cb:Nat)(f:Nat->Nat):Pd :={D:=fun b=>b.beq a1,vb:=fun _=>t,fb:=fun _=>a,nb:=fun _=>nb,cb:=fun _=>cb,D2:=fun b=>b.beq a&& !(true&&nb.beq 0),n2:=fun _=>nb,g:=fun _=>f}
theorem ao4 (P:Pd)(a a1:Nat)(t:List UInt8)(nb cb:Nat)(f:Nat->Nat):P.top a a1 t nb cb f=P.or (Pd.one a a1 t nb cb f):=rfl
theorem aiL {P:Pd}{d a a1 nb cb:Nat}{t:List UInt8}{f:Nat->Nat}{B:List (List UInt8)}(hd: ∀ b,P.D b=true->b.beq a1=false)(hd2: ∀ b,P.D2 b=true->(b.beq a&& !(true&&nb.beq 0))=false)(h:tK P d nb f B) :
  Told (P.top a a1 t nb cb f) (d+1) a1 (t::B):=by
 obtain⟨Ks,h1,h2,h3⟩:=h;have e:a1.beq a1=true:=Nat.beq_refl a1;have hp:P.D a1=false:=by
  cases h:P.D a1 with
  | false=>rfl
  | true=>rw[hd a1 h] at e;cases e
 have e2:(P.top a a1 t nb cb f).nb a1=nb:=by show(bif P.D a1 then _ else _)=_;rw[hp];rfl
 have e3:(P.top a a1 t nb cb f).fb a1=a:=by show(bif P.D a1 then _ else _)=_;rw[hp];rfl
 have e4:(P.top a a1 t nb cb f).vb a1=t:=by show(bif P.D a1 then _ else _)=_;rw[hp];rfl
 have hn:0<nb->(a.beq a&& !(true&&nb.beq 0))=true:=fun h=>by
  have:nb.beq 0=false:=by cases nb with
   | zero=>omega
   | succ n=>rfl
  rw[this,show a.beq a=true from Nat.beq_refl a];rfl
 have hp2:0<nb->P.D2 a=false:=fun h=>by
  cases g:P.D2 a with
  | false=>rfl
  | true=>have:=hd2 a g;rw[hn h] at this;cases this
 refine⟨by show(P.D a1||a1.beq a1)=true;rw[e,Bool.or_true],Ks,e2.trans h1,fun h=> ?_,by rw[e4,h2],fun i L' hi=> ?_⟩
 ·rw[← h1] at h;rw[e3];refine⟨by show(P.D2 a||_)=true;rw[hn h,Bool.or_true],?_⟩;show _<=(bif P.D2 a then _ else nb)
  rw[hp2 h,h1];exact Nat.le_refl _
 ·have hk:0<Ks.length:=Nat.lt_of_le_of_lt (Nat.zero_le _) (List.getElem?_eq_some_iff.1 hi).1;have:(P.top a a1 t nb cb f).g ((P.top a a1 t nb cb f).fb a1) i=f i:=by rw[e3];show(bif P.D2 a then _ else f i)=_;rw[hp2 (by omega)];rfl
  rw[this,ao4];exact Fj (h3 i L' hi)
def Pd.leaf (a:Nat)(t:List UInt8):Pd:={D:=fun b=>b.beq a,vb:=fun _=>t,fb:=fun _=>0,nb:=fun _=>0,cb:=fun _=>0,D2:=fun _=>false,n2:=fun _=>0,g:=fun _ _=>0}
theorem acW (d a:Nat)(t:List UInt8):Told (Pd.leaf a t) (d+1) a [t]:=⟨Nat.beq_refl a,[],rfl,fun h=>absurd h (Nat.lt_irrefl 0),rfl,fun i L' hi=>by simp at hi⟩
def xE (i:Nat)(p:List UInt8):Bool:=match p with
 | []=>false
 | b::_=>decide (b.toNat<i)
theorem Wi (i:Nat)(p:List UInt8):(qa i p=true->xE i p=false/\xE (i+1) p=true)/\(qa i p=false->xE (i+1) p=xE i p):=by
 cases p with
 | nil=>exact⟨fun h=>(by cases h),fun _=>rfl⟩
 | cons b q =>
   refine⟨fun h=> ?_,fun h=> ?_⟩
   ·have h:b.toNat=i:=of_decide_eq_true h;exact⟨decide_eq_false (by omega),decide_eq_true (by omega)⟩
   ·have h: ¬ b.toNat=i:=of_decide_eq_false h;show decide (b.toNat<i+1)=decide (b.toNat<i);exact decide_eq_decide.2 (by omega)
theorem R5 (i:Nat): ∀ l:List Rw,(l.filter fun r=>xE i r.1).length+(gH i l).length=(l.filter fun r=>xE (i+1) r.1).length
 | []=>rfl
 | x::l=>by
   have ih:=R5 i l;obtain⟨h1,h2⟩:=Wi i x.1;unfold gH at ih ⊢;rw[List.filter_cons,List.filter_cons,List.filter_cons];cases h:qa i x.1 with
   | true =>obtain⟨g1,g2⟩:=h1 h;rw[g1,g2];simp only[if_true,Bool.false_eq_true,if_false,List.length_cons];omega
   | false =>rw[h2 h];cases xE i x.1<;>simp only[if_true,Bool.false_eq_true,if_false,List.length_cons]<;>omega
def vC (l:List Rw):Nat->Nat
 | 0=>0
 | i+1=>vC l i+(bF l i).length
theorem MI (l:List Rw)(i:Nat):vC l i<=l.length:=by
 match l with
 | []=>induction i with
   | zero=>exact Nat.le_refl _
   | succ i ih=>exact ih
 | [r]=>induction i with
   | zero=>exact Nat.zero_le _
   | succ i ih=>exact ih
 | r::s::t =>
   by_cases hk:0<cz r.1 ((s::t).getLastD r).1
   ·cases i with
    | zero=>exact Nat.zero_le _
    | succ i =>
      induction i with
      | zero =>show 0+(bF (r::s::t) 0).length<=_;rw[dH,if_pos hk,if_pos rfl,Nat.zero_add,c7,List.length_map];exact Nat.le_refl _
      | succ i ih =>show vC (r::s::t) (i+1)+(bF (r::s::t) (i+1)).length<=_;rw[dH,if_pos hk,if_neg (Nat.succ_ne_zero i)];exact ih
   ·have:vC (r::s::t) i<=((r::s::t).filter fun x=>xE i x.1).length:=by
     induction i with
     | zero=>exact Nat.zero_le _
     | succ i ih =>show vC (r::s::t) i+(bF (r::s::t) i).length<=_;rw[dH,if_neg hk,c7,List.length_map,← R5 i (r::s::t)];omega
    exact Nat.le_trans this (List.length_filter_le _ _)
theorem mg (m:Nat)(l:List Rw)(i:Nat):jS m l (i+1)=jS m l i++wY m (bF l i):=by unfold jS;rw[List.range_succ,List.flatMap_append];simp
theorem tN (m:Nat)(l:List Rw):gr (m+1) l=jS m l 16:=rfl
mutual
theorem IY: ∀(m:Nat) (l:List Rw),(wY m l).length<=(m+1)*l.length
 | m,l=>by
   unfold wY;by_cases h:l=[]
   ·rw[if_pos h];exact Nat.zero_le _
   ·rw[if_neg h];have hb:=L9 m l;have hp:1<=l.length:=List.length_pos_iff.2 h;have:(if(ctext m l).length<32 then([]:List (List UInt8))else [ctext m l]).length<=1:=by split<;>simp
    rw[List.length_append,Nat.add_mul,Nat.one_mul];omega
 termination_by m=>(m,1)
theorem L9: ∀(m:Nat) (l:List Rw),(gr m l).length<=m*l.length
 | 0,_=>Nat.zero_le _
 | m+1,l=>by
   have: ∀ i,(jS m l i).length<=(m+1)*vC l i:=fun i=>by
    induction i with
    | zero=>exact Nat.zero_le _
    | succ i ih =>have:=IY m (bF l i);rw[mg,List.length_append,vC,Nat.mul_add];omega
   rw[tN];exact Nat.le_trans (this 16) (Nat.mul_le_mul_left _ (MI l 16))
 termination_by m=>(m,0)
end
theorem Rt (m:Nat)(l:List Rw)(i:Nat):(jS m l i).length<=(m+1)*l.length:=by
 have: ∀ i,(jS m l i).length<=(m+1)*vC l i:=fun i=>by
  induction i with
  | zero=>exact Nat.zero_le _
  | succ i ih =>have:=IY m (bF l i);rw[mg,List.length_append,vC,Nat.mul_add];omega
 exact Nat.le_trans (this i) (Nat.mul_le_mul_left _ (MI l i))
theorem Ck {m:Nat}{l:List Rw}(hm:m<=12)(h:dI (m+1) l):Fits (dR (m+1) l):=fun j hj=>by
 rw[Hl m l hj];split
 ·decide
 ·rename_i hk;have:=UF (qE (m:=m) (by omega) (oU h j) hk);omega
theorem aj2 {m:Nat}{r s:Rw}{t:List Rw}(hk:0<cz r.1 ((s::t).getLastD r).1):dR (m+1) (r::s::t)=⟨2,r.1.take (cz r.1 ((s::t).getLastD r).1),[],bM (Bm m (c7 (cz r.1 ((s::t).getLastD r).1) (r::s::t)))⟩:=by show iZ _ (r::s::t)=_;unfold iZ;dsimp only;rw[if_pos hk,dH,if_pos hk,if_pos rfl];rfl
theorem VP {m:Nat}{r s:Rw}{t:List Rw}(hk: ¬ 0<cz r.1 ((s::t).getLastD r).1):dR (m+1) (r::s::t)=⟨3,[],if r.1=[] then r.2 else [],fu (KE m (r::s::t) 16)⟩:=by show iZ _ (r::s::t)=_;unfold iZ;dsimp only;rw[if_neg hk];rfl
theorem aaW {m:Nat}{r s:Rw}{t:List Rw}(hk:0<cz r.1 ((s::t).getLastD r).1):gr (m+1) (r::s::t)=wY m (c7 (cz r.1 ((s::t).getLastD r).1) (r::s::t)):=by
 rw[tN];have: ∀ i,jS m (r::s::t) (i+1)=wY m (c7 (cz r.1 ((s::t).getLastD r).1) (r::s::t)):=fun i=>by
  induction i with
  | zero=>rw[mg,dH,if_pos hk,if_pos rfl];rfl
  | succ i ih =>rw[mg,ih,dH,if_pos hk,if_neg (Nat.succ_ne_zero i)];show _++[]=_;rw[List.append_nil]
 exact this 15
theorem HT {m:Nat}{l:List Rw}(h: ∀ i,bF l i=[]):gr (m+1) l=[]:=by
 rw[tN];have: ∀ i,jS m l i=[]:=fun i=>by
  induction i with
  | zero=>rfl
  | succ i ih=>rw[mg,ih,h i];rfl
 exact this 16
theorem OH (P:Pd)(d:Nat)(f:Nat->Nat):tK P d 0 f []:=⟨[],rfl,rfl,fun i L' hi=>by simp at hi⟩
def Pd.none:Pd:={D:=fun _=>false,vb:=fun _=>[],fb:=fun _=>0,nb:=fun _=>0,cb:=fun _=>0,D2:=fun _=>false,n2:=fun _=>0,g:=fun _ _=>0}
theorem CL (k a:Nat): ¬ SB.jD 0 (Pd.none.parts k) a:=fun h=>Bool.noConfusion (show false=true from h)
theorem CK (k a:Nat): ¬ SB.jD 0 (Pd.none.lists k) a:=fun h=>Bool.noConfusion (show false=true from h)
theorem Cm {k k' tot:Nat}{D:Nat->Bool}{vb:Nat->List UInt8}{fb nb cb:Nat->Nat}{ty:TypeId}:af (.vq D [.str vb,.fq k 1 true fb nb cb] tot ty false) (.vq D [.str vb,.fq k' 1 true fb nb cb] tot ty false) :=⟨rfl,fun _ a h=>⟨h,fun E o hb=>((af.cells (cs:=[(aK.str vb).at a,(aK.fq k 1 true fb nb cb).at a]) (cs':=[(aK.str vb).at a,(aK.fq k' 1 true fb nb cb).at a]) (tot:=tot) (ty:=ty) (fun _=>rfl) rfl).old rfl).2.1 E o hb,id⟩⟩
theorem HW {m:Nat}{l:List Rw}{t:List UInt8}(ht:t=ctext (m+1) l)(hb:gr (m+1) l=[])(a:Nat): ∃(x:Nat×Pd),Told x.2 (m+1+1) x.1 (j5 (m+1) l)/\a=x.1 /\
  af (.vq (fun b=>b.beq a) [.str fun _=>t,.fq 0 1 true (fun _=>0) (fun _=>0) fun _=>0] 2 134 false) (x.2.parts 2)/\∀ a,¬ SB.jD 0 (x.2.lists 1) a:=by
 refine⟨(a,Pd.leaf a t),?_,rfl,Cm,fun b h=>Bool.noConfusion (show false=true from h)⟩
 have:=acW (m+1) a t;unfold j5;rw[hb,← ht];exact this
theorem abh (r:Rw)(t:List Rw):(r::t).getD t.length ([],[])=t.getLastD r:=by
 rw[List.getD_eq_getElem?_getD,List.getLastD_eq_getLast?,List.getLast?_eq_getElem?];cases t with
 | nil=>rfl
 | cons s t=>simp
theorem Iy {k k':Nat}{D:Nat->Bool}{n:Nat->Nat}{g:Nat->Nat->Nat}:af (.lH D n [.ref k g] false) (.lH D n [.ref k' g] false) :=
 ⟨rfl,fun _ a h=>⟨h,fun E o ⟨c,ty,fr,h1,h2⟩=>⟨c,ty,fr,h1,fun i j col hi hj=>by
  match j,hj with
  | 0,hj=>injection hj with hj;subst hj;have e:=h2 i 0 (dm.at a (.ref k g)) hi rfl;exact e
  | j+1,hj=>simp at hj⟩,id⟩⟩
theorem D3 {m a a1 nb cb k k2:Nat}{l:List Rw}{t:List UInt8}{P:Pd}{f:Nat->Nat}{B:List (List UInt8)}(ht:t=ctext (m+1) l)(hb:gr (m+1) l=B)(hd2: ∀ b,P.D2 b=true->(b.beq a&& !(true&&nb.beq 0))=false)(hd: ∀ b,P.D b=true->b.beq a1=false)(h:tK P (m+1) nb f B) :
  ∃(x:Nat×Pd),Told x.2 (m+1+1) x.1 (j5 (m+1) l)/\a1=x.1 /\
   af (.vq (fun b=>P.D b||b.beq a1) [.str fun b=>bif P.D b then P.vb b else t,.fq k 1 true (fun b=>bif P.D b then P.fb b else a) (fun b=>bif P.D b then P.nb b else nb) fun b=>bif P.D b then P.cb b else cb] 2 134 false) (x.2.parts 2) /\
   af (.lH (fun b=>P.D2 b||b.beq a&& !(true&&nb.beq 0)) (fun b=>bif P.D2 b then P.n2 b else nb) [.ref k2 fun b i=>bif P.D2 b then P.g b i else f i] false) (x.2.lists 1):=by
 refine⟨(a1,P.top a a1 t nb cb f),?_,rfl,Cm,Iy⟩;have:=aiL (cb:=cb) (t:=t) hd hd2 h;unfold j5;rw[hb,← ht];exact this
theorem aeu {m:Nat}{l:List Rw}(h:dI m l)(hl:l≠[]):(dR m l).k≠0:=by
 match m,h with
 | 0,ho =>
   cases l with
   | nil=>exact absurd rfl hl
   | cons x y=>exact absurd (ho.len x (List.mem_cons_self ..)) (Nat.not_lt_zero _)
 | m+1,_=>exact(aet hl).1
theorem L8 {m:Nat}{l:List Rw}{i:Nat}(hi:i<16)(hk:bF l i≠[]){t:List UInt8}(ht:t∈ gr m (bF l i)):t∈ gr (m+1) l:=by unfold gr;refine List.mem_flatMap.2 ⟨i,List.mem_range.2 hi,?_⟩;rw[if_neg hk];exact List.mem_append_right _ ht
theorem VE {m:Nat}{l:List Rw}{i:Nat}(hi:i<16)(hk:bF l i≠[])(hl: ¬ (ctext m (bF l i)).length<32):ctext m (bF l i)∈ gr (m+1) l:=by unfold gr;refine List.mem_flatMap.2 ⟨i,List.mem_range.2 hi,?_⟩;rw[if_neg hk,if_neg hl];exact List.mem_append_left _ (List.mem_cons_self ..)
theorem SF {w:Sp}: ∀ {m:Nat} {l:List Rw},m<=13->dI m l->Clear w (gr m l)->adv w m l
 | 0,_,_,_,_=>trivial
 | m+1,l,hm,h,hc=>fun i hi=>by
   refine⟨fun e=>by rw[Hl m l hi,if_pos e],fun hk=> ?_⟩;have ho:=oU h i;have hv:=jC (m:=m) (by omega) ho hk;have hk0:=aeu ho hk;have er:(dR (m+1) l).r i=gu (ctext m (bF l i)):=by rw[Hl m l hi,if_neg hk]
   refine⟨by rw[er];exact(Jj hv hk0).2,fun s y s' hs=> ?_,SF (by omega) ho fun t ht=>hc t (L8 hi hk ht)⟩;rw[er] at hs;by_cases hl:(ctext m (bF l i)).length<32
   ·rw[oJ hl] at hs;unfold l7 at hs;rw[if_pos (show cG (ctext m (bF l i))=true from(IN hv hk0 hl).1)] at hs
    injection hs with hs;injection hs with hs _;rw[← hs];exact kS hv
   ·obtain⟨h1,h2,h3⟩:=qZ hl;have hin: ¬ cG (gu (ctext m (bF l i)))=true:=fun e=>by have:=vz e;omega
    unfold l7 at hs;rw[if_neg hin,h2] at hs;split at hs
    ·rename_i hb;injection hs with hs;injection hs with hs _;rw[Bool.and_eq_true] at hb;rw[← hs,hc _ (VE hi hk hl) hb.2];exact kS hv
    ·cases hs
theorem rI (b:UInt8)(k:List UInt8):ay (b::k)=UInt8.ofNat (b.toNat / 16)::UInt8.ofNat (b.toNat% 16)::ay k:=by
 have hb:ai (b::k) 0=(b.toNat:Int):=rfl;have e0:pF (b::k) 0=(b.toNat:Int) / 16:=by unfold pF;rw[if_pos rfl];rfl
 have e1:pF (b::k) 1=(b.toNat:Int)% 16:=by unfold pF;rw[if_neg (by decide)];rfl
 have e2: ∀ j:Nat,pF (b::k) (j+2)=pF k j:=fun j=>by
  unfold pF;have:(((j+2:Nat):Int) / 2)=((j / 2+1:Nat):Int):=by omega
  have h2:((j:Int) / 2)=((j / 2:Nat):Int):=by omega
  have h3:(j+2)% 2=j% 2:=by omega
  rw[h3,this,bZ,h2]
 have hn:2*(b::k).length=2*k.length+1+1:=by rw[List.length_cons];omega
 unfold ay eP;rw[hn,List.range_succ_eq_map,List.map_cons,List.map_map,List.range_succ_eq_map,List.map_cons,List.map_map];simp only[Nat.zero_add,Function.comp,e0,e1,Nat.succ_eq_add_one];refine congr (congrArg _ ?_) (congr (congrArg _ ?_) ?_)
 ·congr 1
 ·congr 1
 ·refine List.map_congr_left fun j _=> ?_;show UInt8.ofNat (pF (b::k) (j+2)).toNat=_;rw[e2]
theorem Ts (a b:UInt8)(p:List UInt8)(ha:a.toNat<16)(hb:b.toNat<16):dJ (a::b::p)=UInt8.ofNat (a.toNat*16+b.toNat)::dJ p:=by
 have e0:ny (a::b::p) 0=(a.toNat:Int)*16+(b.toNat:Int):=by have h1:ai (a::b::p) (2*((0:Nat):Int))=(a.toNat:Int):=rfl;have h2:ai (a::b::p) (2*((0:Nat):Int)+1)=(b.toNat:Int):=rfl;unfold ny;rw[h1,h2,Zc ⟨by omega,by omega⟩ ⟨by omega,by omega⟩]
 have e2: ∀ j:Nat,ny (a::b::p) (j+1)=ny p j:=fun j=>by
  unfold ny
  rw[show(2*((j+1:Nat):Int))=((2*j+1+1:Nat):Int)by push_cast;omega,bZ,bZ,
   show(((2*j+1+1:Nat):Int)+1)=((2*j+1+1+1:Nat):Int)by push_cast;omega,bZ,bZ]
  rw[show((2*j+1:Nat):Int)=2*(j:Int)+1 by push_cast;omega,show((2*j:Nat):Int)=2*(j:Int)by push_cast;omega]
 have hn:(a::b::p).length / 2=p.length / 2+1:=by rw[List.length_cons,List.length_cons];omega
 unfold dJ eP;rw[hn,List.range_succ_eq_map,List.map_cons,List.map_map];simp only[Nat.zero_add,e0];refine congr (congrArg _ ?_) (List.map_congr_left fun j _=>by show UInt8.ofNat (ny (a::b::p) (j+1)).toNat=_;rw[e2])
 congr 1
theorem zx (b:UInt8):(UInt8.ofNat (b.toNat / 16)).toNat=b.toNat / 16/\(UInt8.ofNat (b.toNat% 16)).toNat=b.toNat% 16:=by
 have:=b.toNat_lt;constructor
 ·rw[UInt8.toNat_ofNat'];omega
 ·rw[UInt8.toNat_ofNat'];omega
theorem rH: ∀(k:List UInt8),dJ (ay k)=k
 | []=>rfl
 | b::k=>by have hb:=b.toNat_lt;obtain⟨h1,h2⟩:=zx b;rw[rI,Ts _ _ _ (by rw[h1];omega) (by rw[h2];omega),rH k,h1,h2];congr 1;rw[show b.toNat / 16*16+b.toNat% 16=b.toNat by omega,UInt8.ofNat_toNat]
theorem xV: ∀(k:List UInt8) (b:UInt8),b∈ ay k->b.toNat<16
 | [],b,h=>by cases h
 | c::k,b,h=>by
   have hc:=c.toNat_lt;obtain⟨h1,h2⟩:=zx c;rw[rI] at h;rcases List.mem_cons.1 h with rfl | h
   ·rw[h1];omega
   ·rcases List.mem_cons.1 h with rfl | h
    ·rw[h2];omega
    ·exact xV k b h
theorem agv (k:List UInt8):Cs (ay k)=true:=by unfold Cs;rw[W1 (xV k),zB,decide_eq_true (by omega)];rfl
theorem ue (a b:UInt8)(p q:List UInt8):Op.bytesLess (a::p) (b::q)=(decide (a<b)||(decide (a=b)&&Op.bytesLess p q)):=by
 show(decide (a<b)||(a==b&&Op.bytesLess p q))=_;by_cases e:a=b
 ·subst e;simp
 ·simp[e]
theorem MO: ∀ {a b:List UInt8},Op.bytesLess a b=true->Op.bytesLess (ay a) (ay b)=true
 | [],[],h=>by cases h
 | [],b::q,_=>by rw[rI];rfl
 | a::p,[],h=>by cases h
 | a::p,b::q,h=>by
   have ha:=a.toNat_lt;have hb:=b.toNat_lt;obtain⟨a1,a2⟩:=zx a;obtain⟨b1,b2⟩:=zx b;rw[ue,Bool.or_eq_true,Bool.and_eq_true,decide_eq_true_eq,decide_eq_true_eq] at h;rw[rI,rI,ue,ue];rcases h with h | ⟨rfl,h⟩
   ·have hlt:a.toNat<b.toNat:=UInt8.lt_iff_toNat_lt.1 h;by_cases h1:a.toNat / 16<b.toNat / 16
    ·have:UInt8.ofNat (a.toNat / 16)<UInt8.ofNat (b.toNat / 16):=UInt8.lt_iff_toNat_lt.2 (by rw[a1,b1];exact h1);rw[decide_eq_true this];rfl
    ·have e1:UInt8.ofNat (a.toNat / 16)=UInt8.ofNat (b.toNat / 16):=by congr 1;omega
     have:UInt8.ofNat (a.toNat% 16)<UInt8.ofNat (b.toNat% 16):=UInt8.lt_iff_toNat_lt.2 (by rw[a2,b2];omega);rw[decide_eq_true e1,decide_eq_true this];simp
   ·rw[decide_eq_true rfl,decide_eq_true rfl,MO h];simp
theorem acZ (w:Sp)(s:Wk)(h t:List UInt8):(s.take w h).used t=if t=h then s.used h+1 else s.used t:=by
 show dflt (s.ud t||decide (t=h)) (bif decide (t=h)then s.used h+1 else s.us t)=_
 by_cases e:t=h
 ·rw[if_pos e,decide_eq_true e,Bool.or_true];rfl
 ·rw[if_neg e,decide_eq_false e,Bool.or_false];rfl
theorem Wk.Fit.mono {s:Wk}{j k:Nat}(h:s.Fit j)(hk:j<=k):s.Fit k:=⟨fun t=>by have:=h.u t;omega,by have:=h.ns;omega,h.fs,h.lk⟩
theorem Wk.Fit.small {s:Wk}{k:Nat}(h:s.Fit k)(hk:k<=1000):s.Small:=⟨fun t=>by have:=h.u t;omega,by have:=h.ns;omega,by have:=h.lk;omega,by have:=h.fs;have:=h.lk;omega⟩
theorem Wk.Fit.take {s:Wk}{k:Nat}(h:s.Fit k)(w:Sp)(t:List UInt8):(s.take w t).Fit (k+1):=by
 refine⟨fun r=> ?_,?_,h.fs,h.lk⟩
 ·rw[acZ];have h1:=h.u r;have h2:=h.u t;split<;>omega
 ·have:=h.ns;show(if s.used t=0 then s.ns++[w.at t] else s.ns).length<=_
  split
  ·rw[List.length_append];simp;omega
  ·omega
theorem Wk.Fit.GJ {s:Wk}(h:s.Fit (s.lk+1))(hl:s.lk<400)(w:Sp)(x:Nd)(p:List UInt8):(s.GJ w x p).Fit (s.GJ w x p).lk:=by
 refine⟨h.u,h.ns,?_,hl⟩;have:=h.fs;show(if BL w x p=true then s.fs++[(dJ (cat p x.p),x.v)] else s.fs).length<=s.lk+1
 split
 ·rw[List.length_append];simp;omega
 ·omega
theorem Ov {w:Sp}{s s':Wk}{t:List UInt8}{y:Nd}{k:Nat}(h:s.Fit k)(hf:l7 w s t=some (y,s')):s'.Fit (k+1)/\s'.lk=s.lk/\bB y=true:=by
 unfold l7 at hf;split at hf
 ·rename_i hi;injection hf with hf;injection hf with h1 h2;subst h1;subst h2;exact⟨h.mono (Nat.le_succ _),rfl,MF hi⟩
 ·split at hf
  ·rename_i hi;injection hf with hf;injection hf with h1 h2;subst h1;subst h2;simp only[hJ,Bool.and_eq_true] at hi;exact⟨h.take w _,rfl,zf hi.2.2⟩
  ·cases hf
def adw (_w:Sp)(T:Wk->Nd->List UInt8->Option Wk):Prop:=∀ s x p s',s.Fit (s.lk+1)->T s x p=some s'->s'.Fit s'.lk/\s.lk<s'.lk
theorem BH {w:Sp}{T:Wk->Nd->List UInt8->Option Wk}(hT:adw w T){x:Nd}{p:List UInt8}: ∀ {i:Nat} {s s':Wk},s.Fit s.lk->fz w T x p i s=some s'->s'.Fit s'.lk/\s.lk<=s'.lk
 | 0,s,s',h,e=>by injection e with e;subst e;exact⟨h,Nat.le_refl _⟩
 | i+1,s,s',h,e=>by
   unfold fz at e;split at e
   ·cases e
   ·rename_i s1 h1;obtain⟨g1,g2⟩:=BH hT h h1;unfold jZ at e;split at e
    ·injection e with e;subst e;exact⟨g1,g2⟩
    ·cases hm:eo w.fr w.to (va x p i)with
     | false =>rw[hm] at e;injection e with e;subst e;exact⟨g1,g2⟩
     | true =>
       rw[hm] at e;simp only[cond_true] at e;split at e
       ·cases e
       ·rename_i y s2 hf;obtain⟨q1,q2,_⟩:=Ov g1 hf;obtain⟨r1,r2⟩:=hT s2 y _ s' (by rw[q2];exact q1) e;exact⟨r1,by omega⟩
theorem HK (w:Sp): ∀ m,adw w (z6 w m)
 | 0=>fun s x p s' _ e=>by cases e
 | m+1=>fun s x p s' h e=>by
   unfold z6 at e;split at e
   ·cases e
   ·rename_i hl;obtain⟨g1,g2⟩:=BH (HK w m) (h.GJ (by omega) w x p) e;have:(s.GJ w x p).lk=s.lk+1:=rfl;exact⟨g1,by omega⟩
theorem GG {w:Sp}{T:Wk->Nd->List UInt8->Option Wk}{x:Nd}{p:List UInt8}{s:Wk}: ∀ {j i:Nat},i<=j->fz w T x p i s=none->fz w T x p j s=none
 | 0,i,hj,e=>by
   have:i=0:=by omega
   subst this;exact e
 | j+1,i,hj,e=>by
   by_cases h:i=j+1
   ·subst h;exact e
   ·unfold fz;rw[GG (by omega:i<=j) e]
section
variable {w : Sp} {T : Wk -> Nd -> List UInt8 -> Option Wk} {x : Nd} {p : List UInt8} {s s' : Wk} {i : Nat}
theorem pX (h:fz w T x p i s=some s'):fz w T x p (i+1) s=jZ w T x p i s':=by rw[fz,h]
theorem LM (h:x.r i=[]):jZ w T x p i s=some s:=by rw[jZ,if_pos h]
theorem UE (h:eo w.fr w.to (va x p i)=false):jZ w T x p i s=some s:=by rw[jZ,h];split<;>rfl
theorem QN (h: ¬ x.r i=[])(hm:eo w.fr w.to (va x p i)=true)(hf:l7 w s (x.r i)=none):jZ w T x p i s=none:=by rw[jZ,if_neg h,hm,hf];rfl
theorem KD (h: ¬ x.r i=[])(hm:eo w.fr w.to (va x p i)=true){y:Nd}(hf:l7 w s (x.r i)=some (y,s')):jZ w T x p i s=T s' y (va x p i):=by rw[jZ,if_neg h,hm,hf];rfl
theorem ait {t:List UInt8}(h:cG t=true):l7 w s t=some (getD t,s):=by rw[l7,if_pos h]
theorem XN {t:List UInt8}(h:cG t=false)(h1:eA t=true)(h2:hJ w (aa t)=true):l7 w s t=some (getD (w.at (aa t)),s.take w (aa t)):=by rw[l7,if_neg (by rw[h];simp),if_pos (by rw[h1,h2];rfl)]
theorem aiu {t:List UInt8}(h:cG t=false)(h1:eA t=false∨hJ w (aa t)=false):l7 w s t=none:=by rw[l7,if_neg (by rw[h];simp),if_neg (by rcases h1 with h1 | h1<;>rw[h1]<;>simp)]
end
theorem alC {x:Nd}(h:x.z8)(p:List UInt8)(i:Nat):(va x p i).length<=p.length+13:=by have:=h.p;unfold va cat;split<;>simp<;>omega
theorem akf {l:List (List UInt8×List UInt8)}{k v:List UInt8}{c:Nat}{ty:TypeId}:af (.rows true (l.length+1) [.str fun j=>if j<l.length then(l.getD j ([],[])).1 else lZ [k] (j - l.length),.str fun j=>if j<l.length then(l.getD j ([],[])).2 else lZ [v] (j - l.length)] false (c*2) ty) (.rows true (l++[(k,v)]).length [gN (l++[(k,v)]),gO (l++[(k,v)])] false (c*2) ty):=by
 refine sZ (by simp) rfl rfl fun q c c' h1 h2 i hi E=> ?_;have e:=Dv l (k,v) ([],[]) i hi;have hz: ¬ i<l.length->i - l.length=0:=by omega
 match q,h1,h2 with
 | 0,h1,h2 =>
   simp only[List.getElem?_cons_zero,Option.some.injEq] at h1 h2;subst h1;subst h2;simp only[gN,aK.at,SV.val,e];by_cases h:i<l.length
   ·rw[if_pos h,if_pos h]
   ·rw[if_neg h,if_neg h,hz h];rfl
 | 1,h1,h2 =>
   simp only[List.getElem?_cons_succ,List.getElem?_cons_zero,Option.some.injEq] at h1 h2;subst h1;subst h2;simp only[gO,aK.at,SV.val,e];by_cases h:i<l.length
   ·rw[if_pos h,if_pos h]
   ·rw[if_neg h,if_neg h,hz h];rfl
 | q+2,h1,h2=>simp at h1
section
variable {w : Sp} {m : Nat} {s s' : Wk} {x : Nd} {p : List UInt8}
theorem alB (hl: ¬ 400<=s.lk)(h:fz w (z6 w m) x p 16 (s.GJ w x p)=some s'):tI w (m+1) s x p=true/\yO w (m+1) s x p=s':=by
 have:z6 w (m+1) s x p=some s':=by rw[z6,if_neg hl,h]
 exact⟨by rw[tI,this];rfl,by rw[yO,this]⟩
theorem alA (hl: ¬ 400<=s.lk)(h:fz w (z6 w m) x p 16 (s.GJ w x p)=none):tI w (m+1) s x p=false:=by rw[tI,z6,if_neg hl,h];rfl
theorem aaG (h:tI w m s x p=true):z6 w m s x p=some (yO w m s x p):=by
 unfold tI at h;unfold yO;cases hx:z6 w m s x p with
 | none=>rw[hx] at h;cases h
 | some s'=>rfl
theorem Oz (h:tI w m s x p=false):z6 w m s x p=none:=by
 unfold tI at h;cases hx:z6 w m s x p with
 | none=>rfl
 | some s'=>rw[hx] at h;cases h
theorem aeV {a b:List UInt8}{ty:TypeId}:af (SB.cells [SV.str true a,SV.str true b] 2 ty) (SB.cells [SV.str false (a,b).1,SV.str false (a,b).2] 2 ty):=af.cells (fun _=>rfl) rfl
theorem aeU {a b:List UInt8}{ty:TypeId}:af (SB.cells [SV.str false a,SV.str false b] 2 ty) (SB.cells [SV.str false (a,b).1,SV.str false (a,b).2] 2 ty):=af.refl _
theorem ao3 (h:x.k=3)(i:Nat)(hi:i<16):cat (cat p x.p) [UInt8.ofNat ((i:Int)% 256).toNat]=va x p i:=by rw[va,if_pos h,show((i:Int)% 256).toNat=i by omega]
end
section
attribute [local irreducible] ey getD cG eA aa hJ eo hasB Cs ay dJ va z6 tI yO fz Wk.used
set_option maxHeartbeats 4000000 in
theorem LU {m:Nat}{x:BW×Nd×List UInt8}(hx:(Vc (m+1)).pre x):aq (runM (aek m x.1 x.2.1 x.2.2) 140 Tryz.f140 (Vc (m+1)) x):=by
 refine aq.j7 (Vm m x) (by delta Fk Bk I6 Sr Er NI cn jc eS bf aX aF bC bh F4 ak jX cR aI aL eI bH cS dG ax cr aS dj bn dX wO oG aP c8 eC cU bD fX aW jd iT bT dn dZ cq fW cI iW gK kH cB cg eY gp bl dS cH iH fU c9 dW dK uN c6 wH iY mV kJ lp fB e9 De At sU pK lR kC iX nB uP AI nE mW nG nH iR oo qv jY pJ ju Gd Ka Ui lS Gt Kq Kw yx wT ahV ahl lT Ke ak3 TZ iz kD kV ku x9 ya nA lM iQ rN wJ uC aak Ku T2 k5 J5 J6 Gf nI ahb nD T6 ZO yj Ub Uc ym AA mR mS Gn NZ Gp Gq N4 ahE ahI AF cV pR;exact rfl) ?_;obtain⟨⟨w,s,c1,c2⟩,y,p⟩:=x;obtain⟨hw,_,⟨hc1,hc2⟩,hf,hm,hy,hp⟩:=hx;dsimp only at hw hc1 hc2 hf hm hy hp ⊢;have hm:401<=s.lk+(m+1):=hm;have hyp:=hy.p;have hcat:(cat p y.p).length=p.length+y.p.length:=by unfold cat;simp
 have hlk:=hf.lk;have hfs:=hf.fs;have hns:=hf.ns;by_cases hl:400<=s.lk
 ·have hB:tI w (m+1) s y p=false:=by unfold tI z6;rw[if_pos hl];rfl
  rw[hB,decide_eq_true (show(400:Int)<=(s.lk:Int)by omega)];exact⟨fun _=>⟨(fun h=>by cases h),fun _=>⟨(_,_),rfl,aeV,trivial⟩⟩,(fun h=>by cases h)⟩
 refine⟨fun h=>absurd (of_decide_eq_true h) (by omega),fun _=>⟨⟨by omega,by omega⟩,⟨by omega,?_⟩,?_⟩⟩
 ·
  have no:BL w y p=false->(s.GJ w y p).fs=s.fs:=fun h=>by show(if BL w y p=true then _ else _)=_;rw[h];rfl
  have yes:BL w y p=true->(s.GJ w y p).fs=s.fs++[(dJ (cat p y.p),y.v)]:=fun h=>by show(if BL w y p=true then _ else _)=_;rw[h];rfl
  have eb:BL w y p=(!decide (y.v=[])&&(hasB w.fr w.to (cat p y.p)&&Cs (cat p y.p))):=rfl;have le0:BL w y p=false->af (SB.rows true s.fs.length [gN s.fs,gO s.fs] false (c2*2) 38) (IC (s.GJ w y p) c2):=fun h=>by unfold IC;rw[no h];exact af.refl _
  have le1:BL w y p=true->∀ c,af (SB.rows true (s.fs.length+1) [.str fun j=>if j<s.fs.length then(s.fs.getD j ([],[])).1 else lZ [dJ (cat p y.p)] (j - s.fs.length),.str fun j=>if j<s.fs.length then(s.fs.getD j ([],[])).2 else lZ [y.v] (j - s.fs.length)] false (c*2) 38) (IC (s.GJ w y p) c):=fun h c=>by unfold IC;rw[yes h];exact akf
  have wfr:=hw.fr;have wto:=hw.to;refine⟨fun hv=>⟨⟨wfr,wto⟩,fun hh=>⟨by omega,fun hk=> ?_,fun hk=> ?_⟩,fun hh=> ?_⟩,fun hv=> ?_⟩
  ·rw[hv,hh,hk] at eb;have l1:=le1 eb;refine⟨rfl,rfl,rfl,⟨⟨by omega,trivial,by omega,by omega⟩,rfl,fun c hc=>⟨rfl,⟨c,?_⟩⟩⟩⟩;rw[if_pos (show BL w y p=true from eb),List.length_append]
   have l1:=l1 c
   repeat' first
    | exact l1
    | exact af.refl _
    | refine And.intro ?_ ?_
    | rfl
    | assumption
    | omega
    | exact trivial
    | fail
  all_goals
   first
    | rw[hv,hh,hk] at eb
    | rw[hv,hh] at eb
    | rw[hv] at eb
   have l0:=le0 (eb.trans (by first | rfl | simp))
   have e0:BL w y p=false:=eb.trans (by first | rfl | simp)
   refine⟨c2,?_⟩;rw[e0];simp only[Bool.false_eq_true,if_false]
   repeat' first
    | exact l0
    | exact af.refl _
    | refine And.intro ?_ ?_
    | rfl
    | assumption
    | omega
    | exact trivial
    | fail
 ·intro c2' hc2' R;refine⟨⟨(0,s.GJ w y p,c1,c2'),⟨⟨Nat.zero_le _,by unfold fz;rfl,hc1,hc2'⟩,?_⟩⟩,fun z hz=> ?_⟩
  ·repeat' first
    | exact af.refl _
    | refine And.intro ?_ ?_
    | rfl
    | assumption
    | omega
    | exact trivial
    | fail
  obtain⟨i,si,d1,d2⟩:=z;obtain⟨hi16,hi,hd1,hd2⟩:=hz;dsimp only at hi16 hi hd1 hd2 ⊢;obtain⟨fi,hlki⟩:=BH (HK w m) (hf.GJ (by omega) w y p) hi;have hlki:s.lk+1<=si.lk:=hlki;have fil:=fi.lk;simp only[-eq_self,Int.toNat_natCast];refine⟨fun hlt=> ?_,fun hlt=> ?_⟩
  ·have hlt:i<16:=by have:=of_decide_eq_true hlt;omega
   simp only[-eq_self,GK y.r hlt];have bad:fz w (z6 w m) y p (i+1) (s.GJ w y p)=none->∀(a b:List UInt8),(tI w (m+1) s y p=true->∃(q:Nat×Nat),((yO w (m+1) s y p).ns.length<=q.1/\(yO w (m+1) s y p).fs.length<=q.2)/\False)/\(tI w (m+1) s y p=false->∃(q:List UInt8×List UInt8),(0:Nat)=0/\af (SB.cells [SV.str false a,SV.str false b] 2 378) (SB.cells [SV.str false q.1,SV.str false q.2] 2 378)/\True):=fun h a b=>by have hB:=alA hl (GG (by omega:i+1<=16) h);rw[hB];exact⟨(fun h=>by cases h),fun _=>⟨(a,b),rfl,aeU,trivial⟩⟩
   refine⟨⟨by omega,by omega,by omega⟩,fun h0=>⟨⟨by omega,by omega⟩,(i+1,si,d1,d2),⟨⟨⟨by show i+1<=16;omega,(pX hi).trans (LM (of_decide_eq_true h0)),hd1,hd2⟩,by show 16 - (i+1)<16 - i;omega⟩,?_⟩⟩,fun h0=> ?_⟩
   ·repeat' first
     | exact af.refl _
     | refine And.intro ?_ ?_
     | rfl
     | assumption
     | omega
     | exact trivial
     | fail
   have h0:=of_decide_eq_false h0;have htl:=alC hy p i;refine⟨by omega,⟨fun h3=>⟨by omega,(),trivial,ao3 (of_decide_eq_true h3) i hlt,?_⟩,fun h3=>⟨(),trivial,by unfold va;rw[if_neg (of_decide_eq_false h3)],?_⟩⟩,fun _ _=>⟨⟨hw.fr,hw.to⟩,fun hM=>⟨rfl,?_⟩,fun hM=>⟨⟨by omega,by omega⟩,(i+1,si,d1,d2),⟨⟨⟨by show i+1<=16;omega,(pX hi).trans (UE hM),hd1,hd2⟩,by show 16 - (i+1)<16 - i;omega⟩,?_⟩⟩⟩⟩
   ·repeat' first
     | exact af.refl _
     | refine And.intro ?_ ?_
     | rfl
     | assumption
     | omega
     | exact trivial
     | fail
   ·repeat' first
     | exact af.refl _
     | refine And.intro ?_ ?_
     | rfl
     | assumption
     | omega
     | exact trivial
     | fail
   rotate_left
   ·repeat' first
     | exact af.refl _
     | refine And.intro ?_ ?_
     | rfl
     | assumption
     | omega
     | exact trivial
     | fail
   have hrl:(y.r i).length<9223372036854775808:=by
    rcases hy.r i hlt with e | e
    ·exact absurd e h0
    ·have:=zw e;omega
   have go: ∀ {yy:Nd} {s2:Wk},l7 w si (y.r i)=some (yy,s2)->s2.Fit (s2.lk+1)/\(401<=s2.lk+m)/\yy.z8/\(va y p i).length<=13*s2.lk/\s2.Small:=fun h=>by obtain⟨q1,q2,q3⟩:=Ov fi h;exact⟨by rw[q2];exact q1,by omega,p7 q3,by omega,q1.small (by omega)⟩
   have on: ∀ {yy:Nd} {s2:Wk},l7 w si (y.r i)=some (yy,s2)->tI w m s2 yy (va y p i)=true->fz w (z6 w m) y p (i+1) (s.GJ w y p)=some (yO w m s2 yy (va y p i)):=fun h hb=>by rw[pX hi,KD h0 hM h,aaG hb]
   have off: ∀ {yy:Nd} {s2:Wk},l7 w si (y.r i)=some (yy,s2)->tI w m s2 yy (va y p i)=false->fz w (z6 w m) y p (i+1) (s.GJ w y p)=none:=fun h hb=>by rw[pX hi,KD h0 hM h,Oz hb]
   refine⟨(⟨w,si,d1,d2⟩,y.r i),⟨hw,fi.small (by omega),⟨hd1,hd2⟩,hrl⟩,?_⟩;dsimp only;have inn:cG (y.r i)=true->l7 w si (y.r i)=some (getD (y.r i),si):=ait;have inh:cG (y.r i)=false->eA (y.r i)=true->hJ w (aa (y.r i))=true->l7 w si (y.r i)=some (getD (w.at (aa (y.r i))),si.take w (aa (y.r i))):=XN;have inb:cG (y.r i)=false->(eA (y.r i)=false∨hJ w (aa (y.r i))=false)->fz w (z6 w m) y p (i+1) (s.GJ w y p)=none:=fun h1 h2=>by rw[pX hi,QN h0 hM (aiu h1 h2)]
   have hsuc:i+1<=16:=by omega
   have hmea:16 - (i+1)<16 - i:=by omega
   refine⟨rfl,rfl,rfl,rfl,rfl,rfl,rfl,⟨rfl,rfl,rfl⟩,trivial,rfl,⟨rfl,rfl,rfl⟩,trivial,af.refl _,af.refl _,af.refl _,rfl,af.refl _,rfl,⟨rfl,rfl,rfl,rfl,rfl⟩,af.refl _,fun h1 e he=> ?_,fun h1=>⟨fun h2=>⟨fun h3 e he=> ?_,fun h3 yy=>bad (inb h1 (.inr h3)) _ _⟩,fun h2 yy=>bad (inb h1 (.inl h2)) _ _⟩⟩
   ·have hfol:=inn h1;obtain⟨g1,g2,g3,g4,g5⟩:=go hfol;refine⟨(⟨w,si,e.1,e.2⟩,getD (y.r i),va y p i),⟨hw,g5,he,g1,g2,g3,g4⟩,?_⟩;dsimp only;have on:=on hfol;have off:=off hfol
    repeat' first
     | exact fun hb yy=>bad (off hb) _ _
     | refine fun hb q hq=>⟨⟨by omega,by omega⟩,(i+1,yO w m si (getD (y.r i)) (va y p i),q.1,q.2),⟨⟨hsuc,on hb,hq.1,hq.2⟩,hmea⟩,?_⟩
     | exact af.refl _
     | refine And.intro ?_ ?_
     | rfl
     | assumption
     | omega
     | exact trivial
     | fail
   ·have hfol:=inh h1 h2 h3;obtain⟨g1,g2,g3,g4,g5⟩:=go hfol;refine⟨(⟨w,si.take w (aa (y.r i)),e.1,e.2⟩,getD (w.at (aa (y.r i))),va y p i),⟨hw,g5,he,g1,g2,g3,g4⟩,?_⟩;dsimp only;have on:=on hfol;have off:=off hfol
    repeat' first
     | exact fun hb yy=>bad (off hb) _ _
     | refine fun hb q hq=>⟨⟨by omega,by omega⟩,(i+1,yO w m (si.take w (aa (y.r i))) (getD (w.at (aa (y.r i)))) (va y p i),q.1,q.2),⟨⟨hsuc,on hb,hq.1,hq.2⟩,hmea⟩,?_⟩
     | exact af.refl _
     | refine And.intro ?_ ?_
     | rfl
     | assumption
     | omega
     | exact trivial
     | fail
  ·have e16:i=16:=by have:=of_decide_eq_false hlt;omega
   subst e16;obtain⟨k1,k2⟩:=alB hl hi;rw[k1,k2];refine⟨fun _=>⟨(d1,d2),⟨hd1,hd2⟩,?_⟩,(fun h=>by cases h)⟩
   repeat' first
    | exact af.refl _
    | refine And.intro ?_ ?_
    | rfl
    | assumption
    | omega
    | exact trivial
    | fail
end
end Go.Proofs.YtpaaiebohjjieaaGreatDoor
namespace Go.Proofs.YtpaaiebohjjieaaGreatDoor
open Go Sx
set_option maxRecDepth 20000
theorem M1 {m:Nat}(h:au Tryz.prog 140 (kj (Vc m))):aU Tryz.prog (fun f=>aA f (Qg m)):=.cons h (jr _) (.cons U1 (jr _) EA)
theorem aaH: ∀ m,au Tryz.prog 140 (kj (Vc m))
 | 0=>vF (n:=20) (fn:=Tryz.f140) Tryz.func140 (by kernel_rfl) (by kernel_rfl) (Vc 0) fun x hx=>by obtain⟨_,_,_,hf,hm,_⟩:=hx;have:=hf.lk;omega
 | m+1=>vF (n:=20) (fn:=Tryz.f140) Tryz.func140 (by kernel_rfl) (by kernel_rfl) (Vc (m+1)) fun x hx=>⟨aek m x.1 x.2.1 x.2.2,.of bO (M1 (aaH m)) bt,rfl,LU hx⟩
theorem abQ (m:Nat):aU Tryz.prog (fun f=>aA f (Qg m)):=M1 (aaH m)
theorem al7 {p:Prop}[Decidable p](h:(!decide p)=false):p:=by
 cases hd:decide p with
 | true=>exact of_decide_eq_true hd
 | false=>rw[hd] at h;cases h
theorem ama {p:Prop}[Decidable p](h:(!decide p)=true):decide p=false:=by
 cases hd:decide p with
 | true=>rw[hd] at h;cases h
 | false=>rfl
theorem ame {p:Prop}[Decidable p](h:(!decide p)=false):decide p=true:=by
 cases hd:decide p with
 | true=>rfl
 | false=>rw[hd] at h;cases h
theorem Pu {n n':Nat}{f f':Nat->List UInt8}(hn:n<9223372036854775808)(z z':Bool)(o o' c c':Nat)(key key':Option Nat):aq (i7 (aeh n f f') 72 Tryz.f72 [.cC 0 1 z o 0 n c,.cC 1 1 z' o' 0 n' c'] [yH z o c n f key,yH z' o' c' n' f' key'] (.ret (.bool false (nT n f n' f')))):=by
 refine aq.j7 (aiU n n' f f' z z' o o' c c' key key') (by delta Fk Bk I6 Ix Sr Er NI ak aI fK dM eX fo bn cg mz gU fh jb fN lF bS eV iY eJ iU yd kE;exact rfl) ?_;simp only[Int.toNat_natCast,Nat.zero_add];refine⟨fun h=>gW (by rw[nT,ama h];rfl),fun h=>⟨⟨0,⟨Nat.zero_le _,fun j hj=>absurd hj (Nat.not_lt_zero _)⟩,rfl,af.refl _,af.refl _,trivial⟩,fun i hi=>⟨fun a=> ?_,fun a=> ?_⟩⟩⟩
 ·simp only[decide_eq_true_eq] at a;have e:(n:Int)=(n':Int):=al7 h;refine⟨by omega,⟨trivial,by omega⟩,by omega,⟨trivial,by omega⟩,fun b=> ?_,fun b=>⟨by omega,i+1,⟨uY hi a (ame b),by omega⟩,by omega,af.refl _,af.refl _,trivial⟩⟩;exact gW (by rw[nT,zP a (ama b),Bool.and_false])
 ·simp only[decide_eq_false_iff_not] at a;exact gW (by rw[nT,DN hi a,ame h];rfl)
def Fc (vs:List SV)(l:List Seen):Option (Prop×b7):=match vs,l with
 | [_,_],[⟨_,_,_,n,_,[.str f]⟩,⟨_,_,_,n',_,[.str f']⟩]=>some (n<9223372036854775808,.ret (.bool false (nT n f n' f')))
 | _,_=>none
theorem aba:au Tryz.prog 72 (bE aqn Fc):=by
 refine gq (n:=20) (fn:=Tryz.f72) Tryz.func72 (by kernel_rfl) (by kernel_rfl) ?_;intro vs l q a h hq;unfold Fc at h;split at h
 ·rename_i v v' key z o n c f key' z' o' n' c' f';injection h with h;injection h with h1 h2;subst h1;subst h2;exact⟨_,an0 n f f',rfl,rfl,Pu hq z z' o o' c c' key key'⟩
 ·cases h
def dh (f:Nat->List UInt8):Nat->List UInt8->Bool
 | 0=>fun _=>false
 | i+1=>fun h=>dh f i h||decide (h=cT (f i))
def eZ (f:Nat->List UInt8):Nat->List UInt8->Int
 | 0=>fun _=>0
 | i+1=>fun h=>bif dh f i h then eZ f i h else(bif decide (h=cT (f i))then(i:Int)else 0)
theorem Cj (f:Nat->List UInt8): ∀(n:Nat) (h:List UInt8),dh f n h=true->0<=eZ f n h/\eZ f n h<n/\cT (f (eZ f n h).toNat)=h
 | 0,h,e=>by cases e
 | n+1,h,e=>by
   unfold eZ;cases hd:dh f n h with
   | true =>obtain⟨h1,h2,h3⟩:=Cj f n h hd;exact⟨h1,by show eZ f n h<_;omega,h3⟩
   | false =>
     have hs:decide (h=cT (f n))=true:=by unfold dh at e;rw[hd,Bool.false_or] at e;exact e
     rw[hs];simp only[cond_true,cond_false,Int.toNat_natCast];exact⟨by omega,by omega,(of_decide_eq_true hs).symm⟩
theorem Ec (f:Nat->List UInt8): ∀(n j:Nat),j<n->dh f n (cT (f j))=true
 | 0,j,h=>absurd h (Nat.not_lt_zero _)
 | n+1,j,h=>by
   unfold dh;by_cases e:j=n
   ·subst e;simp
   ·rw[Ec f n j (by omega)];rfl
theorem A8 (f:Nat->List UInt8): ∀(n:Nat),eZ f n (cT (f 0))=0
 | 0=>rfl
 | n+1=>by
   unfold eZ;cases n with
   | zero=>simp[dh]
   | succ n=>rw[Ec f (n+1) 0 (by omega),A8 f (n+1)];rfl
theorem Iu {f:Nat->List UInt8}{n:Nat}{root:List UInt8}:(dh f n root=true/\eZ f n root=0)↔(0<n/\cT (f 0)=root):=by
 constructor
 ·rintro⟨h1,h2⟩;obtain⟨_,g2,g3⟩:=Cj f n root h1;rw[h2] at g2 g3;exact⟨by omega,g3⟩
 ·rintro⟨h1,rfl⟩;exact⟨Ec f n 0 h1,A8 f n⟩
def leB (a b:List UInt8):Bool:=Op.bytesLess a b||decide (a=b)
def Sp.full (w:Sp):Sp:={w with ad:=dh w.f w.n,ag:=eZ w.f w.n}
def Wk.start:Wk:=⟨fun _=>false,fun _=>0,[],0,[]⟩
def sj (root:List UInt8)(w:Sp):Option Wk:=bif hJ w root then z6 w 401 (Wk.start.take w root) (getD (w.at root)) [] else none
def eE (root:List UInt8)(w:Sp):Option (List (List UInt8×List UInt8)) :=
 bif leB w.fr w.to&&(decide (0<w.n)&&(decide (w.n<=200)&&decide (cT (w.f 0)=root)))then(match sj root w.full with
  | some s=>bif nT s.ns.length (fun i=>s.ns.getD i []) w.n w.f then some s.fs else none
  | none=>none)else none
def DU (root:List UInt8)(w:Sp):List (List UInt8×List UInt8):=match eE root w with
 | some l=>l
 | none=>[]
def Q6 (root:List UInt8)(w:Sp):b7:=.fork (eE root w).isSome fun b=>match b with
 | true=>.all Nat fun c=>.req ((DU root w).length<=c) (.new (fun k=>.bL [.bI k 2 true 0 (DU root w).length c,.int .i64 true 0]) (.rows true (DU root w).length [gN (DU root w),gO (DU root w)] false (c*2) 38))
 | false=>.ret (.bL [.aO,.int .i64 true 10])
def ap9 (st:Sx.St)(i:Nat):Nat:=match st.m.get (Nw st i)with
 | some (.cells [.map k] _ _)=>k
 | _=>0
def adB (w:Sp):bp :={α:=Nat,pre:=fun _ i=>i<=w.n,sM:=fun _ i=>w.n - i,fresh:=0,slots:=fun _ i=>[(37,.int .i64 false i)],mem:=fun st i=>[(ap9 st 8,.fmap (dh w.f i) (.int .i64 (eZ w.f i)) none)]}
noncomputable def afR:List (FuncId×PT):=(72,bE aqn Fc)::Qg 401
noncomputable def aei (w:Sp):gF:={cF with cM:=fun f=>aA f afR,aR:=fun f=>if f=26 then [(5,always (adB w))] else []}
theorem abR:aU Tryz.prog (fun f=>aA f afR):=.cons aba (bJ _ _) (abQ 401)
theorem an2 (w:Sp):Sx.Good Tryz.prog (aei w):=.of bO abR bt
def Q3 (w:Sp)(kk:Option Nat):Seen:=⟨kk,w.z,w.o,w.n,w.c,[.str w.f]⟩
section
variable (n : Nat) (s : List UInt8) (v : SV) (B : SB) (z : BW × Nd × List UInt8) (y : Option Nat) (x : Sp)
abbrev CS:=dY (∃(a:Nat),bT (List.length (DU s x)) a False) v v (Option.isSome (eE s x))
abbrev Zo:=iY (Sr (cR 1 (SV.map 3) List.nil 161)) (Sr (c8 1 (lp 0 x.o 0 x.n x.c x.z) 28)) True B (Seen.B (Q3 x y))
abbrev NK:=iX (dh x.f n) (eZ x.f n)
abbrev ag3:=SB.view x.z x.o x.n (bD x.f)
abbrev uE:=yO (iz z) 401 (kD z) (kV z) (ku z)
end
theorem Yc (root:List UInt8)(w:Sp)(kk:Option Nat):VC.holds (i7 (aei w) 26 Tryz.f26 [.str false root,.agg [.str false w.fr,.str false w.to],.cC 0 1 w.z w.o 0 w.n w.c] [Q3 w kk] (Q6 root w))=((fun(a:SV)=>(fun(b:BW×List UInt8->Nd)=>(fun(c:SB)=>bn (CS root a w) (cS (CS root a w) (fA w.n (CS root a w) ((∃(a:Nat),cZ (a<=w.n) (fh a) (Zo c kk w) (SB.map List.nil 0) (NK a w))/\(∀(d:Nat),aX d w.n (fA w.n (gQ (kE d w.n) (eJ w.o (bS d) w.n) True (Zb [w.f (bS d)]) (bn (fN d (fun a=>cZ (bT a w.n (w.n - a<w.n - d)) (gU d a) (Zo c kk w) (iX (n6 (dh w.f d) (cT (flat [w.f (bS d)]))) (w5 (eZ w.f d) (cT (flat [w.f (bS d)])) (NI d))) (NK a w))) (fN d (fun a=>cZ (bT a w.n (w.n - a<w.n - d)) (gU d a) (Zo c kk w) (NK d w) (NK a w))) (dh w.f d (cT (flat [w.f (bS d)]))))) (bn (CS root a w) (bn (CS root a w) (∃(c:BW×List UInt8),aL (aal c) aW (root=c.2) (bl jY (w.fr=nG c) (w.to=nH c) aW aW (iR c=0) (0=nE c) (kC c=0) (bl (mW (SB.map List.nil 0) (fB c)) (oh (G5 (fB c) (pK c))) (oh (IC (fB c) (sU c))) kH (af (NK d w) (nB c)) kH (aI (w.z=(e9 c).z) (w.o=(e9 c).o) aW (w.n=uP c) (w.c=(e9 c).c)) (af (ag3 w) (Ka c)) (Bk (hJ (e9 c) c.2) (∀(d:Nat×Nat),Dc d c->(∃(e:BW×Nd×List UInt8),bl (ak (Sp.Ok (iz e)) (Wk.Small (kD e)) (aI (bT (yj e) (rN e) (nD e<=wJ e)) (Wk.Fit (kD e) (aP (ym e))) (401<=ym e+401) (Nd.z8 (kV e)) (List.length (ku e)<=13*ym e))) aW ((b c).k=(kV e).k) ((b c).p=(kV e).p) ((b c).v=(kV e).v) (cV 0 0 (b c) e) (cV 1 1 (b c) e) (cV 2 2 (b c) e) (bl (cV 3 3 (b c) e) (cV 4 4 (b c) e) (cV 5 5 (b c) e) (cV 6 6 (b c) e) (cV 7 7 (b c) e) (cV 8 8 (b c) e) (cV 9 9 (b c) e) (cV 10 10 (b c) e) (bl (cV 11 11 (b c) e) (cV 12 12 (b c) e) (cV 13 13 (b c) e) (cV 14 14 (b c) e) (cV 15 15 (b c) e) ([]=ku e) jY (nG c=mR e) (bl (nH c=mS e) aW aW (dn (AG c) (yj e) d.1 (rN e)) True (nE c=AF e) (dn (kC c) (nD e) d.2 (wJ e)) True (bl (mW (T7 c) (kD e)) (qv (rN e) (Us d c) (kD e)) (oo (wJ e) (Gt d c) (kD e)) kH (af (nB c) (uC e)) kH (T6 e c) (af (ag3 w) (Gf e)) (Bk (tI (iz e) 401 (kD e) (kV e) (ku e)) (∀(b:Nat×Nat),eY (lT (uE e)) b.1 (lR (uE e)) b->cH (jh (jw/\cI (lT (uE e)) (lT (uE e))) (ak ((iz e).z=w.z) (w.o=(iz e).o) (cI (iz e).n w.n))/\cr (lT (uE e))) (CS root a w) (Bk (Option.isSome (eE root w)) (∃(a:Nat),gK (List.length (DU root w)) a (af (eC (lR (uE e)) (b.2*2) 38 (cU (fun a=>(lS a (uE e).fs).1) (bD (fun a=>(lS a (uE e).fs).2)))) (cq (List.length (DU root w)) a 2 38 (gN (DU root w)::cB (gO (DU root w))))) (jg (fX 29 2 (lR (uE e)) b.2) (fV (fX 29 2 (List.length (DU root w)) a)))) (jg (fX 29 2 (lR (uE e)) b.2) a)) (nT (lT (uE e)) (fun a=>c9 a (uE e).ns) (iz e).n w.f)) (∀(_:List UInt8×List UInt8),CS root a w)))))))) (∀(_:List UInt8×List UInt8),CS root a w))))) (eX (dflt (dh w.f d root) (eZ w.f d root)) 0)) (dh w.f d root)) (NI d)))) 200) (NI w.n) 0) (Op.bytesLess w.fr w.to||eV w.fr w.to)) (c8 2 (wS (ax w.fr) (ax w.to)) 40)) (fun a=>Gs a)) (qw (bx 10))):=by kernel_rfl
structure Sp.th (w:Sp):Prop where
 f: ∀ i,i<w.n->(w.f i).length<=1000
 fr:w.fr.length<=1000
 to:w.to.length<=1000
theorem Mo (f:Nat->List UInt8): ∀ {n:Nat} {h:List UInt8},dh f n h=false->eZ f n h=0
 | 0,_,_=>rfl
 | n+1,h,e=>by unfold dh at e;simp only[Bool.or_eq_false_iff] at e;unfold eZ;rw[e.1,e.2];rfl
theorem FL (f:Nat->List UInt8)(n:Nat)(t:List UInt8):eZ f (n+1) t=bif dh f n t then eZ f n t else(bif decide (t=cT (f n))then(n:Int)else 0):=rfl
theorem Mp {f:Nat->List UInt8}{n:Nat}(h:dh f n (cT (f n))=false):(∀ t,n6 (dh f n) (cT (f n)) t=dh f (n+1) t)/\(∀ t,w5 (eZ f n) (cT (f n)) n t=eZ f (n+1) t):=by
 refine⟨fun t=>rfl,fun t=> ?_⟩;rw[FL];unfold w5;by_cases e:t=cT (f n)
 ·subst e;rw[h];simp
 ·rw[decide_eq_false e];cases hd:dh f n t with
  | true=>rfl
  | false=>exact Mo f hd
theorem Mq {f:Nat->List UInt8}{n:Nat}(h:dh f n (cT (f n))=true):(∀ t,dh f n t=dh f (n+1) t)/\(∀ t,eZ f n t=eZ f (n+1) t):=by
 refine⟨fun t=> ?_,fun t=> ?_⟩
 ·show _=(dh f n t||decide (t=cT (f n)))
  by_cases e:t=cT (f n)
  ·subst e;rw[h];rfl
  ·rw[decide_eq_false e,Bool.or_false]
 ·rw[FL];cases hd:dh f n t with
  | true=>rfl
  | false =>
    by_cases e:t=cT (f n)
    ·subst e;rw[h] at hd;cases hd
    ·rw[decide_eq_false e];exact Mo f hd
theorem Ow (w:Sp)(t:List UInt8):(Wk.start.take w t).Fit 1:=Wk.Fit.take (k:=0) ⟨fun _=>⟨Int.le_refl _,Int.le_refl _⟩,Nat.le_refl _,Nat.le_refl _,Nat.zero_le _⟩ w t
theorem aqB {b:Bool}(h:(!b)=true):b=false:=by cases b<;>simp_all
theorem aqC {b:Bool}(h:(!b)=false):b=true:=by cases b<;>simp_all
section
attribute [local irreducible] cT ey getD dh eZ hasB Cs ay z6 tI yO nT
set_option maxHeartbeats 1000000 in
theorem U2 {w:Sp}(hw:w.th)(root:List UInt8)(kk:Option Nat) :
  aq (i7 (aei w) 26 Tryz.f26 [.str false root,.agg [.str false w.fr,.str false w.to],.cC 0 1 w.z w.o 0 w.n w.c] [Q3 w kk] (Q6 root w)):=by
 refine aq.j7 (Yc root w kk) (by delta Fk Bk I6 Ix Sr Er NI bf aX aF bx ak k6 cR cY aI aL gi cS kG ax eX gQ cr dY fo jg bn cQ fV aP c8 eC cU bD fX aW bT dn dZ cq oh cI gK qw kH cB eY gU fh jb jh fN bl cZ fA cH lF c9 bS eV iY eJ wS lp jw fB e9 sU pK T1 lR kC iX nB uP AI nE mW nG nH Gs iR AG Dc oo qv jY Ka T7 lS Gt Us aal yx wT lT iz kD kV ku rN wJ uC Gf nI nD T6 yj ym mR mS AF cV kE CS Zo NK ag3 uE;exact rfl) ?_;dsimp only;have S: ∀ v:SV,ah v v:=fun _ _=>rfl
 have eR:eE root w=bif leB w.fr w.to&&(decide (0<w.n)&&(decide (w.n<=200)&&decide (cT (w.f 0)=root)))then(match sj root w.full with
  | some s=>bif nT s.ns.length (fun i=>s.ns.getD i []) w.n w.f then some s.fs else none
  | none=>none)else none:=rfl
 have bad:eE root w=none->∀ {A B:Prop},B->((eE root w).isSome=true->A)/\((eE root w).isSome=false->B):=fun h A B b=>by rw[h];exact⟨(fun h=>by cases h),fun _=>b⟩
 refine⟨fun h=>bad (by rw[eR,show leB w.fr w.to=false by simpa [leB] using h];rfl) (S _),fun hle=>⟨fun h0=>bad (by rw[eR,show decide (0<w.n)=false from decide_eq_false (by have:=of_decide_eq_true h0;omega)];simp) (S _),fun h0=>⟨fun h2=>bad (by rw[eR,show decide (w.n<=200)=false from decide_eq_false (by have:=of_decide_eq_true h2;omega)];simp) (S _),fun h2=> ?_⟩⟩⟩
 have hle:leB w.fr w.to=true:=by unfold leB;simpa only[Bool.not_eq_false'] using hle
 have h0:0<w.n:=by have:=of_decide_eq_false h0;omega
 have h2:w.n<=200:=by have:=of_decide_eq_false h2;omega
 refine⟨⟨0,Nat.zero_le _,rfl,af.aeW fun s=>by unfold dh;rfl,af.refl _,af.refl _,af.refl _,af.refl _,trivial⟩,fun x hx=>⟨fun hlt=> ?_,fun hge=> ?_⟩⟩
 ·have hlt:x<w.n:=by have:=of_decide_eq_true hlt;omega
  have hf:=hw.f x hlt;simp only[-eq_self,tU,Int.toNat_natCast,Nat.zero_add];refine⟨⟨by omega,by omega⟩,⟨rfl,hlt⟩,⟨trivial,by rw[tU];omega,by simp⟩,fun hd=>⟨⟨by omega,by omega⟩,x+1,⟨hlt,by omega⟩,by omega,?_⟩,fun hd=>⟨⟨by omega,by omega⟩,x+1,⟨hlt,by omega⟩,by omega,?_⟩⟩
  ·have hd:dh w.f x (cT (w.f x))=false:=by simpa using hd
   exact⟨af.fmap (Mp hd).1 fun t=>congrArg (Value.int .i64) ((Mp hd).2 t),af.refl _,af.refl _,af.refl _,af.refl _,trivial⟩
  ·have hd:dh w.f x (cT (w.f x))=true:=by simpa using hd
   exact⟨af.fmap (Mq hd).1 fun t=>congrArg (Value.int .i64) ((Mq hd).2 t),af.refl _,af.refl _,af.refl _,af.refl _,trivial⟩
 ·have hx:x=w.n:=by have:=of_decide_eq_false hge;omega
  subst hx;have noroot: ¬ (dh w.f w.n root=true/\eZ w.f w.n root=0)->eE root w=none:=fun h=>by have: ¬ cT (w.f 0)=root:=fun e=>h (Iu.2 ⟨h0,e⟩);rw[eR,decide_eq_false this];simp
  refine⟨fun hr=>bad (noroot fun h=>by rw[h.1] at hr;cases hr) (S _),fun hr=> ?_⟩;have hr:dh w.f w.n root=true:=by simpa using hr
  refine⟨fun hz=>bad (noroot fun h=>by rw[h.1,h.2] at hz;cases hz) (S _),fun hz=> ?_⟩;have hz:eZ w.f w.n root=0:=by rw[hr] at hz;exact al7 (p:=eZ w.f w.n root=0) hz
  have hroot:cT (w.f 0)=root:=(Iu.1 ⟨hr,hz⟩).2
  have eR:eE root w=(match sj root w.full with
   | some s=>bif nT s.ns.length (fun i=>s.ns.getD i []) w.n w.f then some s.fs else none
   | none=>none):=by rw[eR,hle,decide_eq_true h0,decide_eq_true h2,decide_eq_true hroot];rfl
  have hok:w.full.Ok:=⟨h2,hw.f,fun h e=>by obtain⟨g1,g2,_⟩:=Cj w.f w.n h e;exact⟨g1,g2⟩,hw.fr,hw.to⟩
  refine⟨(⟨w.full,Wk.start,0,0⟩,root),⟨hok,⟨fun _=>⟨Int.le_refl _,show(0:Int)<=1000 by decide⟩,Nat.zero_le _,Nat.zero_le _,Nat.zero_le _⟩,⟨Nat.le_refl _,Nat.le_refl _⟩,trivial⟩,?_⟩;dsimp only;refine⟨rfl,rfl,rfl,rfl,rfl,rfl,rfl,rfl,rfl,rfl,af.aeW fun _=>rfl,rfl,rfl,rfl,af.refl _,rfl,⟨rfl,rfl,rfl,rfl,rfl⟩,af.refl _,fun hL c hc=> ?_,fun hL c=>bad (by rw[eR,sj,hL];rfl) (S _)⟩;have hg:ey (w.full.at root)=true:=by simp only[hJ,Bool.and_eq_true] at hL;exact hL.2
  have hfit:=Ow w.full root;have eW:sj root w.full=z6 w.full 401 (Wk.start.take w.full root) (getD (w.full.at root)) []:=by rw[sj,hL];rfl
  refine⟨(⟨w.full,Wk.start.take w.full root,c.1,c.2⟩,getD (w.full.at root),[]),⟨hok,hfit.small (by decide),hc,hfit,(by show 401<=0+401;decide),p7 (zf hg),Nat.zero_le _⟩,?_⟩;dsimp only
  repeat' first
   | exact af.refl _
   | refine And.intro ?_ ?_
   | rfl
   | exact trivial
   | fail
  ·intro hB e he;have hs:=aaG hB;have k1:=(HK w.full 401 _ _ _ _ hfit hs).1;generalize yO w.full 401 (Wk.start.take w.full root) (getD (w.full.at root)) []=s' at hs k1 he ⊢;have eR:eE root w=bif nT s'.ns.length (fun i=>s'.ns.getD i []) w.n w.f then some s'.fs else none:=by rw[eR,eW,hs]
   have hns:=k1.ns;have hlk:=k1.lk;refine⟨⟨⟨⟨rfl,by omega⟩,⟨rfl,rfl,by show 0+w.n<=w.n;omega⟩,trivial⟩,by omega⟩,fun hq=>bad (by rw[eR,show nT s'.ns.length (fun i=>s'.ns.getD i []) w.n w.f=false from aqB hq];rfl) (S _),fun hq=> ?_⟩
   have hq:nT s'.ns.length (fun i=>s'.ns.getD i []) w.n w.f=true:=aqC hq;have eR:eE root w=some s'.fs:=by rw[eR,hq];rfl
   have eL:DU root w=s'.fs:=by unfold DU;rw[eR]
   rw[eR,eL];exact⟨fun _=>⟨e.2,he.2,af.refl _,S _⟩,(fun h=>by cases h)⟩
  ·exact fun hB c=>bad (by rw[eR,eW,Oz hB]) (S _)
end
def alq:List AZ:=[.of .one,.agg [.one,.one],.of (.slice [.str fun _=>[]])]
def aoY (vs:List SV)(l:List Seen):Option (List UInt8×Sp×Option Nat):=match vs,l with
 | [.str false root,.agg [.str false fr,.str false to],_],[⟨kk,z,o,n,c,[.str f]⟩]=>some (root,⟨fr,to,n,f,z,o,c,fun _=>false,fun _=>0⟩,kk)
 | _,_=>none
theorem alr {vs:List SV}{l:List Seen}{root:List UInt8}{w:Sp}{kk:Option Nat}(h:aoY vs l=some (root,w,kk)):filled alq vs l=[.str false root,.agg [.str false w.fr,.str false w.to],.cC 0 1 w.z w.o 0 w.n w.c]/\l=[Q3 w kk]:=by
 unfold aoY at h;split at h
 ·injection h with h;injection h with h1 h;injection h with h2 h3;subst h1;subst h2;subst h3;exact⟨rfl,rfl⟩
 ·cases h
def zM (vs:List SV)(l:List Seen):Option (Prop×b7):=match aoY vs l with
 | some (root,w,_)=>some (w.th,Q6 root w)
 | none=>none
theorem aav (l:List (List UInt8×List UInt8))(c:Nat):(b7.req (l.length<=c) (.new (fun k=>.bL [.bI k 2 true 0 l.length c,.int .i64 true 0]) (.rows true l.length [gN l,gO l] false (c*2) 38))).Ok:=by
 refine⟨rfl,rfl,fun k=>by simp[SV.wf,SV.gM,Nat.blt_eq],fun E E' k k' h=> ?_⟩;simp only[SV.val,SV.vals];cases l with
 | nil=>rfl
 | cons a r=>rw[h (SB.mc (i:=0) (Nat.succ_pos _))]
theorem acI (root:List UInt8)(w:Sp):(Q6 root w).Ok:=by
 intro b;cases b with
 | false=>rfl
 | true=>intro c;exact aav (DU root w) c
theorem U3:au Tryz.prog 26 (bE alq zM):=by
 refine gq (n:=20) (fn:=Tryz.f26) Tryz.func26 (by kernel_rfl) (by kernel_rfl) ?_;intro vs l q a h hq;unfold zM at h;split at h
 ·rename_i root w kk hx;injection h with h;injection h with h1 h2;subst h1;subst h2;obtain⟨e1,e2⟩:=alr hx;rw[e1,e2];exact⟨_,an2 w,rfl,acI root w,U2 hq root kk⟩
 ·cases h
end Go.Proofs.YtpaaiebohjjieaaGreatDoor
namespace Go.Proofs.YtpaaiebohjjieaaGreatDoor
open Go Sx
set_option maxRecDepth 20000
theorem Jb: ∀ {a b c:List UInt8},Op.bytesLess a b=true->Op.bytesLess b c=true->Op.bytesLess a c=true
 | [],[],_,h,_=>by cases h
 | _::_,[],_,h,_=>by cases h
 | _,_::_,[],_,h=>by cases h
 | [],_::_,_::_,_,_=>rfl
 | a::p,b::q,c::r,h,h'=>by
   rw[ue,Bool.or_eq_true,Bool.and_eq_true,decide_eq_true_eq,decide_eq_true_eq] at h h' ⊢;rcases h with h | ⟨rfl,h⟩
   ·rcases h' with h' | ⟨rfl,_⟩
    ·exact .inl (UInt8.lt_trans h h')
    ·exact .inl h
   ·rcases h' with h' | ⟨rfl,h'⟩
    ·exact .inl h'
    ·exact .inr ⟨rfl,Jb h h'⟩
structure OM (l:List (List UInt8×List UInt8)):Prop where
 KN:l.Pairwise fun a b=>Op.bytesLess a.1 b.1=true
 key: ∀ x,x∈ l->x.1≠[]/\x.1.length<=6
 val: ∀ x,x∈ l->0<x.2.length/\x.2.length<=80
theorem D9 {l:List (List UInt8×List UInt8)}(h:OM l):dI 13 (rowsOf l):=by
 refine⟨?_,fun x hx=> ?_,fun x hx b hb=> ?_,fun x hx=> ?_⟩
 ·unfold AY rowsOf;rw[List.pairwise_map];exact h.KN.imp MO
 all_goals
  obtain⟨e,he,rfl⟩:=List.mem_map.1 hx
 ·have:=(h.key e he).2;show(ay e.1).length<13;rw[zB];omega
 ·exact xV e.1 b hb
 ·exact h.val e he
theorem FR (fr to:List UInt8)(l:List (List UInt8×List UInt8)):mw fr to [] (rowsOf l)=cO fr to l:=by
 unfold mw rowsOf cO;rw[List.filter_map,List.map_map];have e:((fun r:Rw=>hasB fr to (cat [] r.1))∘ fun e:List UInt8×List UInt8=>(ay e.1,e.2))=fun e=>hasB fr to (ay e.1):=rfl;rw[e];have: ∀ l:List (List UInt8×List UInt8),l.map ((fun r:Rw=>(dJ (cat [] r.1),r.2))∘ fun e=>(ay e.1,e.2))=l:=fun l=>by
  induction l with
  | nil=>rfl
  | cons x r ih =>rw[List.map_cons,ih];show(dJ (ay x.1),x.2)::r=x::r;rw[rH]
 exact this _
theorem BT (m:Nat):bB (dR m [])=true:=by cases m<;>kernel_rfl
theorem aiH {w:Sp}{j:Nat}{s s':Wk}{p:List UInt8}(h:z6 w j s gV p=some s'):s'.fs=s.fs:=by
 cases j with
 | zero=>cases h
 | succ j =>
   unfold z6 at h;split at h
   ·cases h
   ·have key: ∀ n,n<=16->∀ s1:Wk,fz w (z6 w j) gV p n s1=some s1:=by
     intro n;induction n with
     | zero=>intro _ s1;rfl
     | succ n ih =>intro hn s1;unfold fz;rw[ih (by omega)];have:gV.r n=[]:=rG n (by omega);unfold jZ;simp only[this,if_true]
    rw[key 16 (Nat.le_refl _)] at h;injection h with h;rw[← h];rfl
theorem sound {l:List (List UInt8×List UInt8)}{w:Sp}{root:List UInt8}{fs:List (List UInt8×List UInt8)}(hl:OM l)(hroot:root=cT (ctext 13 (rowsOf l)))(h:eE root w=some fs) :
  fs=cO w.fr w.to l∨∃ i t,i<w.n/\t∈ j5 13 (rowsOf l)/\cw (w.f i) t=true:=by
 by_cases hC: ∃ i t,i<w.n/\t∈ j5 13 (rowsOf l)/\cw (w.f i) t=true
 ·exact .inr hC
 have same: ∀ i t,i<w.n->t∈ j5 13 (rowsOf l)->cT (w.f i)=cT t->w.f i=t:=fun i t hi ht e=>by
  by_cases e1:w.f i=t
  ·exact e1
  ·exact absurd ⟨i,t,hi,ht,by rw[cw,decide_eq_false e1,decide_eq_true e];rfl⟩ hC
 cases hb:(leB w.fr w.to&&(decide (0<w.n)&&(decide (w.n<=200)&&decide (cT (w.f 0)=root))))with
 | false=>unfold eE at h;rw[hb] at h;cases h
 | true =>
   unfold eE at h;rw[hb,cond_true] at h;simp only[Bool.and_eq_true,decide_eq_true_eq] at hb;obtain⟨_,h0,_,h3⟩:=hb;have e0:w.f 0=ctext 13 (rowsOf l):=same 0 _ h0 (List.mem_cons_self ..) (h3.trans hroot);split at h
   ·rename_i s hs;cases hsame:nT s.ns.length (fun i=>s.ns.getD i []) w.n w.f with
    | false=>rw[hsame] at h;cases h
    | true =>
      rw[hsame,cond_true] at h;injection h with h;subst h;left;unfold sj at hs;cases hlk:hJ w.full root with
      | false=>rw[hlk] at hs;cases hs
      | true =>
        rw[hlk,cond_true] at hs;have hat:w.full.at root=ctext 13 (rowsOf l):=by show w.f (eZ w.f w.n root).toNat=_;rw[← h3,A8];exact e0
        rw[hat] at hs;have hcl:Clear w.full (gr 13 (rowsOf l)):=fun t ht hlt=>by
         have hd:dh w.f w.n (cT t)=true:=by unfold hJ at hlt;rw[Bool.and_eq_true] at hlt;exact hlt.1
         obtain⟨g1,g2,g3⟩:=Cj _ _ _ hd;show w.f (eZ w.f w.n (cT t)).toNat=t;exact same _ t (by omega) (List.mem_cons_of_mem _ ht) g3
        by_cases hne:rowsOf l=[]
        ·have:l=[]:=List.map_eq_nil_iff.1 hne;subst this;rw[show getD (ctext 13 (rowsOf []))=dR 13 [] from kS (BT 13)] at hs
         exact aiH hs
        ·have hr:=D9 hl;rw[kS (jC (Nat.le_refl _) hr hne)] at hs;have:=aaI hr hne (SF (Nat.le_refl _) hr hcl) (fun x hx=>by obtain⟨e,_,rfl⟩:=List.mem_map.1 hx;exact agv e.1) hs
         rw[this,FR];rfl
   ·cases h
theorem zH {z:Bool}{n tot:Nat}{cs:List aK}{ty:TypeId}:af (.rows z n cs false tot ty) (.rows z n cs true tot ty) :=af.of rfl rfl fun hno=>⟨hno,fun E o ⟨c,fr,h1,_,h3⟩=>⟨c,fr,h1,fun h=>(by cases h),h3⟩,fun h=>(by cases h)⟩
theorem UL {n n' k k' c c':Nat}{f f':Nat->Nat}{ty:TypeId}(hn:n=n')(hc:c=c')(hf: ∀ i,i<n->f i=f' i):af (.rows true n [.ref k f] false (c*1) ty) (.rows true n' [.ref k' f'] false (c'*1) ty):=by
 refine sZ hn (by rw[hc]) rfl fun j d d' h1 h2 i hi E=> ?_
 match j,h1,h2 with
 | 0,h1,h2 =>injection h1 with h1;injection h2 with h2;subst h1;subst h2;show(SV.iq k' (f' i) 0).val E=(SV.iq k (f i) 0).val E;rw[hf i hi];rfl
 | j+1,h1,_=>simp at h1
theorem ah6 (m:Nat)(l:List Rw)(i j:Nat):(if i=j then Bm m (bF l i)else KE m l i j)=KE m l (i+1) j:=by
 unfold KE;by_cases h:i=j
 ·subst h;rw[if_pos rfl,if_pos (Nat.lt_succ_self _)]
 ·rw[if_neg h];by_cases h2:j<i
  ·rw[if_pos h2,if_pos (by omega)]
  ·rw[if_neg h2,if_neg (by omega)]
theorem Rx (m:Nat)(x:List Rw×Nat)(hx:(D1 (m+1)).pre x):aq (runM (Yq m x.1) 57 Tryz.f57 (D1 (m+1)) x):=by
 refine aq.Qz (alH m x) (by delta Fk Bk I6 Ix Er NI cn bf aX aF bC bx bh ak cR aI aL bH cS ax iG aS aP pS eC cU bT dZ cq oh cI gK cB cg gB gp jh bl cZ fM gA fU aD c9 dW ja zY uz NH qz0 wK qu jw mY CU qi AB mU yw lU qt qp rX wR F6 Dj uK GB mT Gy Gx oI TL Ax Gk lq mX Xp wN yh ahQ ak5 ahR ak7 Ul Kx qe Ky ahC agN ahD AD agP Ap JS agQ agR agT Z1 Z0 agW wI ye NP NQ aaa aac ahc ZN od ZP ZR ahu ahv Z8;exact rfl) ?_;obtain⟨h1,h2,h3⟩:=hx;obtain⟨l,c⟩:=x;have h1:dI (m+1) l:=h1;have h2:l.length<=1000:=h2;simp only[Int.toNat_natCast,Nat.zero_add,true_and,decide_eq_true_eq,decide_eq_false_iff_not];refine⟨fun h0=> ?_,fun h0=>⟨fun h5=> ?_,fun h5=> ?_⟩⟩
 ·have hl:l=[]:=List.length_eq_zero_iff.1 (by omega);subst hl;exact⟨Ck (m:=m) (l:=[]) (by omega) h1,fun _ a=>HW (m:=m) (l:=[]) rfl (HT fun _=>rfl) a,fun hv=>absurd (BT (m+1)) (by rw[show bB (dR (m+1) [])=false from hv];decide)⟩
 ·obtain⟨r,hr⟩: ∃ r,l=[r]:=List.length_eq_one_iff.1 (by omega);subst hr;refine⟨⟨Int.le_refl 0,Int.one_pos⟩,Nat.one_pos,⟨Int.le_refl 0,Int.one_pos⟩,Nat.one_pos,Ck (m:=m) (l:=[r]) (by omega) h1,fun _ a=>HW (m:=m) (l:=[r]) rfl (HT fun _=>rfl) a,fun hv=> ?_⟩;have:=jC (m:=m+1) (l:=[r]) (by omega) h1 (List.cons_ne_nil _ _);rw[show bB (dR (m+1) [r])=false from hv] at this;cases this
 ·obtain⟨r,s,t,hl⟩: ∃ r s t,l=r::s::t:=by
   match l,h0,h5 with
   | [],h0,_=>exact absurd rfl h0
   | [_],_,h5=>exact absurd rfl h5
   | r::s::t,_,_=>exact⟨r,s,t,rfl⟩
  have hpos:0<l.length:=by rw[hl];exact Nat.succ_pos _
  have hr:l.getD 0 ([],[])=r:=by rw[hl];rfl
  have he:l.getD ((l.length:Int) - 1).toNat ([],[])=(s::t).getLastD r:=by
   have:((l.length:Int) - 1).toNat=(s::t).length:=by rw[hl,List.length_cons];omega
   rw[this,hl];exact abh r (s::t)
  have hrl:=h1.len r (by rw[hl];exact List.mem_cons_self ..);rw[hr,he];refine⟨⟨by omega,by omega⟩,hpos,⟨by omega,by omega⟩,⟨by omega,by omega⟩,by omega,by omega,fun hk=> ?_,fun hk=> ?_⟩
  ·have hc:=(Ho r.1 ((s::t).getLastD r).1).1;rw[Na];have hrc: ∀ x,x∈ l->cz r.1 ((s::t).getLastD r).1<=x.1.length:=fun x hx=>by have:=zG (by rw[← hl];exact h1.KN) (x:=x) (by rw[← hl];exact hx);have:=congrArg List.length this;rw[List.length_take,List.length_take] at this;omega
   refine⟨⟨by omega,by omega⟩,hpos,⟨by omega,by omega⟩,⟨by omega,by omega⟩,by omega,by omega,⟨by omega,by omega⟩,hpos,⟨by omega,by omega,by omega⟩,⟨?_,?_⟩,fun c' hc'=> ?_⟩
   ·simp
   ·exact⟨by omega,h2,fun i hi=>hrc _ (by rw[List.getD_eq_getElem?_getD,List.getElem?_eq_getElem hi];exact List.getElem_mem hi)⟩
   ·have hkid:bF l 0=c7 (cz r.1 ((s::t).getLastD r).1) l:=by rw[hl,dH,if_pos (by omega),if_pos rfl]
    have hR:=oU h1 0;rw[hkid] at hR;have hlen:(c7 (cz r.1 ((s::t).getLastD r).1) l).length=l.length:=List.length_map _;have hB:=IY m (c7 (cz r.1 ((s::t).getLastD r).1) l);have hB':(m+1)*l.length<=13*1000:=Nat.mul_le_mul (by omega) h2;rw[hlen] at hB;refine⟨⟨_,c',0,0,fun _=>0,Pd.none,[]⟩,⟨hR,by show(c7 _ l).length<=_;omega,by omega,Nat.le_refl _,by rw[List.nil_append];show(wY m (c7 _ l)).length<=_;omega,OH _ _ _⟩,⟨rfl,rfl⟩,zH,rfl,rfl,CL _,CK _,fun y hy=> ?_⟩;have e:dR (m+1) l=⟨2,r.1.take (cz r.1 ((s::t).getLastD r).1),[],bM (Bm m (c7 (cz r.1 ((s::t).getLastD r).1) l))⟩:=by rw[hl];exact aj2 (by omega)
    have es:eK r.1 none (some (Operand.tmp 81)) 0 (cz r.1 ((s::t).getLastD r).1:Int)=r.1.take (cz r.1 ((s::t).getLastD r).1):=by unfold eK;simp
    have eb:gr (m+1) l=wY m (c7 (cz r.1 ((s::t).getLastD r).1) l):=by rw[hl];exact aaW (by omega)
    have hv:=jC (m:=m+1) (l:=l) (by omega) h1 (by rw[hl];exact List.cons_ne_nil _ _);have hf:=Ck (m:=m) (l:=l) (by omega) h1;rw[e] at hf hv;rw[es];exact⟨hf,fun _ a hd2 a1 hd=>D3 (l:=l) (congrArg dQ e).symm eb hd2 hd hy.2,fun hn=>absurd (hv.symm.trans hn) (by decide)⟩
  ·refine⟨⟨(0,⟨0,0,fun _=>0,Pd.none⟩),⟨Nat.zero_le _,Nat.le_refl _,OH _ _ _⟩,rfl,rfl,rfl,CL _,CK _,af.cells (fun _=>rfl) rfl⟩,fun y hy=>⟨fun h=> ?_,fun h=> ?_⟩⟩
   ·obtain⟨y1,y2,y3⟩:=hy;have hkid:bF l y.1=c7 1 (gH y.1 l):=by rw[hl,dH,if_neg (by omega)]
    have hR:=oU h1 y.1;have hbl:=Rt m l (y.1+1);rw[mg] at hbl;rw[hkid] at hR hbl;have hB':(m+1)*l.length<=13*1000:=Nat.mul_le_mul (by omega) h2;have hcl:(gH y.1 l).length<=l.length:=List.length_filter_le _ _;have hdl:(c7 1 (gH y.1 l)).length=(gH y.1 l).length:=List.length_map _;refine⟨(l,c,y.1),h2,⟨rfl,rfl⟩,af.refl _,af.refl _,fun c1 hc1=>⟨rfl,⟨by simp,by decide,by show(gH y.1 l).length<=_;omega,fun i hi=> ?_⟩,fun c2 hc2=> ?_⟩⟩
    ·have hm:(gH y.1 l).getD i ([],[])∈ gH y.1 l:=by rw[List.getD_eq_getElem?_getD,List.getElem?_eq_getElem hi];exact List.getElem_mem hi
     have hh:=(List.mem_filter.1 hm).2;show 1<=((gH y.1 l).getD i ([],[])).1.length;cases hp:((gH y.1 l).getD i ([],[])).1 with
     | nil=>rw[hp] at hh;cases hh
     | cons b q=>exact Nat.succ_pos _
    ·rw[Na];refine⟨⟨c7 1 (gH y.1 l),c2,y.2.nb,y.2.cb,y.2.f,y.2.P,jS m l y.1⟩,⟨hR,by show(c7 1 _).length<=_;omega,by omega,y2,by show(jS m l y.1++wY m (c7 1 (gH y.1 l))).length<=_;omega,y3⟩,⟨rfl,rfl⟩,zH,⟨rfl,rfl⟩,UL rfl rfl fun _ _=>rfl,Cm,Iy,fun v hv=> ?_⟩;have hW:tK v.P (m+1) v.nb v.f (jS m l (y.1+1)):=by rw[mg,hkid];exact hv.2
     refine⟨⟨by omega,by omega⟩,by omega,⟨by omega,by omega⟩,(y.1+1,v),⟨⟨by show y.1+1<=16;omega,hv.1,hW⟩,by show 16 - (y.1+1)<_;omega⟩,by show(y.1:Int)+1=((y.1+1:Nat):Int);omega,⟨rfl,rfl⟩,UL rfl rfl fun _ _=>rfl,Cm,Iy,?_⟩;rw[← hkid];simp only[ah6];exact af.cells (fun _=>rfl) rfl
   ·obtain⟨y1,y2,y3⟩:=hy;have hy:y.1=16:=by omega
    rw[hy] at y3 ⊢;have e:dR (m+1) l=⟨3,[],if r.1=[] then r.2 else [],fu (KE m l 16)⟩:=by rw[hl];exact VP (by omega)
    have hv:=jC (m:=m+1) (l:=l) (by omega) h1 (by rw[hl];exact List.cons_ne_nil _ _);have hf:=Ck (m:=m) (l:=l) (by omega) h1;rw[e] at hf hv;refine⟨⟨by omega,by omega⟩,hpos,fun hn=> ?_,fun hn=> ?_⟩
    ·rw[if_pos hn] at e hf hv;exact⟨⟨by omega,by omega⟩,hpos,hf,fun _ a hd2 a1 hd=>D3 (l:=l) (congrArg dQ e).symm (tN m l) hd2 hd y3,fun hx=>absurd (hv.symm.trans hx) (by decide)⟩
    ·rw[if_neg hn] at e hf hv;exact⟨hf,fun _ a hd2 a1 hd=>D3 (l:=l) (congrArg dQ e).symm (tN m l) hd2 hd y3,fun hx=>absurd (hv.symm.trans hx) (by decide)⟩
theorem adQ {m:Nat}(h:au Tryz.prog 129 (kj (xI m))):au Tryz.prog 57 (kj (D1 (m+1))) :=vF (n:=20) (fn:=Tryz.f57) Tryz.func57 (by kernel_rfl) (by kernel_rfl) (D1 (m+1)) fun x hx=>⟨Yq m x.1,anz h x.1,by rfl,Rx m x hx⟩
theorem Ma: ∀ m:Nat,au Tryz.prog 57 (vk m)
 | 0=>VI
 | m+1=>adQ (akn (Ma m))
end Go.Proofs.YtpaaiebohjjieaaGreatDoor
