/-
  What a range of a map is proved by, plain; and that it is believed, and nothing else of these nodes is.
-/
import Derived.Test.YtoibaecagklkaaaGreatDoorMw
import Derived.Test.YtoibaecagklkaaaGreatDoorMv
import Derived.Test.YtoibaecagklkaaaGreatDoorMr
import Derived.Test.YtoibaecagklkaaaGreatDoorMo
open Bool renaming and_eq_true->Q,and_false->b_,eq_iff_iff->cx,false->C,not_eq_true'->cy,or_eq_true->an,true->d
open Decidable renaming decide->F
open Go.Op renaming bytesLess->I
open Go.Proofs.Tryz renaming f13->c4,f15->c5,f17->c6,f22->ef,f57->c7,prog->H
open Int renaming le_refl->ei,toNat_natCast->c8
open List renaming all_eq_true->ej,drop->X,filter_append->c9,foldl_cons->c_,getD_eq_getElem?_getD->ay,getElem?_eq_getElem->aK,getElem_of_mem->c!,length_append->a_,length_cons->ek,length_map->en,mem_append->dD,mem_append_left->eu,mem_append_right->ez,mem_cons->Y,mem_cons_of_mem->T,mem_cons_self->O,mem_filter->d_,mem_flatMap->d!,mem_map->b!,mem_range->a!,mem_singleton->ec,nil_append->cl,pairwise_cons->eA,range->ct,replicate->eB
open Nat renaming le_refl->R,le_trans->eC,lt_irrefl->eN,lt_succ_self->eT,not_lt_zero->Z,succ_pos->eW,zero_add->bU,zero_le->W
open Option renaming none->J,some->M
namespace Go.Proofs.YtoibaecagklkaaaGreatDoor
open Go Sx
set_option maxRecDepth 20000
def gU (fr to:List UInt8)(l:List Rw):List (List UInt8):=ctext 13 l::lu fr to 13 l []
def jc (fr to:List UInt8)(l:List Rw):List (List UInt8):=aG (gU fr to l)
def XT (L:List (List UInt8)):Prop:=∀ t,t∈ L->∀ u,u∈ L->aC t=aC u->t=u
structure Yw (L:List (List UInt8))(s:Wk):Prop where
 pos: ∀ h,0<=s.used h
 mem: ∀ t,t∈ L->(s.used (aC t)=0↔t∉ s.ns)
theorem WR {w:Sp}{L:List (List UInt8)}(hi:XT L){s:Wk}(h:Yw L s){t:List UInt8}(ht:t∈ L)(hf:w.at (aC t)=t):(s.take w (aC t)).ns=(if t∈ s.ns then s.ns else s.ns++[t])/\Yw L (s.take w (aC t)):=by
 have e:(s.take w (aC t)).ns=if t∈ s.ns then s.ns else s.ns++[t]:=by
  show(if s.used (aC t)=0 then s.ns++[w.at (aC t)] else s.ns)=_
  rw[hf];by_cases hm:t∈ s.ns
  ·rw[if_pos hm,if_neg (λe=>(h.mem t ht).1 e hm)]
  ·rw[if_neg hm,if_pos ((h.mem t ht).2 hm)]
 refine⟨e,λg=> ?_,λu hu=> ?_⟩
 ·rw[yD];have h1:=h.pos g;have h2:=h.pos (aC t);split<;>omega
 ·rw[yD,e];have h2:=h.pos (aC t);by_cases hut:aC u=aC t
  ·have:=hi u hu t ht hut;subst this;rw[if_pos rfl];constructor
   ·intro h0;omega
   ·intro hn;refine absurd ?_ hn;split
    ·assumption
    ·exact ez _ (O ..)
  ·rw[if_neg hut,h.mem u hu];have hne:u≠t:=λe=>hut (by rw[e]);split
   ·exact Iff.rfl
   ·rw[dD,ec];exact⟨λa b=>b.elim a hne,λa b=>a (.inl b)⟩
theorem NS {w:Sp}{L:List (List UInt8)}(hi:XT L): ∀(V:List (List UInt8)) (s:Wk),(∀ t,t∈ V->t∈ L/\w.at (aC t)=t)->Yw L s->(V.foldl (λs t=>s.take w (aC t)) s).ns=V.foldl (λu x=>if x∈ u then u else u++[x]) s.ns
 | [],_,_,_=>rfl
 | t::V,s,hV,h=>by obtain⟨h1,h2⟩:=hV t (O ..);obtain⟨h3,h4⟩:=WR hi h h1 h2;rw[c_,c_,NS hi V _ (λu hu=>hV u (T _ hu)) h4,h3]
theorem WQ {w:Sp}{L:List (List UInt8)}(hi:XT L){V:List (List UInt8)}(E:List (List UInt8×List UInt8))(c:Nat)(hV: ∀ t,t∈ V->t∈ L/\w.at (aC t)=t):(jK w Wk.start V E c).ns=aG V:=by have:=NS hi V {Wk.start with lk:=Wk.start.lk+c,fs:=Wk.start.fs++E} hV ⟨λ_=>ei 0,λt _=>⟨(λ_ h=>by cases h),λ_=>rfl⟩⟩;exact this
theorem Ot (fr to:List UInt8): ∀(m:Nat) (l:List Rw) (p:List UInt8),(lu fr to m l p).length+1<=ny fr to m l p
 | 0,_,_=>R _
 | m+1,l,p=>by
   unfold lu ny;have key: ∀ n,((ct n).flatMap λi=>if aP l i=[] then [] else bif bN fr to (fc (dh (m+1) l) p i)then(if(ctext m (aP l i)).length<32 then [] else [ctext m (aP l i)])++lu fr to m (aP l i) (fc (dh (m+1) l) p i)else []).length<=eM (λi=>if aP l i=[] then 0 else bif bN fr to (fc (dh (m+1) l) p i)then ny fr to m (aP l i) (fc (dh (m+1) l) p i)else 0) n:=by
    intro n;induction n with
    | zero=>exact R _
    | succ n ih =>
      rw[uE,a_];show _<=eM _ n+_;refine Nat.add_le_add ih ?_;dsimp only;by_cases e:aP l n=[]
      ·rw[if_pos e,if_pos e];exact R _
      ·rw[if_neg e,if_neg e];cases bN fr to (fc (dh (m+1) l) p n)with
       | false=>exact R _
       | true =>simp only[cond_true];have:=Ot fr to m (aP l n) (fc (dh (m+1) l) p n);rw[a_];split<;>simp<;>omega
   have:=key 16;omega
theorem Vw (fr to:List UInt8)(p:List UInt8):ny fr to 13 [] p=1:=by
 show 1+eM (λi=>if aP [] i=[] then 0 else _) 16=1
 simp[eM,aP]
theorem Oo {fr to:List UInt8}{l:List Rw}(h:cg 13 l)(hn:l.length<=40)(p:List UInt8):ny fr to 13 l p<=120:=by
 by_cases e:l=[]
 ·subst e;rw[Vw];omega
 ·have:=(MN fr to (p:=p) h e).1;omega
theorem E7 {fr to:List UInt8}{l:List Rw}(h:cg 13 l)(hn:l.length<=40):(jc fr to l).length<=120:=by have h1:=wA _ (gU fr to l) rfl;have h2:=Ot fr to 13 l [];have h3:=Oo (fr:=fr) (to:=to) h hn [];have h4:(gU fr to l).length=(lu fr to 13 l []).length+1:=rfl;unfold jc;omega
theorem JS {l:List Rw}(h:cg 13 l):getD (ctext 13 l)=dh 13 l:=by
 by_cases e:l=[]
 ·subst e;exact gX (CP 13)
 ·exact gX (dZ (R _) h e)
theorem yH {w:Sp}{l:List Rw}(h:cg 13 l)(hn:l.length<=40)(hk: ∀ x,x∈ l->kC x.1=d)(hf:Full w (gU w.fr w.to l)) :
  kZ (aC (ctext 13 l)) w=M (jK w Wk.start (gU w.fr w.to l) (gI w.fr w.to [] l) (ny w.fr w.to 13 l [])):=by
 obtain⟨h1,h2⟩:=hf _ (O ..);have hv:=Oo (fr:=w.fr) (to:=w.to) h hn [];unfold kZ;rw[h1,cond_true,h2,JS h];rw[Dk,JU (R _) h (by decide) (by decide) (λt ht=>hf t (T _ ht)) hk (by rw[EY];show 0+0+_<=400;omega),wW,cl,bU];rfl
theorem GO {w:Sp}{l:List Rw}(hi:XT (b8 13 l))(hf:Full w (gU w.fr w.to l))(E:List (List UInt8×List UInt8))(c:Nat):(jK w Wk.start (gU w.fr w.to l) E c).ns=jc w.fr w.to l :=
 WQ hi E c λt ht=>⟨by
  unfold gU at ht;rcases Y.1 ht with ht | ht
  ·subst ht;exact O ..
  ·exact T _ (yG _ _ ht),(hf t ht).2⟩
theorem I8 {w:Sp}{L:List (List UInt8)}(hi:XT L)(hf: ∀ i,i<w.n->w.f i∈ L){t:List UInt8}(ht:t∈ L)(hd:aI w.f w.n (aC t)=d):w.full.at (aC t)=t:=by obtain⟨g1,g2,g3⟩:=gG _ _ _ hd;exact hi _ (hf (cq w.f w.n (aC t)).toNat (by omega)) t ht g3
theorem sU: ∀(V:List (List UInt8)) (a:List UInt8) (u:List (List UInt8)),∃ r,V.foldl (λu x=>if x∈ u then u else u++[x]) (a::u)=a::r
 | [],a,u=>⟨u,rfl⟩
 | x::V,a,u=>by
   rw[c_];split
   ·exact sU V a u
   ·exact sU V a (u++[x])
theorem Ay (fr to:List UInt8)(l:List Rw): ∃ r,jc fr to l=ctext 13 l::r:=by obtain⟨r,h⟩:=sU (lu fr to 13 l []) (ctext 13 l) [];exact⟨r,h⟩
theorem oA {fr to:List UInt8}{l:List Rw}{t:List UInt8}(h:t∈ gU fr to l):t∈ b8 13 l:=by
 unfold gU at h;rcases Y.1 h with h | h
 ·subst h;exact O ..
 ·exact T _ (yG _ _ h)
theorem rO {fr to:List UInt8}{l:List Rw}{t:List UInt8}:t∈ jc fr to l↔t∈ gU fr to l:=kS _ _ rfl t
theorem sP {n n':Nat}{f f':Nat->List UInt8}:dQ n f n' f'=d↔n=n'/\∀ i,i<n->f i=f' i:=by
 unfold dQ;rw[Q,decide_eq_true_eq,ej];constructor
 ·rintro⟨h1,h2⟩;exact⟨by omega,λi hi=>of_decide_eq_true (h2 i (a!.2 hi))⟩
 ·rintro⟨h1,h2⟩;exact⟨by omega,λi hi=>decide_eq_true (h2 i (a!.1 hi))⟩
theorem Vu {w:Sp}{e:List (List UInt8×List UInt8)}(he:tK e)(hn:e.length<=40)(hi:XT (b8 13 (rowsOf e)))(hle:j7 w.fr w.to=d)(h1:w.n=(jc w.fr w.to (rowsOf e)).length)(h2: ∀ i,i<w.n->w.f i=(jc w.fr w.to (rowsOf e)).getD i []) :
  cU (aC (ctext 13 (rowsOf e))) w=M (aj w.fr w.to e):=by
 have hr:=rS he;have hl:(rowsOf e).length<=40:=by unfold rowsOf;rw[en];exact hn
 have hb:=E7 (fr:=w.fr) (to:=w.to) hr hl;obtain⟨r,hh⟩:=Ay w.fr w.to (rowsOf e);have h0:0<w.n:=by rw[h1,hh];exact eW _
 have e0:w.f 0=ctext 13 (rowsOf e):=by rw[h2 0 h0,hh];rfl
 have hin: ∀ i,i<w.n->w.f i∈ b8 13 (rowsOf e):=λi hi=>by rw[h2 i hi];exact oA (rO.1 (tV (by omega)))
 have hf:Full w.full (gU w.fr w.to (rowsOf e)):=λt ht=>by
  have hd:aI w.f w.n (aC t)=true:=by
   obtain⟨q,hq,e1⟩:=c! (rO.2 ht);have:w.f q=t:=by rw[h2 q (by omega),ay,aK hq];exact e1
   rw[← this];exact qG _ _ q (by omega)
  have ha:=I8 hi hin (oA ht) hd;refine⟨?_,ha⟩;unfold bD;rw[ha,(oO hr (oA ht)).1];show(aI w.f w.n (aC t)&&d)=d;rw[hd];rfl
 obtain⟨S,e1,e2,e3⟩: ∃ S,kZ (aC (ctext 13 (rowsOf e))) w.full=M S/\S.ns=jc w.fr w.to (rowsOf e)/\S.fs=aj w.fr w.to e:=by
  refine⟨_,yH (w:=w.full) hr hl (λx hx=>by obtain⟨e,_,rfl⟩:=b!.1 hx;exact BY e.1) hf,GO (w:=w.full) hi hf _ _,?_⟩
  rw[MR];show []++gI w.fr w.to [] (rowsOf e)=_;rw[cl,IC]
 have hs:dQ S.ns.length (λi=>S.ns.getD i []) w.n w.f=true:=by rw[e2];exact sP.2 ⟨h1.symm,λi hi'=>(h2 i (by omega)).symm⟩
 unfold cU;rw[hle,decide_eq_true h0,decide_eq_true (show w.n<=200 by omega),decide_eq_true (show aC (w.f 0)=_ by rw[e0]),e1];dsimp only;rw[hs,e3];rfl
theorem Vv {w:Sp}{e:List (List UInt8×List UInt8)}(he:tK e)(hn:e.length<=40)(hi:XT (b8 13 (rowsOf e)))(hin: ∀ i,i<w.n->w.f i∈ b8 13 (rowsOf e)){fs:List (List UInt8×List UInt8)}(h:cU (aC (ctext 13 (rowsOf e))) w=M fs) :
  w.n=(jc w.fr w.to (rowsOf e)).length/\∀ i,i<w.n->w.f i=(jc w.fr w.to (rowsOf e)).getD i []:=by
 have hr:=rS he;have hl:(rowsOf e).length<=40:=by unfold rowsOf;rw[en];exact hn
 have hkey: ∀ x,x∈ rowsOf e->kC x.1=true:=λx hx=>by obtain⟨e,_,rfl⟩:=b!.1 hx;exact BY e.1
 unfold cU at h;cases hb:(j7 w.fr w.to&&(F (0<w.n)&&(F (w.n<=200)&&F (aC (w.f 0)=aC (ctext 13 (rowsOf e))))))with
 | false=>rw[hb] at h;cases h
 | true =>
   rw[hb,cond_true] at h;split at h
   ·rename_i s hs;cases hsame:dQ s.ns.length (λi=>s.ns.getD i []) w.n w.f with
    | false=>rw[hsame] at h;cases h
    | true =>
      have hf:Full w.full (gU w.fr w.to (rowsOf e)):=by
       have hcl:Clear w.full (b8 13 (rowsOf e)):=λt ht hlt=>by unfold bD at hlt;rw[Q] at hlt;exact I8 hi hin ht hlt.1
       unfold kZ at hs;cases hlk:bD w.full (aC (ctext 13 (rowsOf e)))with
       | false=>rw[hlk] at hs;cases hs
       | true =>
         have hat:=hcl _ (O ..) hlk;rw[hlk,cond_true,hat,JS hr] at hs;have:=CD (R _) hr (λt ht=>hcl t (T _ ht)) hs;intro t ht;unfold gU at ht;rcases Y.1 ht with ht | ht
         ·subst ht;exact⟨hlk,hat⟩
         ·exact this t ht
      have hw:=yH (w:=w.full) hr hl hkey hf;rw[hw] at hs;injection hs with hs;have hns:s.ns=jc w.fr w.to (rowsOf e):=by rw[← hs];exact GO (w:=w.full) hi hf _ _
      rw[hns] at hsame;obtain⟨g1,g2⟩:=sP.1 hsame;exact⟨g1.symm,λi hi'=>(g2 i (by omega)).symm⟩
   ·cases h
theorem Nv (r:Nat->List UInt8): ∀(k i:Nat),i<k->bw (r i)=d->∃ j,j<aS r k/\cK r k j=ah (r i)
 | 0,i,h,_=>absurd h (Z _)
 | k+1,i,h,hb=>by
   simp only[aS,cK];by_cases e:i=k
   ·subst e;rw[hb];exact⟨aS r i,eT _,by rw[cond_true,if_pos rfl]⟩
   ·obtain⟨j,h1,h2⟩:=Nv r k i (by omega) hb;cases bw (r k)with
    | false=>exact⟨j,h1,h2⟩
    | true=>exact⟨j,Nat.lt_succ_of_lt h1,by rw[cond_true,if_neg (by omega)];exact h2⟩
theorem NQ {r:Nat->List UInt8}: ∀ {k:Nat},(∀ j,j<k->bw (r j)=C)->aS r k=0
 | 0,_=>rfl
 | k+1,h=>by unfold aS;rw[h k (eT k)];exact NQ λj hj=>h j (by omega)
theorem Mp {m:Nat}{l:List Rw}(hm:m<=13)(h:cg m l)(hl:l≠[])(hs:(ctext m l).length<32):fW (ctext m l)=0:=by
 obtain⟨h1,_,_⟩:=sj (vr (dZ hm h hl) (Ky h hl) hs).1;unfold fW;refine NQ λj hj=> ?_;obtain⟨K,e,hK⟩:=IN (F8 (L:=32) (t:=ctext m l) h1 hs hs);rcases hK j hj with e | e
 ·rw[show(getD (ctext m l)).r j=[] from e];rfl
 ·cases hb:bw ((getD (ctext m l)).r j)with
  | false=>rfl
  | true=>have:=lT hb;omega
theorem Bc {P:List UInt8->Prop}: ∀ {m:Nat} {l:List Rw},m<=13->cg m l->l≠[]->(∀ j,j<fW (ctext m l)->P (eK (ctext m l) j))->(∀ t,t∈ cw m l->P (aC t)->∀ j,j<fW t->P (eK t j))->∀ t,t∈ cw m l->P (aC t)
 | 0,_,_,_,_,_,_,t,ht=>by cases ht
 | m+1,l,hm,h,hl,h0,hc,t,ht=>by
   unfold cw at ht;obtain⟨i,hi,ht⟩:=d!.1 ht;have hi:=a!.1 hi;by_cases e:aP l i=[]
   ·rw[if_pos e] at ht;cases ht
   ·rw[if_neg e] at ht;have ho:=gA h i;have hv:=dZ (m:=m) (by omega) ho e;have er:(getD (ctext (m+1) l)).r i=eS (ctext m (aP l i)):=by rw[gX (dZ hm h hl),rR m l hi,if_neg e]
    by_cases hs:(ctext m (aP l i)).length<32
    ·rw[if_pos hs,cl] at ht;exact Bc (by omega) ho e (λj hj=>by rw[Mp (by omega) ho e hs] at hj;exact absurd hj (Z _)) (λu hu=>hc u (wZ hi e hu)) t ht
    ·rw[if_neg hs] at ht;obtain⟨g1,g2,_⟩:=i9 hs;have hp:P (aC (ctext m (aP l i))):=by obtain⟨j,hj,e2⟩:=Nv (getD (ctext (m+1) l)).r 16 i hi (by rw[er];exact g1);have:=h0 j hj;unfold eK at this;rw[e2,er,g2] at this;exact this
     rcases dD.1 ht with ht | ht
     ·rw[ec] at ht;subst ht;exact hp
     ·exact Bc (by omega) ho e (hc _ (Ax hi e hs) hp) (λu hu=>hc u (wZ hi e hu)) t ht
theorem Yy {P:List UInt8->Prop}{l:List Rw}(h:cg 13 l)(h0:P (aC (ctext 13 l)))(hc: ∀ t,t∈ b8 13 l->P (aC t)->∀ j,j<fW t->P (eK t j)): ∀ t,t∈ b8 13 l->P (aC t):=by
 intro t ht;unfold b8 at ht;rcases Y.1 ht with ht | ht
 ·subst ht;exact h0
 ·by_cases e:l=[]
  ·subst e;have:cw 13 []=[]:=qH λi _=>rfl;rw[this] at ht;cases ht
  ·exact Bc (R _) h e (hc _ (O ..) h0) (λu hu=>hc u (T _ hu)) t ht
noncomputable def pU (n:Nat)(f g:Nat->List UInt8)(y:tJ)(fr to:List UInt8):Sp:=⟨fr,to,(lV n f g).length,fz n f g,d,0,0,cn y.Fr,cq (fz n f g) (lV n f g).length⟩
theorem S5 {n:Nat}{f g:Nat->List UInt8}{u:List UInt8}(hu:u∈ b8 13 (av n (λi=>ak (f i)) g)): ∃ q,q<(lV n f g).length/\fz n f g q=u:=by obtain⟨q,hq,e⟩:=c! ((kS _ _ rfl _).2 hu);refine⟨q,hq,?_⟩;show(aG _).getD q []=u;rw[ay,aK hq];exact e
theorem vq (n:Nat)(f g:Nat->List UInt8):fz n f g 0=ctext 13 (av n (λi=>ak (f i)) g):=by obtain⟨r,h⟩:=sU (cw 13 (av n (λi=>ak (f i)) g)) (ctext 13 (av n (λi=>ak (f i)) g)) [];have:lV n f g=ctext 13 (av n (λi=>ak (f i)) g)::r:=h;unfold fz;rw[this];rfl
theorem K2 {n:Nat}{f g:Nat->List UInt8}(h:fq (lV n f g).length (fz n f g)=d):XT (b8 13 (av n (λi=>ak (f i)) g)):=λt ht u hu e=>by obtain⟨q,hq,rfl⟩:=S5 ht;obtain⟨r,hr,rfl⟩:=S5 hu;exact tP h hr hq e
theorem Xi {n:Nat}{f g:Nat->List UInt8}(hc:cA n f g=0)(ha:fq (lV n f g).length (fz n f g)=d){y:tJ}(hy:nC (lV n f g).length (fz n f g) (aC (fz n f g 0)) y)(fr to:List UInt8) :
  Full (pU n f g y fr to) (b8 13 (av n (λi=>ak (f i)) g)):=by
 have hr:=jf hc;have self: ∀ t,t∈ b8 13 (av n (λi=>ak (f i)) g)->qi (lV n f g).length (fz n f g) (aC t)=t:=λt ht=>by obtain⟨q,hq,rfl⟩:=S5 ht;exact UT ha hq
 have hin:=Yy (P:=λh=>h∈ y.Fr) hr (by rw[← vq];exact hy.bf.root) λt ht hp j hj=>by
  obtain⟨k,hk,e⟩:=c! hp;have e1:y.Fr.getD k []=aC t:=by rw[ay,aK hk];exact e
  have:=hy.bf.clo k hk hk j;rw[e1,self t ht] at this;exact this hj
 intro t ht;have hat:(pU n f g y fr to).at (aC t)=t:=self t ht;refine⟨?_,hat⟩;unfold bD;rw[hat,(oO hr ht).1];show(cn y.Fr (aC t)&&d)=d;unfold cn;rw[decide_eq_true (hin t ht)];rfl
theorem Xj {n:Nat}{f g:Nat->List UInt8}(hc:cA n f g=0)(ha:fq (lV n f g).length (fz n f g)=d){y:tJ}(hy:nC (lV n f g).length (fz n f g) (aC (fz n f g 0)) y)(fr to:List UInt8) :
  ∃ s,kZ (aC (fz n f g 0)) (pU n f g y fr to)=M s/\s.ns=jc fr to (av n (λi=>ak (f i)) g):=by
 have hr:=jf hc;have hf:=(Xi hc ha hy fr to).mono (L':=gU fr to (av n (λi=>ak (f i)) g)) λt ht=>oA ht;have hl:(av n (λi=>ak (f i)) g).length<=40:=by rw[dr];exact(gF hc).2
 refine⟨_,?_,GO (w:=pU n f g y fr to) (K2 ha) hf (gI fr to [] (av n (λi=>ak (f i)) g)) (ny fr to 13 (av n (λi=>ak (f i)) g) [])⟩;rw[vq];exact yH (w:=pU n f g y fr to) hr hl (λx hx=>by rw[jQ] at hx;obtain⟨e,_,rfl⟩:=b!.1 hx;exact BY e.1) hf
structure GS where
 n:Nat
 f:Nat->List UInt8
 g:Nat->List UInt8
 y:tJ
 fr:List UInt8
 to:List UInt8
 root:List UInt8
 room:Int
noncomputable def GS.ns (x:GS):List (List UInt8):=jc x.fr x.to (av x.n (λi=>ak (x.f i)) x.g)
structure CQ (n:Nat)(f g:Nat->List UInt8)(y:tJ):Prop where
 m6:cA n f g=0
 apart:fq (lV n f g).length (fz n f g)=d
 st:nC (lV n f g).length (fz n f g) (aC (fz n f g 0)) y
structure wS (x:GS):Prop where
 held:CQ x.n x.f x.g x.y
 fr:x.fr.length<=1000
 to:x.to.length<=1000
 root:x.root=br x.n x.f x.g∨x.root.length≠32
def oW (room:Int)(y:tJ):Mem:=[(0,gC room 1),(1,.fmap (cn y.Fr) (.ref 2 y.g) J)]
noncomputable def oJ:gE :=
 {G:=GS,n:=3,N:=4,pre:=wS,args:=λx=>[.ptr 0 d 0,.str C x.root,.agg [.str C x.fr,.str C x.to]],mem:=λx=>oW x.room x.y++[(2,x.y.A.nE)],
  wP:=λx=>.fork (F (x.root=br x.n x.f x.g)) λb=>match b with
   | false=>.ret (.aN [.aM,.int .i64 d 4]) (oW x.room x.y)
   | true=>.fork (j7 x.fr x.to) λb=>match b with
     | false=>.ret (.aN [.aM,.int .i64 d 1]) (oW x.room x.y)
     | true=>.all Nat λc=>.req (x.ns.length<=c) (.ret (.aN [.aZ 3 1 d 0 x.ns.length c,.int .i64 d 0]) (oW x.room x.y++[(3,.rows d x.ns.length [iA x.ns] C (c*1) 9)]))}
noncomputable def MZ:fJ:={cm with cG:=λf=>aE f (FR 401)}
theorem Zc:Sx.Good H MZ:=.of bR (Pa 401) bl
theorem QX (x:GS):cZ (.n (.s 3 (.n .k (.s 0 (.n .k (.n .k (.s 0 (.n .k (.n .k (.n .k (.n .k (.s 2 (.n .k (.n .k (.n .k (.n (.s 1 (.n .k (.n .k (.n .k (.n .k (.n .k (.n .k (.n .k (.n .k (.n .k (.n .k (.n .k (.n .k (.n .k (.n .k (.n .k (.n .k (.n .k (.n .k (.n .k (.n .k (.s 0 (.n .k (.n .k (.s 0 (.n (.s 0 .k) (.s 0 (.n .k (.n (.s 0 .k) (.s 0 (.n .k (.n .k (.n .k (.s 0 (.n .k (.n .k (.n .k (.n (.n (.n (.s 0 (.n (.s 0 .k) (.s 1 .k))) .t) .t) .t)))))))))))))))))))))))))))))))))))))) .t))))))))))))))) .t) (runM MZ 13 c4 oJ x) ((λP0:(tN×List UInt8)->Nd=>(((cn x.y.Fr x.root=d->x.y.A.D (x.y.g x.root)=d/\((!(I x.fr x.to||decide (x.fr=x.to)))=d->(F (x.root=br x.n x.f x.g)=d->j7 x.fr x.to=d->∃(u14:Nat),x.ns.length<=u14/\False)/\(F (x.root=br x.n x.f x.g)=C->False))/\((!(I x.fr x.to||decide (x.fr=x.to)))=C->∃(u13:tN×List UInt8),(CR u13.1.w u13.1.y/\u13.1.s.Small/\(u13.1.s.ns.length<=u13.1.c1/\u13.1.s.fs.length<=u13.1.c2)/\True)/\x.root=u13.2/\x.fr=u13.1.w.fr/\x.to=u13.1.w.to/\u13.1.s.ns.length=0/\0=(u13.1.s.lk:Int)/\u13.1.s.fs.length=0/\aa (SB.map [] 0) (eH u13.1.s)/\(dL u13.1.s u13.1.c1).no=d/\(dm u13.1.s u13.1.c2).no=d/\x.room=u13.1.room/\aa (SB.fmap (cn x.y.Fr) (aD.ref 2 x.y.g) J) (SB.fmap u13.1.w.ad (aD.ref 6 u13.1.y.g) J)/\aa (SB.dR x.y.A.D [aq.str x.y.A.cS] 4 133 d) u13.1.y.A.nE/\(bD u13.1.w u13.2=d->∀(u12:Nat×Nat),(if u13.1.s.used u13.2=0 then u13.1.s.ns++[u13.1.w.at u13.2] else u13.1.s.ns).length<=u12.1/\u13.1.s.fs.length<=u12.2 ->∃(u11:tN×Nd×List UInt8),(CR u11.1.w u11.1.y/\u11.1.s.Small/\(u11.1.s.ns.length<=u11.1.c1/\u11.1.s.fs.length<=u11.1.c2)/\u11.1.s.Fit (u11.1.s.lk+1)/\401<=u11.1.s.lk+401/\u11.2.1.k5/\u11.2.2.length<=13*u11.1.s.lk)/\(P0 u13).k=u11.2.1.k/\(P0 u13).p=u11.2.1.p/\(P0 u13).v=u11.2.1.v/\(P0 u13).r 0=u11.2.1.r 0/\(P0 u13).r 1=u11.2.1.r 1/\(P0 u13).r 2=u11.2.1.r 2/\(P0 u13).r 3=u11.2.1.r 3/\(P0 u13).r 4=u11.2.1.r 4/\(P0 u13).r 5=u11.2.1.r 5/\(P0 u13).r 6=u11.2.1.r 6/\(P0 u13).r 7=u11.2.1.r 7/\(P0 u13).r 8=u11.2.1.r 8/\(P0 u13).r 9=u11.2.1.r 9/\(P0 u13).r 10=u11.2.1.r 10/\(P0 u13).r 11=u11.2.1.r 11/\(P0 u13).r 12=u11.2.1.r 12/\(P0 u13).r 13=u11.2.1.r 13/\(P0 u13).r 14=u11.2.1.r 14/\(P0 u13).r 15=u11.2.1.r 15/\[]=u11.2.2/\u13.1.w.fr=u11.1.w.fr/\u13.1.w.to=u11.1.w.to/\((if u13.1.s.used u13.2=0 then u13.1.s.ns++[u13.1.w.at u13.2] else u13.1.s.ns).length=u11.1.s.ns.length/\u12.1=u11.1.c1)/\(u13.1.s.lk:Int)=(u11.1.s.lk:Int) /\(u13.1.s.fs.length=u11.1.s.fs.length/\u12.2=u11.1.c2)/\aa (SB.fmap (dA u13.1.s.ud u13.2) (aD.int IntKind.i64 (fE u13.1.s.us u13.2 (u13.1.s.used u13.2+1))) J) (eH u11.1.s)/\aa (SB.rows d (if u13.1.s.used u13.2=0 then u13.1.s.ns++[u13.1.w.at u13.2] else u13.1.s.ns).length [aq.str λu10=>(if u13.1.s.used u13.2=0 then u13.1.s.ns++[u13.1.w.at u13.2] else u13.1.s.ns).getD u10 []] C (u12.1*1) 9) (dL u11.1.s u11.1.c1)/\aa (SB.rows d u13.1.s.fs.length [aq.str λu9=>(u13.1.s.fs.getD u9 ([],[])).1,aq.str λu8=>(u13.1.s.fs.getD u8 ([],[])).2] C (u12.2*2) 50) (dm u11.1.s u11.1.c2)/\u13.1.room=u11.1.room/\aa (SB.fmap u13.1.w.ad (aD.ref 2 u13.1.y.g) J) (SB.fmap u11.1.w.ad (aD.ref 6 u11.1.y.g) J)/\aa (SB.dR x.y.A.D [aq.str x.y.A.cS] 4 133 d) u11.1.y.A.nE/\(cY u11.1.w 401 u11.1.s u11.2.1 u11.2.2=d->∀(u7:Nat×Nat),(bp u11.1.w 401 u11.1.s u11.2.1 u11.2.2).ns.length<=u7.1/\(bp u11.1.w 401 u11.1.s u11.2.1 u11.2.2).fs.length<=u7.2 ->(F (x.root=br x.n x.f x.g)=d->(j7 x.fr x.to=d->∃(u6:Nat),x.ns.length<=u6/\((bp u11.1.w 401 u11.1.s u11.2.1 u11.2.2).ns.length=x.ns.length/\u7.1=u6)/\aa (SB.cells [SV.int .i64 C u11.1.room,SV.map 1] 2 126) (gC x.room 1)/\aa (SB.fmap u11.1.w.ad (aD.ref 2 u11.1.y.g) J) (SB.fmap (cn x.y.Fr) (aD.ref 2 x.y.g) J)/\aa (SB.rows d (bp u11.1.w 401 u11.1.s u11.2.1 u11.2.2).ns.length [aq.str λu5=>(bp u11.1.w 401 u11.1.s u11.2.1 u11.2.2).ns.getD u5 []] C (u7.1*1) 9) (SB.rows d x.ns.length [iA x.ns] C (u6*1) 9))/\(j7 x.fr x.to=C->False))/\(F (x.root=br x.n x.f x.g)=C->False))/\(cY u11.1.w 401 u11.1.s u11.2.1 u11.2.2=C->∀(_u4:List UInt8×List UInt8),(F (x.root=br x.n x.f x.g)=d->(j7 x.fr x.to=d->∃(u3:Nat),x.ns.length<=u3/\False)/\(j7 x.fr x.to=C->False))/\(F (x.root=br x.n x.f x.g)=C->False)))/\(bD u13.1.w u13.2=C->∀(_u2:List UInt8×List UInt8),(F (x.root=br x.n x.f x.g)=d->(j7 x.fr x.to=d ->∃(u1:Nat),x.ns.length<=u1/\False)/\(j7 x.fr x.to=C->False))/\(F (x.root=br x.n x.f x.g)=C->False))))/\(cn x.y.Fr x.root=C->F (x.root=br x.n x.f x.g)=d->(j7 x.fr x.to=d->∃(u0:Nat),x.ns.length<=u0/\False)/\(j7 x.fr x.to=C->False))))) (fun(u13:tN×List UInt8)=>(getD (u13.1.w.at u13.2)))):=⟨by kernel_rfl,by kernel_rfl⟩
theorem CQ.ok {n:Nat}{f g:Nat->List UInt8}{y:tJ}(h:CQ n f g y){fr to:List UInt8}(hf:fr.length<=1000)(ht:to.length<=1000):CR (pU n f g y fr to) y:=by
 have hr:=jf h.m6;refine⟨λk hk=> ?_,λk hk=> ?_,λk hk=> ?_,hf,ht⟩
 all_goals have hk:k∈ y.Fr:=of_decide_eq_true hk
 ·obtain⟨h1,h2,_⟩:=gG _ _ _ (h.st.bf.dom k hk);have hin:fz n f g (cq (fz n f g) (lV n f g).length k).toNat∈ b8 13 (av n (λi=>ak (f i)) g):=(kS _ _ rfl _).1 (tV (by show _<(lV n f g).length;omega));exact eC (oO hr hin).2.1 (by decide)
 ·exact h.st.dom k hk
 ·exact h.st.cS k hk
theorem CQ.root {n:Nat}{f g:Nat->List UInt8}{y:tJ}(h:CQ n f g y):cn y.Fr (br n f g)=true:=by have:=h.st.bf.root;rw[vq] at this;exact decide_eq_true this
theorem CQ.none {n:Nat}{f g:Nat->List UInt8}{y:tJ}(h:CQ n f g y){k:List UInt8}(hk:k.length≠32):cn y.Fr k=false:=by refine decide_eq_false λhm=>hk ?_;obtain⟨_,_,e⟩:=gG _ _ _ (h.st.bf.dom k hm);rw[← e];exact rC _
theorem PZ (n:Nat)(f g:Nat->List UInt8):(br n f g).length=32:=rC _
section
attribute [local irreducible] aC bg getD hasB kC ak kg cY bp jc lV br bD
set_option maxHeartbeats 1000000 in
theorem E9 (x:GS)(hx:wS x):aB (runM MZ 13 c4 oJ x):=by
 refine aB.pr (QX x) ?_;obtain⟨n,f,g,y,fr,to,root,room⟩:=x;obtain⟨hh,hfr,hto,hroot⟩:=hx;dsimp only at hh hfr hto hroot ⊢;have eL:j7 fr to=(I fr to||decide (fr=to)):=rfl;by_cases hr:root=br n f g
 ·subst hr;rw[hh.root];simp only[← eL,decide_true,cy,Bool.not_eq_false',Bool.true_eq_false,false_imp_iff,and_true,forall_const];refine⟨hh.st.dom _ (of_decide_eq_true hh.root),(λh1 h2=>by rw[h1] at h2;cases h2),λh1=> ?_⟩;have hok:=hh.ok hfr hto;obtain⟨s,w1,w2⟩:=Xj hh.m6 hh.apart hh.st fr to;rw[vq,show aC (ctext 13 (av n (λi=>ak (f i)) g))=br n f g from by unfold br;rfl] at w1
  unfold kZ at w1;cases hL:bD (pU n f g y fr to) (br n f g)with
  | false=>rw[hL] at w1;cases w1
  | true =>
    rw[hL,cond_true] at w1;have hB:cY (pU n f g y fr to) 401 (Wk.start.take (pU n f g y fr to) (br n f g)) (getD ((pU n f g y fr to).at (br n f g))) []=true:=by unfold cY;rw[w1];rfl
    have hS:bp (pU n f g y fr to) 401 (Wk.start.take (pU n f g y fr to) (br n f g)) (getD ((pU n f g y fr to).at (br n f g))) []=s:=by unfold bp;rw[w1]
    have hg:bg ((pU n f g y fr to).at (br n f g))=true:=by unfold bD at hL;rw[Q] at hL;exact hL.2
    have hfit:=EL (pU n f g y fr to) (br n f g);refine⟨(⟨pU n f g y fr to,Wk.start,0,0,y,room⟩,br n f g),⟨hok,⟨λ_=>⟨ei _,show(0:Int)<=1000 by decide⟩,W _,W _,W _⟩,R _,R _⟩,rfl,rfl,rfl,rfl,rfl,rfl,aa.DH λ_=>rfl,rfl,rfl,rfl,aa.fmap (λ_=>rfl) (λ_=>rfl),aa.refl _,λ_ c hc=> ?_,λh=>by rw[hL] at h;cases h⟩;refine⟨(⟨pU n f g y fr to,Wk.start.take (pU n f g y fr to) (br n f g),c.1,c.2,y,room⟩,getD ((pU n f g y fr to).at (br n f g)),[]),⟨hok,hfit.small (by decide),hc,hfit,(by show 401<=0+401;decide),gS (nO hg),W _⟩,rfl,rfl,rfl,rfl,rfl,rfl,rfl,rfl,rfl,rfl,rfl,rfl,rfl,rfl,rfl,rfl,rfl,rfl,rfl,rfl,rfl,rfl,⟨rfl,rfl⟩,rfl,⟨rfl,rfl⟩,aa.refl _,aa.refl _,aa.refl _,rfl,aa.fmap (λ_=>rfl) (λ_=>rfl),aa.refl _,λ_ c2 hc2=>⟨λh2=>⟨c2.1,?_⟩,(λh2=>by rw[h1] at h2;cases h2)⟩,λh=>by rw[hB] at h;cases h⟩;dsimp only at hc2 ⊢;rw[hS,w2] at hc2 ⊢;exact⟨hc2.1,⟨rfl,rfl⟩,aa.refl _,aa.fmap (λ_=>rfl) (λ_=>rfl),aa.refl _⟩
 ·have hl:=hroot.resolve_left hr;rw[hh.none hl,decide_eq_false hr];exact⟨(λh=>by cases h),λ_ h=>by cases h⟩
end
theorem xh:az H 13 (cD oJ) :=gx (n:=20) (fn:=c4) Tryz.func13 (by kernel_rfl) (by kernel_rfl) oJ λx hx=>⟨MZ,Zc,rfl,E9 x hx⟩
end Go.Proofs.YtoibaecagklkaaaGreatDoor
namespace Go.Proofs.YtoibaecagklkaaaGreatDoor
open Go Sx
set_option maxRecDepth 20000
theorem BM: ∀ {a b:List UInt8},I b a=C->(I a b||decide (a=b))=d
 | [],[],_=>rfl
 | [],_::_,_=>rfl
 | _::_,[],h=>by cases h
 | a::r,b::s,h=>by
   obtain⟨h1,h2⟩:=o8.1 h;rw[i6];by_cases e:a=b
   ·subst e;have:=BM (h2 rfl);rw[an,decide_eq_true_eq] at this;rcases this with h | h
    ·rw[h];simp
    ·rw[h];simp
   ·have:a<b:=UInt8.lt_of_le_of_ne h1 e;rw[decide_eq_true this];rfl
theorem H7 {a b:List UInt8}:(I a b||decide (a=b))=d↔I b a=false:=⟨zc,BM⟩
theorem vw {a b:List UInt8}(h:j7 a b=d):I (ak b) (ak a)=false:=by
 unfold j7 at h;rw[an,decide_eq_true_eq] at h;rcases h with h | h
 ·exact eX _ _ (su h)
 ·subst h;exact i7 _
theorem lS {fr to p:List UInt8}:hasB fr to p=d↔I p (ak fr)=C/\I (ak to) p=false:=by unfold hasB;rw[Q,H7,cy]
theorem Ue {p s:List UInt8}:preB p s=d↔∃ u,s=p++u:=by
 unfold preB;rw[Q,decide_eq_true_eq,decide_eq_true_eq];constructor
 ·rintro⟨_,h⟩;exact⟨s.drop p.length,by rw[← h,List.length_take,← h];simp[List.take_append_drop]⟩
 ·rintro⟨u,rfl⟩;exact⟨by simp,by simp⟩
theorem BD {fr to p:List UInt8}:bN fr to p=d↔I (ak to) p=C/\(I p (ak fr)=C∨∃ u,ak fr=p++u):=by unfold bN;rw[Q,H7,an,cy,Ue]
theorem Ib: ∀ {p a m:List UInt8},I p a=d->(¬ ∃ u,a=p++u)->(∃ u,m=p++u)->I m a=d
 | [],a,_,_,h,_=>absurd ⟨a,rfl⟩ h
 | _::_,[],_,h,_,_=>by cases h
 | b::p,c::a,_,h,hn,⟨u,e⟩=>by
   subst e;rw[i6,an,Q,decide_eq_true_eq,decide_eq_true_eq] at h;rw[List.cons_append,i6,an,Q,decide_eq_true_eq,decide_eq_true_eq];rcases h with h | ⟨rfl,h⟩
   ·exact .inl h
   ·exact .inr ⟨rfl,Ib h (fun⟨u,e⟩=>hn ⟨u,by rw[e];rfl⟩) ⟨u,rfl⟩⟩
theorem LC {fr to fr' to' p:List UInt8}(h1:j7 fr' fr=d)(h2:j7 to to'=d)(h:bN fr to p=d):bN fr' to' p=true:=by
 rw[BD] at h ⊢;obtain⟨h3,h4⟩:=h;have f1:=vw h1;have f2:=vw h2;refine⟨gJ _ _ _ h3 f2,?_⟩;rcases h4 with h4 | h4
 ·exact .inl (gJ _ _ _ f1 h4)
 ·by_cases hp: ∃ u,ak fr'=p++u
  ·exact .inr hp
  ·left;cases hl:I p (ak fr')with
   | false=>rfl
   | true =>have:=Ib hl hp h4;rw[f1] at this;cases this
theorem J9 {fr to fr' to':List UInt8}(h1:j7 fr' fr=d)(h2:j7 to to'=d): ∀ {m:Nat} {l:List Rw} {p t:List UInt8},t∈ lu fr to m l p->t∈ lu fr' to' m l p
 | 0,_,_,_,h=>by cases h
 | m+1,l,p,t,h=>by
   unfold lu at h ⊢;obtain⟨i,hi,h⟩:=d!.1 h;refine d!.2 ⟨i,hi,?_⟩;by_cases e:aP l i=[]
   ·rw[if_pos e] at h;cases h
   ·rw[if_neg e] at h ⊢;cases hm:bN fr to (fc (dh (m+1) l) p i)with
    | false=>rw[hm] at h;cases h
    | true =>
      rw[hm,cond_true] at h;rw[LC h1 h2 hm,cond_true];rcases dD.1 h with h | h
      ·exact eu _ h
      ·exact ez _ (J9 h1 h2 h)
theorem CH: ∀(n:Nat) (l:List (List UInt8)),l.length=n->(aG l).Nodup
 | 0,l,h=>by have:l=[]:=List.eq_nil_of_length_eq_zero h;subst this;exact List.nodup_nil
 | n+1,l,h=>by
   obtain⟨k,x,rfl⟩: ∃ k x,l=k++[x]:=⟨l.dropLast,l.getLast (by intro e;rw[e] at h;cases h),(List.dropLast_concat_getLast _).symm⟩
   rw[a_] at h;have ih:=CH n k (by simpa using h);rw[ov];split
   ·exact ih
   ·rename_i hx;rw[List.nodup_append];exact⟨ih,by simp,λa ha b hb e=>hx (by rw[ec] at hb;rw[← hb,← e];exact ha)⟩
theorem El {α:Type}[DecidableEq α]: ∀ {l l':List α},l.Nodup->(∀ x,x∈ l->x∈ l')->l.length<=l'.length
 | [],_,_,_=>W _
 | a::l,l',h,hs=>by rw[List.nodup_cons] at h;have ha:=hs a (O ..);have:=El (l:=l) (l':=l'.erase a) h.2 λx hx=>(List.mem_erase_of_ne (λe=>h.1 (by rw[← e];exact hx))).2 (hs x (T _ hx));rw[List.length_erase_of_mem ha] at this;have:=List.length_pos_of_mem ha;rw[ek];omega
theorem G5 {fr to fr' to':List UInt8}(h1:j7 fr' fr=d)(h2:j7 to to'=d)(l:List Rw):(jc fr to l).length<=(jc fr' to' l).length:=by
 refine El (CH _ _ rfl) λt ht=>rO.2 ?_;have:=rO.1 ht;unfold gU at this ⊢;rcases Y.1 this with h | h
 ·rw[h];exact O ..
 ·exact T _ (J9 h1 h2 h)
theorem Ua {a b:List UInt8}(h:ak a=ak b):a=b:=by rw[← pE a,h,pE]
theorem filter_none {α:Type}{p:α->Bool}{l:List α}(h: ∀ x,x∈ l->p x=C):l.filter p=[]:=List.filter_eq_nil_iff.2 λx hx=>by rw[h x hx];simp
theorem yY {α:Type}{p q:α->Bool}{l:List α}(h: ∀ x,x∈ l->p x=q x):l.filter p=l.filter q:=List.filter_congr h
theorem JC (mid:List UInt8): ∀ {l:List (List UInt8×List UInt8)},(l.Pairwise λa b=>I a.1 b.1=d)->∃ l1 l2,l=l1++l2/\(∀ x,x∈ l1->I (ak x.1) (ak mid)=d)/\(∀ x,x∈ l2->I (ak x.1) (ak mid)=C)
 | [],_=>⟨[],[],rfl,(λ_ h=>by cases h),(λ_ h=>by cases h)⟩
 | a::l,h=>by
   cases ha:I (ak a.1) (ak mid)with
   | true =>
     obtain⟨l1,l2,e,h1,h2⟩:=JC mid (List.Pairwise.of_cons h);refine⟨a::l1,l2,by rw[e];rfl,λx hx=> ?_,h2⟩;rcases Y.1 hx with e | hx
     ·rw[e];exact ha
     ·exact h1 x hx
   | false =>
     refine⟨[],a::l,rfl,(λ_ h=>by cases h),λx hx=> ?_⟩;rcases Y.1 hx with e | hx
     ·rw[e];exact ha
     ·have:=su ((eA.1 h).1 x hx);exact gJ _ _ _ ha (eX _ _ this)
def qw (mid:List UInt8)(a:List (List UInt8×List UInt8)):List (List UInt8×List UInt8):=if 0<a.length/\(a.getD (a.length - 1) ([],[])).1=mid then a.take (a.length - 1)else a
theorem parts {fr mid to:List UInt8}{l:List (List UInt8×List UInt8)}(h:tK l)(h1:j7 fr mid=d)(h2:j7 mid to=d):qw mid (aj fr mid l)++aj mid to l=aj fr to l:=by
 obtain⟨l1,l2,e,a1,a2⟩:=JC mid h.yb;have p1:=vw h1;have p2:=vw h2;have eR:aj fr to l=l1.filter (λe=>hasB fr to (ak e.1))++l2.filter (λe=>hasB mid to (ak e.1)):=by unfold aj;rw[e,c9];congr 1;refine yY λx hx=> ?_;rw[cx,lS,lS];exact⟨λg=>⟨a2 x hx,g.2⟩,λg=>⟨gJ _ _ _ p1 g.1,g.2⟩⟩
 have eQ:aj mid to l=l2.filter (λe=>hasB mid to (ak e.1)):=by
  unfold aj;rw[e,c9,filter_none λx hx=> ?_,cl];cases hb:hasB mid to (ak x.1)with
  | false=>rfl
  | true=>rw[lS,a1 x hx] at hb;cases hb.1
 have eP:aj fr mid l=l1.filter (λe=>hasB fr to (ak e.1))++l2.filter (λe=>hasB fr mid (ak e.1)):=by unfold aj;rw[e,c9];congr 1;refine yY λx hx=> ?_;rw[cx,lS,lS];have:=eX _ _ (a1 x hx);exact⟨λg=>⟨g.1,gJ _ _ _ g.2 p2⟩,λg=>⟨g.1,this⟩⟩
 have is: ∀ x,x∈ l2->hasB fr mid (ak x.1)=d->x.1=mid:=λx hx g=>by rw[lS] at g;have g1:=BM (a2 x hx);rw[g.2,Bool.false_or,decide_eq_true_eq] at g1;exact(Ua g1).symm
 have key:qw mid (aj fr mid l)=l1.filter (λe=>hasB fr to (ak e.1)):=by
  rw[eP];obtain⟨z,hm⟩: ∃ z,l2.filter (λe=>hasB fr mid (ak e.1))=z:=⟨_,rfl⟩
  rw[hm];cases z with
  | nil =>
    rw[List.append_nil];unfold qw;rw[if_neg];rintro⟨g1,g2⟩;have hmem:(l1.filter λe=>hasB fr to (ak e.1)).getD ((l1.filter λe=>hasB fr to (ak e.1)).length - 1) ([],[])∈ l1.filter λe=>hasB fr to (ak e.1):=by rw[ay,aK (by omega)];exact List.getElem_mem _
    have:=a1 _ (d_.1 hmem).1;rw[g2,i7] at this;cases this
  | cons x r =>
    have hx:x∈ l2/\hasB fr mid (ak x.1)=true:=d_.1 (by rw[hm];exact O ..);have hr:r=[]:=by
     cases r with
     | nil=>rfl
     | cons y r =>
       have hy:y∈ l2/\hasB fr mid (ak y.1)=true:=d_.1 (by rw[hm];exact T _ (O ..));have hp:(l2.filter λe=>hasB fr mid (ak e.1)).Pairwise λa b=>I a.1 b.1=true:=by have:=h.yb;rw[e,List.pairwise_append] at this;exact this.2.1.filter _
       rw[hm,eA] at hp;have:=hp.1 y (O ..);rw[is x hx.1 hx.2,is y hy.1 hy.2,i7] at this;cases this
    subst hr;have ha:(l1.filter (λe=>hasB fr to (ak e.1))++[x]).length - 1=(l1.filter λe=>hasB fr to (ak e.1)).length:=by rw[a_];rfl
    unfold qw;rw[ha,if_pos]
    ·rw[List.take_left'];rfl
    ·refine⟨by rw[a_];exact eW _,?_⟩;rw[ay,List.getElem?_append_right (R _),Nat.sub_self];exact is x hx.1 hx.2
 rw[key,eR,eQ]
def jz:List UInt8:=[255,255,255,255,255,255,255]
theorem FQ: ∀ {p:List UInt8} {n:Nat},(∀ b,b∈ p->b.toNat<16)->p.length<n->I p (eB n 15)=d
 | [],0,_,h=>absurd h (eN 0)
 | [],n+1,_,_=>rfl
 | a::p,0,_,h=>absurd h (Z _)
 | a::p,n+1,hb,h=>by
   have ha:=hb a (O ..);rw[List.replicate_succ,i6,an,Q,decide_eq_true_eq,decide_eq_true_eq];by_cases e:a=15
   ·exact .inr ⟨e,FQ (λb hb'=>hb b (T _ hb')) (by rw[ek] at h;omega)⟩
   ·refine .inl (UInt8.lt_iff_toNat_lt.2 ?_);have:a.toNat≠15:=λh=>e (UInt8.toNat_inj.1 h);show a.toNat<15;omega
theorem JX:ak jz=eB 14 15:=by decide +kernel
theorem Pw {p:List UInt8}(hb: ∀ b,b∈ p->b.toNat<16)(h:p.length<14):bN [] jz p=true:=by rw[BD,JX];refine⟨eX _ _ (FQ hb h),.inl ?_⟩;cases p<;>rfl
theorem G3 {l:List (List UInt8×List UInt8)}(h:tK l):aj [] jz l=l:=by
 unfold aj;rw[List.filter_eq_self];intro x hx;rw[lS,JX];refine⟨by cases ak x.1<;>rfl,eX _ _ (FQ (vM x.1) ?_)⟩
 have:=(h.key x hx).2;rw[n4];omega
theorem V0 {l:List (List UInt8×List UInt8)}(h:tK l):jc [] jz (rowsOf l)=aG (b8 13 (rowsOf l)):=by
 have hr:=rS h;have:lu [] jz 13 (rowsOf l) []=cw 13 (rowsOf l):=Oq hr λq ⟨x,hx,u,e⟩=>by have e:x.1=q++u:=e;refine Pw (λb hb=>hr.Yf x hx b (by rw[e];exact eu _ hb)) ?_;have:=hr.len x hx;rw[e,a_] at this;omega
 unfold jc gU;rw[this];rfl
def qE (f g f' g':Nat->List UInt8)(i:Nat):Bool:=F (f i=f' i)&&F (g i=g' i)
def dO (n:Nat)(f g:Nat->List UInt8)(n':Nat)(f' g':Nat->List UInt8):Bool:=F ((n:Int)=(n':Int))&&(ct n).all (qE f g f' g')
def dEn:List aq:=[.str λ_=>[],.str λ_=>[]]
def Xg:List tO:=[.of (.slice dEn),.of (.slice dEn)]
def og (z:Bool)(o c n:Nat)(f g:Nat->List UInt8)(key:Option Nat):Seen:=⟨key,z,o,n,c,[.str f,.str g]⟩
noncomputable def Kv (n:Nat)(f g f' g':Nat->List UInt8):fJ:={cm with cG:=λf=>aE f gd,bx:=λh=>if h=17 then [(4,always (zN 5 n (qE f g f' g')))] else []}
theorem Wl (n:Nat)(f g f' g':Nat->List UInt8):Sx.Good H (Kv n f g f' g'):=.of bR dU bl
noncomputable def Kt (n:Nat)(f g f' g':Nat->List UInt8):fJ:={cm with cG:=λf=>aE f gd,bx:=λh=>if h=57 then [(4,always (zN 13 n (qE f g f' g')))] else []}
theorem Wi (n:Nat)(f g f' g':Nat->List UInt8):Sx.Good H (Kt n f g f' g'):=.of bR dU bl
theorem Vl (n n':Nat)(f g f' g':Nat->List UInt8)(z z':Bool)(o c o' c':Nat)(key key':Option Nat):cZ (.s 0 (.n (.s 0 (.n .k .t)) (.n (.s 6 (.n .k .t)) .t))) (gD (Kv n f g f' g') 17 c6 [.bS 0 2 z o 0 n c,.bS 1 2 z' o' 0 n' c'] [og z o c n f g key,og z' o' c' n' f' g' key'] (.ret (.bool C (dO n f g n' f' g')))) ((((!decide ((n:Int)=(n':Int)))=d->af (SV.bool d C) (SV.bool C (dO n f g n' f' g')))/\((!decide ((n:Int)=(n':Int)))=C->(∃(u2:Nat),qn n (qE f g f' g') u2/\0=(u2:Int))/\∀(u1:Nat),qn n (qE f g f' g') u1->(F ((u1:Int)<(n:Int))=d->(0<=(u1:Int)/\(u1:Int)<(n:Int))/\(o=o/\0+(u1:Int).toNat<n)/\(0<=(u1:Int)/\(u1:Int)<(n':Int))/\(o'=o'/\0+(u1:Int).toNat<n')/\((!(F (f (0+(u1:Int).toNat)=f' (0+(u1:Int).toNat))&&(F (g (0+(u1:Int).toNat)=g' (0+(u1:Int).toNat))&&d)))=d->af (SV.bool d C) (SV.bool C (dO n f g n' f' g')))/\((!(F (f (0+(u1:Int).toNat)=f' (0+(u1:Int).toNat))&&(F (g (0+(u1:Int).toNat)=g' (0+(u1:Int).toNat))&&d)))=C->I6 ((u1:Int)+1)/\∃(u0:Nat),(qn n (qE f g f' g') u0/\n - u0<n - u1)/\(u1:Int)+1=(u0:Int)))/\(F ((u1:Int)<(n:Int))=C->af (SV.bool d d) (SV.bool C (dO n f g n' f' g')))))):=⟨by kernel_rfl,by kernel_rfl⟩
theorem QG (n n':Nat)(f g f' g':Nat->List UInt8)(z z':Bool)(o c o' c':Nat)(key key':Option Nat):cZ (.s 0 (.n (.s 0 (.n .k .t)) (.n (.s 6 (.n .k .t)) .t))) (gD (Kt n f g f' g') 57 c7 [.bS 0 2 z o 0 n c,.bS 1 2 z' o' 0 n' c'] [og z o c n f g key,og z' o' c' n' f' g' key'] (.ret (.bool C (dO n f g n' f' g')))) ((((!decide ((n:Int)=(n':Int)))=d->af (SV.bool d C) (SV.bool C (dO n f g n' f' g')))/\((!decide ((n:Int)=(n':Int)))=C->(∃(u2:Nat),qn n (qE f g f' g') u2/\0=(u2:Int))/\∀(u1:Nat),qn n (qE f g f' g') u1->(F ((u1:Int)<(n:Int))=d->(0<=(u1:Int)/\(u1:Int)<(n:Int))/\(o=o/\0+(u1:Int).toNat<n)/\(0<=(u1:Int)/\(u1:Int)<(n':Int))/\(o'=o'/\0+(u1:Int).toNat<n')/\((!(F (f (0+(u1:Int).toNat)=f' (0+(u1:Int).toNat))&&(F (g (0+(u1:Int).toNat)=g' (0+(u1:Int).toNat))&&d)))=d->af (SV.bool d C) (SV.bool C (dO n f g n' f' g')))/\((!(F (f (0+(u1:Int).toNat)=f' (0+(u1:Int).toNat))&&(F (g (0+(u1:Int).toNat)=g' (0+(u1:Int).toNat))&&d)))=C->I6 ((u1:Int)+1)/\∃(u0:Nat),(qn n (qE f g f' g') u0/\n - u0<n - u1)/\(u1:Int)+1=(u0:Int)))/\(F ((u1:Int)<(n:Int))=C->af (SV.bool d d) (SV.bool C (dO n f g n' f' g')))))):=⟨by kernel_rfl,by kernel_rfl⟩
theorem abk {a b:Bool}(h:(!(a&&(b&&d)))=C):(a&&b)=true:=by revert h;cases a<;>cases b<;>decide
theorem abj {a b:Bool}(h:(!(a&&(b&&d)))=d):(a&&b)=false:=by revert h;cases a<;>cases b<;>decide
def jV (vs:List SV)(l:List Seen):Option (Prop×cL):=match vs,l with
 | [_,_],[⟨_,_,_,n,_,[.str f,.str g]⟩,⟨_,_,_,n',_,[.str f',.str g']⟩]=>M (n<9223372036854775808,.ret (.bool C (dO n f g n' f' g')))
 | _,_=>J
theorem Gx {n n':Nat}{f g f' g':Nat->List UInt8}(hn:n<9223372036854775808)(z z':Bool)(o c o' c':Nat)(key key':Option Nat):aB (gD (Kv n f g f' g') 17 c6 [.bS 0 2 z o 0 n c,.bS 1 2 z' o' 0 n' c'] [og z o c n f g key,og z' o' c' n' f' g' key'] (.ret (.bool C (dO n f g n' f' g')))):=by
 refine aB.pr (Vl n n' f g f' g' z z' o c o' c' key key') ?_;simp only[c8,bU,true_and];refine⟨λh=>dM (by rw[dO,Q5 h];rfl),λh=>⟨⟨0,⟨W _,λj hj=>absurd hj (Z _)⟩,rfl⟩,λi hi=>⟨λa=> ?_,λa=> ?_⟩⟩⟩
 ·have a:(i:Int)<(n:Int):=of_decide_eq_true a;have e:(n:Int)=(n':Int):=Vy h;refine⟨by omega,by omega,by omega,by omega,λb=> ?_,λb=>⟨by omega,i+1,⟨sV hi a (abk b),by omega⟩,by omega⟩⟩;exact dM (by rw[dO,sW a (abj b),b_])
 ·have a: ¬ (i:Int)<(n:Int):=of_decide_eq_false a;exact dM (by rw[dO,wE hi a,Q6 h];rfl)
theorem Qg:az H 17 (bE Xg jV):=by
 refine fT (n:=20) (fn:=c6) Tryz.func17 (by kernel_rfl) (by kernel_rfl) ?_;intro vs l q a h hq;unfold jV at h;split at h
 ·rename_i v v' key z o n c f g key' z' o' n' c' f' g';injection h with h;injection h with h1 h2;subst h1;subst h2;exact⟨_,Wl n f g f' g',rfl,rfl,Gx hq z z' o c o' c' key key'⟩
 ·cases h
theorem CX {n n':Nat}{f g f' g':Nat->List UInt8}(hn:n<9223372036854775808)(z z':Bool)(o c o' c':Nat)(key key':Option Nat):aB (gD (Kt n f g f' g') 57 c7 [.bS 0 2 z o 0 n c,.bS 1 2 z' o' 0 n' c'] [og z o c n f g key,og z' o' c' n' f' g' key'] (.ret (.bool C (dO n f g n' f' g')))):=by
 refine aB.pr (QG n n' f g f' g' z z' o c o' c' key key') ?_;simp only[c8,bU,true_and];refine⟨λh=>dM (by rw[dO,Q5 h];rfl),λh=>⟨⟨0,⟨W _,λj hj=>absurd hj (Z _)⟩,rfl⟩,λi hi=>⟨λa=> ?_,λa=> ?_⟩⟩⟩
 ·have a:(i:Int)<(n:Int):=of_decide_eq_true a;have e:(n:Int)=(n':Int):=Vy h;refine⟨by omega,by omega,by omega,by omega,λb=> ?_,λb=>⟨by omega,i+1,⟨sV hi a (abk b),by omega⟩,by omega⟩⟩;exact dM (by rw[dO,sW a (abj b),b_])
 ·have a: ¬ (i:Int)<(n:Int):=of_decide_eq_false a;exact dM (by rw[dO,wE hi a,Q6 h];rfl)
theorem KJ:az H 57 (bE Xg jV):=by
 refine fT (n:=20) (fn:=c7) Tryz.func57 (by kernel_rfl) (by kernel_rfl) ?_;intro vs l q a h hq;unfold jV at h;split at h
 ·rename_i v v' key z o n c f g key' z' o' n' c' f' g';injection h with h;injection h with h1 h2;subst h1;subst h2;exact⟨_,Wi n f g f' g',rfl,rfl,CX hq z z' o c o' c' key key'⟩
 ·cases h
structure Xr where
 n:Nat
 f:Nat->List UInt8
 g:Nat->List UInt8
 z:Bool
 o:Nat
 c:Nat
 fr:List UInt8
 to:List UInt8
 m:Nat
 h:Nat->List UInt8
 z':Bool
 o':Nat
 c':Nat
def Xr.sp (x:Xr):Sp:=⟨x.fr,x.to,x.m,x.h,x.z',x.o',x.c',λ_=>C,λ_=>0⟩
noncomputable def Xr.U (x:Xr):List (List UInt8):=aG (b8 13 (av x.n (λi=>ak (x.f i)) x.g))
def Xr.bet (x:Xr):List Rw:=aj x.fr x.to (av x.n x.f x.g)
noncomputable def Xr.told (x:Xr):List Rw:=Ai (br x.n x.f x.g) x.sp
noncomputable def Xr.ab8 (x:Xr)(s:List UInt8)(j:Nat):Bool:=!Sj s (x.U.getD j [])
noncomputable def Xr.free (x:Xr)(i:Nat):Bool:=(ct x.U.length).all (x.ab8 (x.h i))
noncomputable def Xr.ask (x:Xr):Bool:=F (cA x.n x.f x.g=0)&&((cU (br x.n x.f x.g) x.sp).isSome&& !decide (x.told=x.bet))
noncomputable def Xr.hit (x:Xr):Bool:=x.ask&& !(ct x.m).all x.free
def Xr.args (x:Xr):List SV:=[.bS 0 2 x.z x.o 0 x.n x.c,.agg [.str C x.fr,.str C x.to],.bS 1 1 x.z' x.o' 0 x.m x.c']
def Xr.seen (x:Xr)(k k':Option Nat):List Seen:=[fD x.z x.o x.c x.n x.f x.g k,⟨k',x.z',x.o',x.m,x.c',[.str x.h]⟩]
theorem EI (L L':List Rw):dO L.length (λi=>(L.getD i ([],[])).1) (λi=>(L.getD i ([],[])).2) L'.length (λi=>(L'.getD i ([],[])).1) (λi=>(L'.getD i ([],[])).2)=F (L=L'):=by
 rw[cx,decide_eq_true_eq];unfold dO qE;rw[Q,decide_eq_true_eq,ej];constructor
 ·rintro⟨h1,h2⟩;refine List.ext_getElem (by omega) λi i1 i2=> ?_;have:=h2 i (a!.2 i1);rw[Q,decide_eq_true_eq,decide_eq_true_eq] at this;simp only[ay,aK i1,aK i2,Option.getD_some] at this;exact Prod.ext this.1 this.2
 ·rintro rfl;exact⟨rfl,λi _=>by simp⟩
namespace Xr
structure Ok (x:Xr):Prop where
 n:x.n<9223372036854775808
 few:x.sp.oB
end Xr
def aas:List tO:=[.of (.slice dE),.agg [.one,.one],.of (.slice [.str λ_=>[]])]
def aaO (vs:List SV)(l:List Seen):Option (Xr×Option Nat×Option Nat):=match vs,l with
 | [_,.agg [.str C fr,.str C to],_],[⟨k,z,o,n,c,[.str f,.str g]⟩,⟨k',z',o',m,c',[.str h]⟩]=>M (⟨n,f,g,z,o,c,fr,to,m,h,z',o',c'⟩,k,k')
 | _,_=>J
theorem XS {vs:List SV}{l:List Seen}{x:Xr}{k k':Option Nat}(h:aaO vs l=M (x,k,k')):filled aas vs l=x.args/\l=x.seen k k':=by
 unfold aaO at h;split at h
 ·injection h with h;injection h with h1 h;injection h with h2 h3;subst h1;subst h2;subst h3;exact⟨rfl,rfl⟩
 ·cases h
end Go.Proofs.YtoibaecagklkaaaGreatDoor
namespace Go.Proofs.YtoibaecagklkaaaGreatDoor.Sx
open Go
def cL.vcs (c:Bool)(m:Mem)(nx:Nat)(K:SV->Mem->Nat->VC):cL->VC
 | .ret v=>K v m nx
 | .new v B=>K (v nx) ((nx,B)::m) (nx+1)
 | .all α f=>.all α λx=>(f x).vcs c m nx K
 | .req p a=>.imp p (a.vcs c m nx K)
 | .fork b f=>.and (.atom (b=c)) ((f c).vcs c m nx K)
theorem cL.CL {c:Bool}{m:Mem}{nx:Nat}{K:SV->Mem->Nat->VC}: ∀ {a:cL},(a.vcs c m nx K).holds->(a.vc m nx K).holds
 | .ret _,h=>h
 | .new _ _,h=>h
 | .all _ f,h=>λx=>cL.CL (a:=f x) (h x)
 | .req _ a,h=>λx=>cL.CL (a:=a) (h x)
 | .fork b f,h=>cB.2 (by obtain⟨h1,h2⟩:=h;have h1:b=c:=h1;subst h1;exact cL.CL (a:=f b) h2)
theorem cL.wI {c:Bool}{m:Mem}{nx:Nat}{K K':SV->Mem->Nat->VC}(hK: ∀ v m nx,(K v m nx).holds->(K' v m nx).holds): ∀ {a:cL},(a.vcs c m nx K).holds->(a.vcs c m nx K').holds
 | .ret _,h=>hK _ _ _ h
 | .new _ _,h=>hK _ _ _ h
 | .all _ f,h=>λx=>cL.wI (a:=f x) hK (h x)
 | .req _ a,h=>λx=>cL.wI (a:=a) hK (h x)
 | .fork _ f,h=>⟨h.1,cL.wI (a:=f c) hK h.2⟩
noncomputable def ot (c:Bool)(sh:List tO)(spec:List SV->List Seen->Option (Prop×cL)):PT:=λargs m nx K=>match FY m sh args with
 | true=>uS sh spec args m nx K
 | false=>(match mb m 0 sh args with
   | some (vs,p,l)=>(match spec vs l with
     | some (q,a)=>.and (.atom (p/\q)) (a.vcs c m nx K)
     | none=>.fail "arguments that nothing is said of")
   | none=>.fail "a slice that is not known")
theorem tG (c:Bool)(sh:List tO)(spec:List SV->List Seen->Option (Prop×cL)):aQ (ot c sh spec):=by
 intro args m nx K K' hK h;unfold ot at h ⊢;split at h
 ·exact EZ sh spec _ _ _ _ _ hK h
 ·split at h
  ·split at h
   ·exact⟨h.1,cL.wI hK h.2⟩
   ·exact h
  ·exact h
theorem EN {P:Program}{f:FuncId}{c:Bool}{sh:List tO}{spec:List SV->List Seen->Option (Prop×cL)}(h:az P f (bE sh spec)):az P f (ot c sh spec):=by
 intro args m nx K hk hwf hargs Γ E w hs;unfold ot at hk;split at hk
 ·exact Rj h args m nx K hk hwf hargs Γ E w hs
 ·have:(bE sh spec args m nx K).holds:=by
   unfold bE;split at hk
   ·rename_i vs p l hp;split at hk
    ·rename_i q a hq
     first
      | exact⟨hk.1,cL.CL hk.2⟩
      | (rw[hp];simp only[hq];exact⟨hk.1,cL.CL hk.2⟩)
    ·exact hk.elim
   ·exact hk.elim
  exact h args m nx K this hwf hargs Γ E w hs
end Go.Proofs.YtoibaecagklkaaaGreatDoor.Sx
namespace Go.Proofs.YtoibaecagklkaaaGreatDoor
open Go Sx
set_option maxRecDepth 20000
def JO (pt:PT):PT:=λargs m nx K=>pt args m nx λv m nx=>match v with
 | .bool _ b=>.and (.atom (b=d)) (K (.bool d d) m nx)
 | v=>K v m nx
theorem uK {pt:PT}(h:aQ pt):aQ (JO pt):=by
 intro args m nx K K' hK hh;refine h _ _ _ _ _ (λv m nx hv=> ?_) hh
 cases v<;>first
  | exact⟨hv.1,hK _ _ _ hv.2⟩
  | exact hK _ _ _ hv
theorem Cz {P:Program}{f:FuncId}{pt:PT}(h:az P f pt):az P f (JO pt):=by
 intro args m nx K hk hwf hargs Γ E w hs;refine(h args m nx _ hk hwf hargs Γ E w hs).mono (λe w' hh=> ?_) (λ_ _ h=>h);obtain⟨E',sv,m',nx',h1,h2,h3,h4,h5⟩:=hh;cases sv with
 | none=>exact h5.elim
 | some v =>
   simp only[lift] at h5;split at h5
   ·rename_i l b;obtain⟨hb,h5⟩:=h5;have hb:b=true:=hb;subst hb;exact⟨E',M (.bool d d),m',nx',h1,h2,λv hv=>by injection hv with hv;subst hv;exact h3 (.bool l d) rfl,h4,h5⟩
   ·exact⟨E',_,m',nx',h1,h2,h3,h4,h5⟩
noncomputable def Kw (n:Nat)(f f':Nat->List UInt8):fJ:={cm with cG:=λf=>aE f gd,bx:=λg=>if g=15 then [(4,always (zN 5 n λi=>decide (f i=f' i)))] else []}
theorem Wm (n:Nat)(f f':Nat->List UInt8):Sx.Good H (Kw n f f'):=.of bR dU bl
theorem GP {f:FuncId}{sh:List tO}{spec spec':List SV->List Seen->Option (Prop×cL)}(h:az H f (bE sh spec))(hi: ∀ vs l q' a',spec' vs l=M (q',a')->q'->∃ q a,spec vs l=M (q,a)/\q/\∀ m nx K,(a'.vc m nx K).holds->(a.vc m nx K).holds):az H f (bE sh spec'):=by
 intro args m nx K hk;refine h args m nx K ?_;unfold bE at hk ⊢;split at hk
 ·rename_i vs p l hp;split at hk
  ·rename_i q' a' hs;obtain⟨q,a,e,hq,g⟩:=hi vs l q' a' hs hk.1.2;simp only[e];exact⟨⟨hk.1.1,hq⟩,g m nx K hk.2⟩
  ·exact hk.elim
 ·exact hk.elim
structure wV (n:Nat)(f g:Nat->List UInt8)(root:List UInt8)(w:Sp):Prop where
 m6:cA n f g=0
 apart:fq (lV n f g).length (fz n f g)=d
 root:root=br n f g
 le:j7 w.fr w.to=d
 len:w.n=(jc w.fr w.to (av n (λi=>ak (f i)) g)).length
 cS: ∀ i,i<w.n->w.f i=(jc w.fr w.to (av n (λi=>ak (f i)) g)).getD i []
 fr:w.fr.length<=1000
 to:w.to.length<=1000
theorem wV.res {n:Nat}{f g:Nat->List UInt8}{root:List UInt8}{w:Sp}(h:wV n f g root w):cU root w=M (aj w.fr w.to (av n f g)):=by obtain⟨he,h40⟩:=gF h.m6;have hi:=K2 h.apart;have h1:=h.len;have h2:=h.cS;rw[h.root];unfold br;rw[jQ] at h1 h2 hi ⊢;exact Vu he (by rw[dr];exact h40) hi h.le h1 h2
theorem xb {n:Nat}{f g:Nat->List UInt8}(h:cA n f g=0)(fr to:List UInt8){t:List UInt8}(ht:t∈ jc fr to (av n (λi=>ak (f i)) g)):t.length<=700:=(oO (jf h) (oA (rO.1 ht))).2.1
theorem wV.few {n:Nat}{f g:Nat->List UInt8}{root:List UInt8}{w:Sp}(h:wV n f g root w):w.oB:=⟨λi hi=>by rw[h.cS i hi];exact eC (xb h.m6 w.fr w.to (tV (by rw[← h.len];exact hi))) (by decide),h.fr,h.to⟩
def abG (L:List Rw):cL:=.all Nat λc=>.req (L.length<=c) (.new (λk=>.aN [.aZ k 2 d 0 L.length c,.int .i64 d 0]) (.rows d L.length [bK L,bL L] C (c*2) 50))
noncomputable def mA (n:Nat)(f g:Nat->List UInt8)(vs:List SV)(l:List Seen):Option (Prop×cL):=match Qq vs l with
 | some (root,w,_)=>M (wV n f g root w,abG (aj w.fr w.to (av n f g)))
 | none=>J
theorem yE (n:Nat)(f g:Nat->List UInt8):az H 14 (bE Dc (mA n f g)):=GP Cv λvs l q' a' h hq=>by
 unfold mA at h;split at h
 ·rename_i root w kk hx;injection h with h;injection h with h1 h2;subst h1;subst h2;refine⟨_,_,by unfold oo;rw[hx],hq.few,λm nx K hk=> ?_⟩;have e:Ai root w=aj w.fr w.to (av n f g):=by unfold Ai;rw[hq.res]
  unfold pS;simp only[cL.vc];rw[cB,hq.res,e];exact hk
 ·cases h
noncomputable def xp (vs:List SV)(l:List Seen):Option (Prop×cL):=match aaO vs l with
 | some (x,_,_)=>M (x.n<9223372036854775808/\wV x.n x.f x.g (br x.n x.f x.g) x.sp,.ret (.aN [.str d [],.str d [],.bool d C]))
 | none=>J
noncomputable def TB (x:Xr):List (FuncId×PT):=(21,ot d UK Ch)::(14,bE Dc (mA x.n x.f x.g))::(23,bE Xf uU)::(57,JO (bE Xg jV))::fP
theorem Pq (x:Xr):bn H (λf=>aE f (TB x)):=.cons (EN Xb) (tG _ _ _) (.cons (yE x.n x.f x.g) (bQ _ _) (.cons tU (bQ _ _) (.cons (Cz KJ) (uK (bQ _ _)) cO)))
noncomputable def XV (x:Xr):fJ:={cm with cG:=λf=>aE f (TB x)}
theorem ZK (x:Xr):Sx.Good H (XV x):=.of bR (Pq x) bl
theorem Vk (n n':Nat)(f f':Nat->List UInt8)(z z':Bool)(o o' c c':Nat)(key key':Option Nat):cZ (.s 0 (.n (.s 0 (.n .k .t)) (.n (.s 6 (.n .k .t)) .t))) (gD (Kw n f f') 15 c5 [.bS 0 1 z o 0 n c,.bS 1 1 z' o' 0 n' c'] [iw z o c n f key,iw z' o' c' n' f' key'] (.ret (.bool C (dQ n f n' f')))) ((((!decide ((n:Int)=(n':Int)))=d->af (SV.bool d C) (SV.bool C (dQ n f n' f')))/\((!decide ((n:Int)=(n':Int)))=C->(∃(u5:Nat),qn n (fun(u4:Nat)=>decide (f u4=f' u4)) u5/\0=(u5:Int))/\∀(u3:Nat),qn n (fun(u2:Nat)=>decide (f u2=f' u2)) u3->(F ((u3:Int)<(n:Int))=d->(0<=(u3:Int)/\(u3:Int)<(n:Int))/\(o=o/\0+(u3:Int).toNat<n)/\(0<=(u3:Int)/\(u3:Int)<(n':Int))/\(o'=o'/\0+(u3:Int).toNat<n')/\((!decide (f (0+(u3:Int).toNat)=f' (0+(u3:Int).toNat)))=d->af (SV.bool d C) (SV.bool C (dQ n f n' f')))/\((!decide (f (0+(u3:Int).toNat)=f' (0+(u3:Int).toNat)))=C->I6 ((u3:Int)+1)/\∃(u1:Nat),(qn n (fun(u0:Nat)=>decide (f u0=f' u0)) u1/\n - u1<n - u3)/\(u3:Int)+1=(u1:Int)))/\(F ((u3:Int)<(n:Int))=C->af (SV.bool d d) (SV.bool C (dQ n f n' f')))))):=⟨by kernel_rfl,by kernel_rfl⟩
theorem Xu (x:Xr)(k k':Option Nat):cZ .t (gD (XV x) 22 ef x.args (x.seen k k') (.ret (.aN [.str d [],.str d [],.bool d C]))) (((((x.z=x.z/\x.o=x.o/\0+x.n<=x.n)/\True)/\x.n<9223372036854775808)/\F (cA x.n x.f x.g=0)=d/\((True/\(True/\True/\True)/\(x.z'=x.z'/\x.o'=x.o'/\0+x.m<=x.m)/\True)/\wV x.n x.f x.g (br x.n x.f x.g) {fr:=x.fr,to:=x.to,n:=x.m,f:=x.h,z:=x.z',o:=x.o'+0,c:=x.c',ad:=fun(_u8:List UInt8)=>C,ag:=fun(_u7:List UInt8)=>(0:Int):Sp})/\∀(u6:Nat),(aj x.fr x.to (av x.n x.f x.g)).length<=u6->(((x.z=x.z/\x.o=x.o/\0+x.n<=x.n)/\(True/\True/\True)/\True)/\x.n<=1000/\(∀(u5:Nat),u5<x.n->(x.f u5).length<1099511627776)/\x.fr.length<=1000/\x.to.length<=1000)/\∀(u4:Nat),(aj x.fr x.to (av x.n x.f x.g)).length<=u4->(((d=d/\0+(aj x.fr x.to (av x.n x.f x.g)).length<=(aj x.fr x.to (av x.n x.f x.g)).length)/\(d=d/\0+(aj x.fr x.to (av x.n x.f x.g)).length<=(aj x.fr x.to (av x.n x.f x.g)).length)/\True)/\(aj x.fr x.to (av x.n x.f x.g)).length<9223372036854775808) /\(dO (aj x.fr x.to (av x.n x.f x.g)).length (fun(u3:Nat)=>((aj x.fr x.to (av x.n x.f x.g)).getD u3 ([],[])).1) (fun(u2:Nat)=>((aj x.fr x.to (av x.n x.f x.g)).getD u2 ([],[])).2) (aj x.fr x.to (av x.n x.f x.g)).length (fun(u1:Nat)=>((aj x.fr x.to (av x.n x.f x.g)).getD u1 ([],[])).1) fun(u0:Nat)=>((aj x.fr x.to (av x.n x.f x.g)).getD u0 ([],[])).2)=d/\af (SV.aN [SV.str d [],SV.str d [],SV.bool d C]) (SV.aN [SV.str d [],SV.str d [],SV.bool d C]))):=⟨by kernel_rfl,by kernel_rfl⟩
theorem Gw {n n':Nat}{f f':Nat->List UInt8}(hn:n<9223372036854775808)(z z':Bool)(o o' c c':Nat)(key key':Option Nat):aB (gD (Kw n f f') 15 c5 [.bS 0 1 z o 0 n c,.bS 1 1 z' o' 0 n' c'] [iw z o c n f key,iw z' o' c' n' f' key'] (.ret (.bool C (dQ n f n' f')))):=by
 refine aB.pr (Vk n n' f f' z z' o o' c c' key key') ?_;simp only[c8,bU];refine⟨λh=>dM (by rw[dQ,Q5 h];rfl),λh=>⟨⟨0,⟨W _,λj hj=>absurd hj (Z _)⟩,rfl⟩,λi hi=>⟨λa=> ?_,λa=> ?_⟩⟩⟩
 ·simp only[decide_eq_true_eq] at a;have e:(n:Int)=(n':Int):=Vy h;refine⟨by omega,⟨trivial,by omega⟩,by omega,⟨trivial,by omega⟩,λb=> ?_,λb=>⟨by omega,i+1,⟨sV hi a (Q6 b),by omega⟩,by omega⟩⟩;exact dM (by rw[dQ,sW a (Q5 b),b_])
 ·simp only[decide_eq_false_iff_not] at a;exact dM (by rw[dQ,wE hi a,Q6 h];rfl)
theorem EH:az H 15 (bE UL jW):=by
 refine fT (n:=20) (fn:=c5) Tryz.func15 (by kernel_rfl) (by kernel_rfl) ?_;intro vs l q a h hq;unfold jW at h;split at h
 ·rename_i v v' key z o n c f key' z' o' n' c' f';injection h with h;injection h with h1 h2;subst h1;subst h2;exact⟨_,Wm n f f',rfl,rfl,Gw hq z z' o o' c c' key key'⟩
 ·cases h
theorem MV {n:Nat}{f g:Nat->List UInt8}(h:cA n f g=0):n<=1000/\∀ i,i<n->(f i).length<1099511627776:=by obtain⟨he,h40⟩:=gF h;refine⟨by omega,λi hi=> ?_⟩;have:=(he.key (f i,g i) (by unfold av;exact b!.2 ⟨i,a!.2 hi,rfl⟩)).2;have:(f i).length<=6:=this;omega
theorem zR (fr to:List UInt8)(n:Nat)(f g:Nat->List UInt8):(aj fr to (av n f g)).length<=n:=by have:=List.length_filter_le (λe:List UInt8×List UInt8=>hasB fr to (ak e.1)) (av n f g);rw[dr] at this;exact this
theorem SA:az H 22 (bE aas xp):=by
 refine fT (n:=20) (fn:=ef) Tryz.func22 (by kernel_rfl) (by kernel_rfl) ?_;intro vs l q a h hq;unfold xp at h;split at h
 ·rename_i x k k' hx;injection h with h;injection h with h1 h2;subst h1;subst h2;obtain⟨e1,e2⟩:=XS hx;rw[e1,e2];refine⟨_,ZK x,rfl,rfl,aB.pr (Xu x k k') ?_⟩;obtain⟨hn,hv⟩:=hq;have hl:=zR x.fr x.to x.n x.f x.g;obtain⟨b1,b2⟩:=MV hv.m6;simp only[true_and,and_true,bU,R];exact⟨hn,decide_eq_true hv.m6,hv,λc hc=>⟨⟨b1,b2,hv.fr,hv.to⟩,λc' hc'=>⟨by omega,(EI _ _).trans (decide_eq_true rfl),λ_=>rfl⟩⟩⟩
 ·cases h
def lR (t:List SV->Bool)(p q:PT):PT:=λargs m nx K=>match t args with
 | true=>p args m nx K
 | false=>q args m nx K
theorem m7 {t:List SV->Bool}{p q:PT}(hp:aQ p)(hq:aQ q):aQ (lR t p q):=by
 intro args m nx K K' hK h;unfold lR at h ⊢;split at h
 ·exact hp _ _ _ _ _ hK h
 ·exact hq _ _ _ _ _ hK h
theorem xo {P:Program}{f:FuncId}{t:List SV->Bool}{p q:PT}(hp:az P f p)(hq:az P f q):az P f (lR t p q):=by
 intro args m nx K hk;unfold lR at hk;split at hk
 ·exact hp args m nx K hk
 ·exact hq args m nx K hk
def asC (c:gE)(pre:c.G->Prop)(wP:c.G->fZ):gE:={c with pre:=pre,wP:=wP}
theorem vE {P:Program}{f:FuncId}{c:gE}{pre:c.G->Prop}{wP:c.G->fZ}(h:az P f (cD c))(hi: ∀ x,pre x->c.pre x/\∀ g,((wP x).qK g).holds->((c.wP x).qK g).holds):az P f (cD (asC c pre wP)):=by
 intro args m nx K hk;refine h args m nx K ?_;obtain⟨x,h1,h2⟩:=hk;refine⟨x,(hi x h1).1,nr (λaJ h=>fX (λaJ h=> ?_) h) h2⟩;cases hr:zj nx aJ with
 | false=>simp only[hr] at h;exact h.elim
 | true=>simp only[hr] at h ⊢;exact(hi x h1).2 _ h
structure HoZ where
 n:Nat
 f:Nat->List UInt8
 g:Nat->List UInt8
 o:Nat
 c:Nat
def HoZ.ho (x:HoZ):Yu:=⟨x.n,x.f,x.g,C,x.o,x.c⟩
noncomputable def K3:gE:={G:=HoZ,n:=1,N:=4,pre:=λx=>x.n<9223372036854775808,args:=λx=>lW.args x.ho,mem:=λx=>lW.mem x.ho,wP:=λx=>lW.wP x.ho}
theorem S7:az H 12 (cD K3) :=gx (n:=20) (fn:=Tryz.f12) Tryz.func12 (by kernel_rfl) (by kernel_rfl) K3 λx hx=>⟨_,Nu,rfl,y5 (λ_ _ _ h=>X9 h) x.ho hx⟩
noncomputable def Ny:gE:=asC K3 (λx=>x.n<9223372036854775808/\xz x.n x.f x.g=d) λx=>.all tJ λy=>.req (CQ x.n x.f x.g y) (.ret (.aN [.ptr 1 d 0,.str C (br x.n x.f x.g)]) [(1,gC 2000 2),(2,.fmap (cn y.Fr) (.ref 3 y.g) J),(3,y.A.bare)])
theorem vp {n:Nat}{f g:Nat->List UInt8}(h:xz n f g=d){y:tJ}(hy:nC (lV n f g).length (fz n f g) (aC (fz n f g 0)) y):CQ n f g y:=by unfold xz at h;simp only[Q,decide_eq_true_eq] at h;exact⟨h.2.1,h.2.2,hy⟩
theorem rZ (n:Nat)(f g:Nat->List UInt8):aC (fz n f g 0)=br n f g:=by rw[vq];rfl
theorem K4:az H 12 (cD Ny):=vE S7 fun(x:HoZ) hx=>⟨hx.1,λG h=>by show(Sx.fork (xz x.n x.f x.g) _).holds;rw[cB,hx.2];show ∀ y,_->_;intro y hy;have:=h y (vp hx.2 hy);rw[← rZ] at this;exact this⟩
noncomputable def uW:gE:=asC oJ (λx=>wS x/\x.root=br x.n x.f x.g/\j7 x.fr x.to=d) λx=>.all Nat λc=>.req (x.ns.length<=c) (.ret (.aN [.aZ 3 1 d 0 x.ns.length c,.int .i64 d 0]) (oW x.room x.y++[(3,.rows d x.ns.length [iA x.ns] C (c*1) 9)]))
noncomputable def G7:gE:=asC oJ (λx=>wS x/\x.root=br x.n x.f x.g/\j7 x.fr x.to=C) λx=>.ret (.aN [.aM,.int .i64 d 1]) (oW x.room x.y)
noncomputable def MX:gE:=asC oJ (λx=>wS x/\¬ x.root=br x.n x.f x.g) λx=>.ret (.aN [.aM,.int .i64 d 4]) (oW x.room x.y)
theorem qv:az H 13 (cD uW):=vE xh fun(x:GS) hx=>⟨hx.1,λG h=>by show(Sx.fork (F (x.root=br x.n x.f x.g)) _).holds;rw[cB,decide_eq_true hx.2.1];show(Sx.fork (j7 x.fr x.to) _).holds;rw[cB,hx.2.2];exact h⟩
theorem G8:az H 13 (cD G7):=vE xh fun(x:GS) hx=>⟨hx.1,λG h=>by show(Sx.fork (F (x.root=br x.n x.f x.g)) _).holds;rw[cB,decide_eq_true hx.2.1];show(Sx.fork (j7 x.fr x.to) _).holds;rw[cB,hx.2.2];exact h⟩
theorem Ko:az H 13 (cD MX):=vE xh fun(x:GS) hx=>⟨hx.1,λG h=>by show(Sx.fork (F (x.root=br x.n x.f x.g)) _).holds;rw[cB,decide_eq_false hx.2];exact h⟩
def uO (vs:List SV)(l:List Seen):Option (Prop×cL):=match Qq vs l with
 | some (_root,w,_)=>M (w.n=0/\w.fr.length<=1000/\w.to.length<=1000,.ret (.aN [.aM,.int .i64 d 10]))
 | none=>J
theorem Q3:az H 14 (bE Dc uO):=GP Cv λvs l q' a' h hq=>by
 unfold uO at h;split at h
 ·rename_i root w kk hx;injection h with h;injection h with h1 h2;subst h1;subst h2;obtain⟨h0,h1,h2⟩:=hq;refine⟨w.oB,pS root w,by unfold oo;rw[hx],⟨(λi hi=>by rw[h0] at hi;exact absurd hi (Z _)),h1,h2⟩,λm nx K hk=> ?_⟩;have e:cU root w=none:=by unfold cU;rw[decide_eq_false (show ¬ 0<w.n by rw[h0];exact eN 0),Bool.false_and,b_];rfl
  unfold pS;simp only[cL.vc];rw[cB,e];exact hk
 ·cases h
def Wx:List SV->Bool
 | [_,_,.aM]=>d
 | _=>C
def abi:List SV->Bool
 | [_,.str d _,_]=>d
 | _=>C
def toA:List SV->Bool
 | [_,_,.agg [_,.str _ [97]]]=>d
 | _=>C
def eF (i:Nat):List UInt8:=[[97],[98]].getD i []
def eG (i:Nat):List UInt8:=[[49],[50]].getD i []
noncomputable def Tz:List (FuncId×PT):=(12,cD Ny)::(13,lR abi (cD MX) (lR toA (cD G7) (cD uW)))::(14,lR Wx (bE Dc uO) (bE Dc (mA 2 eF eG)))::(23,bE Xf uU)::(22,bE aas xp)::fP
theorem Pm:bn H (λf=>aE f Tz):=.cons K4 (cc _) (.cons (xo Ko (xo G8 qv)) (m7 (cc _) (m7 (cc _) (cc _))) (.cons (xo Q3 (yE 2 eF eG)) (m7 (bQ _ _) (bQ _ _)) (.cons tU (bQ _ _) (.cons SA (bQ _ _) cO))))
noncomputable def RZ:fJ:={cm with cG:=λf=>aE f Tz}
theorem ZG:Sx.Good H RZ:=.of bR Pm bl
noncomputable def UF (cfg:fJ)(f:Nat)(fn:Func)(args:List SV)(a:cL):VC:=fG H (calling H cfg 40) [] Ad (cfg.bx f) cfg.rounds fn args [] 0 (λv m _=>a.fit v m)
theorem Q1:cZ (.s 0 (.n .k (.s 0 (.n .k (.s 1 (.n .k (.n .k (.n .k (.s 0 (.n .k (.n .k (.n .k (.s 3 (.n .k (.n .k (.n .k (.s 0 (.n .k (.n .k (.n .k (.s 1 (.n .k (.n .k (.n .k (.s 0 (.n .k (.n .k (.n .k (.s 0 (.n (.s 1 (.n (.s 2 (.n (.s 0 (.c C 0 (.s 0 (.c C 1 .t)))) (.n (.s 0 (.n (.s 0 (.c C 2 .t)) .t)) .t))) .t)) .t)))))))))))))))))))))))))))))) (UF RZ 11 Tryz.f11 [] (.ret (.bool d d))) ((λP0:List SV=>((∃(u18:HoZ),(u18.n<9223372036854775808/\xz u18.n u18.f u18.g=d)/\(0=u18.o+0/\2=u18.n/\2=u18.c)/\aa (SB.cells [SV.str d [(97:UInt8)],SV.str d [(49:UInt8)],SV.str d [(98:UInt8)],SV.str d [(50:UInt8)]] 4 50) (SB.view C u18.o u18.n [aq.str u18.f,aq.str u18.g])/\∀(u17:tJ),CQ u18.n u18.f u18.g u17->∃(u16:GS),(wS u16/\u16.root=br u16.n u16.f u16.g/\j7 u16.fr u16.to=d)/\br u18.n u18.f u18.g=u16.root/\[(98:UInt8)]=u16.fr/\[(99:UInt8)]=u16.to/\2000=u16.room/\aa (SB.fmap (cn u17.Fr) (aD.ref 4 u17.g) J) (SB.fmap (cn u16.y.Fr) (aD.ref 2 u16.y.g) J)/\aa (SB.dR u17.A.D [aq.str u17.A.cS] 4 133 C) (SB.dR u16.y.A.D [aq.str u16.y.A.cS] 4 133 d)/\∀(u15:Nat),u16.ns.length<=u15->((True/\(True/\True/\True)/\(d=d/\0+u16.ns.length<=u16.ns.length)/\True)/\wV 2 eF eG (br u18.n u18.f u18.g) {fr:=[(98:UInt8)],to:=[(99:UInt8)],n:=u16.ns.length,f:=fun(u14:Nat)=>u16.ns.getD u14 [],z:=d,o:=(0:Nat),c:=u15,ad:=fun(_u13:List UInt8)=>C,ag:=fun(_u12:List UInt8)=>(0:Int):Sp}) /\∀(u11:Nat),1<=u11->((True/\(True/\True/\True)/\True/\True)/\(0:Nat)=(0:Nat)/\(1:Nat)<=(1000:Nat)/\(1:Nat)<=(1000:Nat))/\∃(u10:GS),(wS u10/\u10.root=br u10.n u10.f u10.g/\j7 u10.fr u10.to=C)/\br u18.n u18.f u18.g=u10.root/\[(98:UInt8)]=u10.fr/\[(97:UInt8)]=u10.to/\u16.room=u10.room/\aa (SB.fmap (cn u16.y.Fr) (aD.ref 4 u16.y.g) J) (SB.fmap (cn u10.y.Fr) (aD.ref 2 u10.y.g) J)/\aa (SB.dR u17.A.D [aq.str u17.A.cS] 4 133 C) (SB.dR u10.y.A.D [aq.str u10.y.A.cS] 4 133 d)/\∃(u9:GS),(wS u9/\¬u9.root=br u9.n u9.f u9.g)/\[(63:UInt8)]=u9.root/\[(98:UInt8)]=u9.fr/\[(99:UInt8)]=u9.to/\u10.room=u9.room/\aa (SB.fmap (cn u10.y.Fr) (aD.ref 4 u10.y.g) J) (SB.fmap (cn u9.y.Fr) (aD.ref 2 u9.y.g) J)/\aa (SB.dR u17.A.D [aq.str u17.A.cS] 4 133 C) (SB.dR u9.y.A.D [aq.str u9.y.A.cS] 4 133 d)/\((True/\(True/\True/\True)/\(d=d/\0+u16.ns.length<=u16.ns.length)/\True)/\(2:Nat)<(9223372036854775808:Nat) /\wV 2 (fun(u8:Nat)=>rE ((X 0 P0).getD (u8*2+(0:Nat)) SV.bO)) (fun(u7:Nat)=>rE ((X 0 P0).getD (u7*2+(1:Nat)) SV.bO)) (br 2 (fun(u6:Nat)=>rE ((X 0 P0).getD (u6*2+(0:Nat)) SV.bO)) fun(u5:Nat)=>rE ((X 0 P0).getD (u5*2+(1:Nat)) SV.bO)) {n:=(2:Nat),f:=fun(u4:Nat)=>rE ((X 0 P0).getD (u4*2+(0:Nat)) SV.bO),g:=fun(u3:Nat)=>rE ((X 0 P0).getD (u3*2+(1:Nat)) SV.bO),z:=C,o:=(0:Nat),c:=(2:Nat),fr:=[(98:UInt8)],to:=[(99:UInt8)],m:=u16.ns.length,h:=fun(u2:Nat)=>u16.ns.getD u2 [],z':=d,o':=(0:Nat),c':=u15:Xr}.sp)/\(F ((↑(1:Nat):Int)=1)=d->((0:Int)<=(0:Int)/\0<(↑(1:Nat):Int))/\(0:Nat)<(1:Nat)/\(F (((aj [(98:UInt8)] [(99:UInt8)] (av 2 eF eG)).getD 0 ([],[])).1=[(98:UInt8)])=d->(1:Nat)<(1099511627776:Nat)/\((!(I [] (ak [(99:UInt8)])||decide ([]=ak [(99:UInt8)])))=d->af (SV.bool d C) (SV.bool d d)) /\((!(I [] (ak [(99:UInt8)])||decide ([]=ak [(99:UInt8)])))=C->(1:Nat)<(1099511627776:Nat)/\((!Op.bytesLess [] (ak [(98:UInt8)]))=d->(1:Nat)<(1099511627776:Nat)/\(1:Nat)<(1099511627776:Nat)/\af (SV.bool d C) (SV.bool d d))/\((!Op.bytesLess [] (ak [(98:UInt8)]))=C->(F ((0:Int)<=(2:Int))=d->((0:Int)<=(0:Int)/\(0:Int)<=(0:Int)/\(0:Int)<=(2:Int))/\(F (cj (ak [(98:UInt8)]) J (M (Operand.tmp 13)) 0 0=[])=d->(1:Nat)<(1099511627776:Nat)/\((True/\(True/\True/\True)/\True)/\(2:Nat)<=(1000:Nat)/\(∀(u1:Nat),u1<2->(rE ((X 0 P0).getD (u1*2+(0:Nat)) SV.bO)).length<1099511627776)/\(1:Nat)<=(1000:Nat)/\(1:Nat)<=(1000:Nat))/\∀(u0:Nat),1<=u0->af (SV.bool (C&&d) (F ((1:Int)=(1:Int)))) (SV.bool d d))/\(F (cj (ak [(98:UInt8)]) J (M (Operand.tmp 13)) 0 0=[])=C->af (SV.bool d C) (SV.bool d d)))/\(F ((0:Int)<=(2:Int))=C->af (SV.bool d C) (SV.bool d d))))) /\(F (((aj [(98:UInt8)] [(99:UInt8)] (av 2 eF eG)).getD 0 ([],[])).1=[(98:UInt8)])=C->af (SV.bool d C) (SV.bool d d)))/\(F ((↑(1:Nat):Int)=1)=C->af (SV.bool d C) (SV.bool d d))))) (aT (aT (times 2 (SV.agg [SV.str d [],SV.str d []]).cells) 0 (SV.agg (aT (aT [SV.str d [],SV.str d []] 0 (SV.str d [(97:UInt8)]).cells) 1 (SV.str d [(49:UInt8)]).cells)).cells) 2 (SV.agg (aT (aT [SV.str d [],SV.str d []] 0 (SV.str d [(98:UInt8)]).cells) 1 (SV.str d [(50:UInt8)]).cells)).cells)):=⟨by kernel_rfl,by kernel_rfl⟩
end Go.Proofs.YtoibaecagklkaaaGreatDoor
