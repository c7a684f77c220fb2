/-
  The framework's part 25: a slice among a call's arguments, as a view: whatever the caller holds it by.
-/
import Derived.Test.YtoibaecagklkaaaGreatDoorMk
import Derived.Test.YtoibaecagklkaaaGreatDoorMl
import Derived.Test.YtoibaecagklkaaaGreatDoorMn
import Derived.Test.YtoibaecagklkaaaGreatDoorMm
open Bool renaming and_eq_true->O,false->A,true->C
open Decidable renaming decide->M
open Go.LoopState renaming ready->I
open Go.Proofs.Tryz renaming f105->bf,f128->b7,f150->b_,f25->Z,f61->ag,func128->b!,prog->J
open List renaming all_eq_true->ct,append_assoc->cx,append_nil->cy,ext_getElem?->cR,getD_eq_getElem?_getD->c4,getElem?_append_left->c5,getElem?_append_right->c_,getElem?_eq_getElem->an,getElem?_eq_none->V,getElem?_eq_some_iff->c!,getElem?_map->dG,getElem?_range->dV,length_append->Q,length_cons->d_,length_nil->d!,length_replicate->ec,mem_append->ef,mem_range->ej,replicate->ay
open Nat renaming add_assoc->Y,add_mul->ek,add_sub_cancel_left->en,blt_eq->ep,le_refl->a_,not_lt_zero->S,zero_add->N,zero_le->a!
open Option renaming map_some->er,none->H,some->F
open UInt8 renaming ofNat->G
namespace Go.Proofs.YtoibaecagklkaaaGreatDoor
open Go Sx
variable {z:Bool}{f:FuncId}{ax:List ak}{m:Mem}{L c i j key n o:Nat}{E:Nat->Nat}{x y:Nd}{P:Program}{p:Prop}{v v':SV}{ty:TypeId}
namespace Sx
open Go
theorem ak.Fg (c:ak)(i:Nat)(E E':Nat->Nat):(c.at i).val E=(c.at i).val E':=by cases c<;>rfl
structure Seen where
 key:Option Nat
 z:Bool
 o:Nat
 n:Nat
 c:Nat
 ax:List ak
def Seen.B (s:Seen):SB:=.view s.z s.o s.n s.ax
def Seen.sv (j:Nat)(s:Seen):SV:=.bH j s.ax.length s.z s.o 0 s.n s.c
def Seen.wT (m:Mem)(s:Seen):Prop:=∀ Γ E nx w,aN Γ E m nx w->s.B.no=A->∃ key X,s.key=F key/\m.get key=F X/\X.no=A/\∃ ob,w.heap[E key]?=F ob/\∀ E',bF E' s.B ob
def An (m:Mem)(v:SV)(s:Seen):Prop:=(∀(E E':Nat->Nat) (j:Nat),(∀ key,s.key=F key->E' j=E key)->v.val E=(s.sv j).val E')/\s.wT m
theorem p8 {ce:Array Value}{fr:Nat×Nat}(h: ∀(i k:Nat) (col:ak),i<n->ax[k]?=F col->ce[o+i*ax.length+k]?=F ((col.at i).val (λ_=>0)))(E':Nat->Nat) :
  bF E' (.view z o n ax) (.cells ce ty fr):=⟨ce,ty,fr,rfl,λi k col hi hk=>by rw[ak.Fg col i E' (λ_=>0)];exact h i k col hi hk⟩
theorem Vi (m:Mem)(ax:List ak):An m .aP ⟨H,C,0,0,0,ax⟩:=⟨λ_ _ _ _=>rfl,λ_ _ _ _ _ h=>by cases h⟩
theorem tI (i:Nat)(ax:List ak)(k:Nat)(col:ak)(h:(e9 i ax)[k]?=F col): ∃ d,ax[k]?=F d/\∀(j:Nat) (E:Nat->Nat),(col.at j).val E=(d.at (i+j)).val E:=by obtain⟨d,h1,h2⟩:=nM h;exact⟨d,h1,λj E=>by rw[h2 j]⟩
theorem QG {n':Nat}{z':Bool}{ro:Bool}{tot:Nat}(hk:m.get key=F (SB.rows z' n' ax ro tot ty))(hz:z=z'∨0<n')(hn:i+n<=n') :
  An m (.bx key ax.length z i n c) ⟨F key,z,i*ax.length,n,c,e9 i ax⟩:=by
 refine⟨λE E' j h=>by simp[SV.val,Seen.sv,h key rfl],λΓ E nx w hs h=> ?_⟩;have hno:(SB.rows z' n' ax ro tot ty).no=false:=by
  rcases hz with rfl | hz
  ·cases n with
   | zero =>
     have hz:z=false:=by
      cases z with
      | false=>rfl
      | true=>cases h
     subst hz;rfl
   | succ n=>exact SB.iN (i:=0) (by omega)
  ·exact SB.iN (i:=0) hz
 obtain⟨ob,ho,ce,fr,rfl,_,_,_,h4⟩:=hs.nU key _ hk hno;refine⟨key,_,rfl,hk,hno,_,ho,p8 λa b col ha hb=> ?_⟩;obtain⟨d,h1,h2⟩:=tI _ _ _ _ hb;have:=h4 (i+a) b d (by simp only at ha;omega) h1;rw[h2 a,ak.Fg d _ _ E,gM,← this];congr 1;rw[ek]
theorem QH {n':Nat}(hk:m.get key=F (SB.view z o n' ax))(hn:i+n<=n') :
  An m (.bH key ax.length z o i n c) ⟨F key,z,o+i*ax.length,n,c,e9 i ax⟩:=by
 refine⟨λE E' j h=>by simp[SV.val,Seen.sv,h key rfl],λΓ E nx w hs h=> ?_⟩;have hno:(SB.view z o n' ax).no=false:=by
  cases n with
  | zero =>
    have hz:z=false:=by
     cases z with
     | false=>rfl
     | true=>cases h
    subst hz;rfl
  | succ n=>exact SB.Ab (i:=0) (by omega)
 obtain⟨ob,ho,ce,ty,fr,rfl,h4⟩:=hs.nU key _ hk hno;refine⟨key,_,rfl,hk,hno,_,ho,p8 λa b col ha hb=> ?_⟩;obtain⟨d,h1,h2⟩:=tI _ _ _ _ hb;have:=h4 (i+a) b d (by simp only at ha;omega) h1;rw[h2 a,ak.Fg d _ _ E,gM,← this];congr 1;show o+i*ax.length+a*ax.length+b=o+(i+a)*ax.length+b;rw[ek];omega
def Zk:SV->Int
 | .int _ _ n=>n
 | _=>0
def Vu:SV->Bool
 | .bool _ b=>b
 | _=>A
def rJ:SV->List UInt8
 | .str _ s=>s
 | _=>[]
def Hy (l:List SV)(w j:Nat):Option ak:=match l[j]? with
 | some (.int k _ _)=>F (.int k λi=>Zk (l.getD (i*w+j) .bW))
 | some (.bool _ _)=>F (.bool λi=>Vu (l.getD (i*w+j) .bW))
 | some (.str _ _)=>F (.str λi=>rJ (l.getD (i*w+j) .bW))
 | _=>H
def kindOk:ak->SV->Bool
 | .int k _,.int k' _ _=>decide (k=k')
 | .bool _,.bool _ _=>C
 | .str _,.str _ _=>C
 | _,_=>A
theorem O5 {l:List SV}{w:Nat}{col:ak}(h:Hy l w j=F col)(hk:kindOk col (l.getD (i*w+j) .bW)=C)(E:Nat->Nat):(l.getD (i*w+j) .bW).val E=(col.at i).val E:=by
 unfold Hy at h;split at h
 ·injection h with h;subst h;unfold kindOk at hk;split at hk
  ·rename_i e1 e2;injection e1 with e1 _;subst e1;simp only[decide_eq_true_eq] at hk;rw[e2];simp only[ak.at,e2,Zk,SV.val,hk]
  ·cases ‹ak.int _ _=ak.bool _›
  ·cases ‹ak.int _ _=ak.str _›
  ·cases hk
 ·injection h with h;subst h;unfold kindOk at hk;split at hk
  ·cases ‹ak.bool _=ak.int _ _›
  ·rename_i e1 e2;rw[e2];simp only[ak.at,e2,Vu,SV.val]
  ·cases ‹ak.bool _=ak.str _›
  ·cases hk
 ·injection h with h;subst h;unfold kindOk at hk;split at hk
  ·cases ‹ak.str _=ak.int _ _›
  ·cases ‹ak.str _=ak.bool _›
  ·rename_i e1 e2;rw[e2];simp only[ak.at,e2,rJ,SV.val]
  ·cases hk
 ·cases h
theorem seen_cells {tot:Nat}{cl:Bool}{cs:List SV}(hk:m.get key=F (.cells cs tot ty))
  (hc: ∀(i j:Nat) (col:ak),i<n->ax[j]?=F col->∃ v,cs[o+i*ax.length+j]?=F v/\∀ E,v.val E=(col.at i).val E):An m (.slc key o n cl c) ⟨F key,A,o,n,c,ax⟩:=by
 refine⟨λE E' j h=>by simp[SV.val,Seen.sv,h key rfl],λΓ E nx w hs _=> ?_⟩;obtain⟨ob,ho,ce,fr,rfl,_,h4,_⟩:=hs.nU key _ hk rfl;refine⟨key,_,rfl,hk,rfl,_,ho,p8 λi j col hi hj=> ?_⟩;obtain⟨v,g1,g2⟩:=hc i j col hi hj;rw[h4 _ _ g1,g2 E,ak.Fg col i E (λ_=>0)]
def AG (l:List SV)(w:Nat):Nat->Nat->Option (List ak)
 | _,0=>F []
 | j,r+1=>match Hy l w j,AG l w (j+1) r with
   | some c,F cs=>F (c::cs)
   | _,_=>H
theorem AH {l:List SV}{w:Nat}: ∀ {r j:Nat} {ax:List ak},AG l w j r=F ax->ax.length=r/\∀(k:Nat) (c:ak),ax[k]?=F c->Hy l w (j+k)=F c
 | 0,_,_,h=>by injection h with h;subst h;exact⟨rfl,λk c hc=>by simp at hc⟩
 | r+1,j,ax,h=>by
   unfold AG at h;split at h
   ·rename_i c cs h1 h2;injection h with h;subst h;obtain⟨g1,g2⟩:=AH h2;refine⟨by simp[g1],λk d hd=> ?_⟩;cases k with
    | zero=>injection hd with hd;subst hd;exact h1
    | succ k =>have:=g2 k d (by simpa using hd);rw[show j+(k+1)=j+1+k by omega];exact this
   ·cases h
def rV (l:List SV)(w i j:Nat):List ak->Bool
 | []=>C
 | col::r=>Nat.blt (i*w+j) l.length&&kindOk col (l.getD (i*w+j) .bW)&&rV l w i (j+1) r
theorem yT {l:List SV}{w i:Nat}: ∀ {ax:List ak} {j:Nat},rV l w i j ax=C->∀(k:Nat) (c:ak),ax[k]?=F c->i*w+(j+k)<l.length/\kindOk c (l.getD (i*w+(j+k)) .bW)=C
 | [],_,_,k,c,hc=>by simp at hc
 | d::r,j,h,k,c,hc=>by
   simp only[rV,O,ep] at h;obtain⟨⟨h1,h2⟩,h3⟩:=h;cases k with
   | zero=>injection hc with hc;subst hc;exact⟨h1,h2⟩
   | succ k =>have:=yT h3 k c (by simpa using hc);rw[show j+(k+1)=j+1+k by omega];exact this
def Dn (l:List SV)(w:Nat)(ax:List ak):Nat->Bool
 | 0=>C
 | i+1=>rV l w i 0 ax&&Dn l w ax i
theorem Dp {l:List SV}{w:Nat}{ax:List ak}: ∀ {n:Nat},Dn l w ax n=C->∀ i,i<n->rV l w i 0 ax=C
 | 0,_,i,hi=>absurd hi (S _)
 | n+1,h,i,hi=>by
   simp only[Dn,O] at h;by_cases e:i=n
   ·subst e;exact h.1
   ·exact Dp h.2 i (by omega)
def yD (d:List ak)(m:Mem):SV->Option (Prop×Seen)
 | .aP=>F (True,⟨H,C,0,0,0,d⟩)
 | .bx key w z i n c=>(match m.get key with
   | some (.rows z' n' ax _ _ _)=>if w=ax.length then F ((match z,z' with
     | false,C=>0<n'/\i+n<=n'
     | z,z'=>z=z'/\i+n<=n'),⟨F key,z,i*w,n,c,e9 i ax⟩)else H
   | _=>H)
 | .bH key w z o i n c=>(match m.get key with
   | some (.view z' o' n' ax)=>if w=ax.length then F (z=z'/\o'=o/\i+n<=n',⟨F key,z,o+i*w,n,c,e9 i ax⟩)else H
   | _=>H)
 | .slc key o n _ c=>(match m.get key with
   | some (.cells cs _ _)=>(match n with
     | 0=>F (True,⟨F key,A,o,0,c,d⟩)
     | n+1=>(match AG (cs.drop o) d.length 0 d.length with
       | some ax=>if Dn (cs.drop o) d.length ax (n+1)=C then F (True,⟨F key,A,o,n+1,c,ax⟩)else H
       | none=>H))
   | _=>H)
 | _=>H
theorem Rs {d:List ak}{s:Seen}(h:yD d m v=F (p,s))(hp:p):An m v s:=by
 unfold yD at h;split at h
 ·injection h with h;injection h with h1 h2;subst h2;exact Vi m d
 ·rename_i key w z i n c;split at h
  ·rename_i z' n' ax ro tot ty hk;split at h
   ·rename_i hc;subst hc;injection h with h;injection h with h1 h2;subst h1;subst h2;have hp:(z=z'∨0<n')/\i+n<=n':=by cases z<;>cases z'<;>first | exact⟨.inl hp.1,hp.2⟩ | exact⟨.inr hp.1,hp.2⟩
    exact QG hk hp.1 hp.2
   ·cases h
  ·cases h
 ·rename_i key w z o i n c;split at h
  ·rename_i z' o' n' ax hk;split at h
   ·rename_i hc;subst hc;injection h with h;injection h with h1 h2;subst h1;subst h2;obtain⟨rfl,rfl,hp⟩:=hp;exact QH hk hp
   ·cases h
  ·cases h
 ·rename_i key o n cl c;split at h
  ·rename_i cs tot ty hk;split at h
   ·injection h with h;injection h with h1 h2;subst h2;exact seen_cells hk λi j col hi=>absurd hi (S _)
   ·rename_i n;split at h
    ·rename_i ax hcols;split at h
     ·rename_i hall;injection h with h;injection h with h1 h2;subst h2;obtain⟨g1,g2⟩:=AH hcols;refine seen_cells hk λi j col hi hj=> ?_;have h1:=g2 j col hj;obtain⟨h2,h3⟩:=yT (Dp hall i hi) j col hj;rw[N] at h1 h2 h3;have h4:=O5 h1 h3;refine⟨(cs.drop o).getD (i*d.length+j) .bW,?_,h4⟩;rw[g1,Y,← List.getElem?_drop,c4,an h2];rfl
     ·cases h
    ·cases h
  ·cases h
 ·cases h
inductive Rv where
 | one
 | slice (d:List ak)
inductive tq where
 | of (h:Rv)
 | agg (l:List Rv)
abbrev Pk (α:Type):=Option (α×Prop×List Seen)
def BY (m:Mem)(j:Nat)(h:Rv)(v:SV):Pk SV:=match h with
 | .one=>if v.wf 0=C then F (CI v,True,[])else H
 | .slice d=>match yD d m v with
   | some (p,s)=>F (s.sv j,p,[s])
   | none=>H
def x4 (m:Mem):Nat->List Rv->List SV->Pk (List SV)
 | _,[],[]=>F ([],True,[])
 | j,h::hs,v::vs=>(match BY m j h v with
   | some (v',p,l)=>(match x4 m (j+l.length) hs vs with
     | some (vs',q,r)=>F (v'::vs',p/\q,l++r)
     | none=>H)
   | none=>H)
 | _,_,_=>H
def Ew (m:Mem)(j:Nat)(h:tq)(v:SV):Pk SV:=match h,v with
 | .of h,v=>BY m j h v
 | .agg hs,.agg vs=>(match x4 m j hs vs with
   | some (vs',p,l)=>F (.agg vs',p,l)
   | none=>H)
 | _,_=>H
def mB (m:Mem):Nat->List tq->List SV->Pk (List SV)
 | _,[],[]=>F ([],True,[])
 | j,h::hs,v::vs=>(match Ew m j h v with
   | some (v',p,l)=>(match mB m (j+l.length) hs vs with
     | some (vs',q,r)=>F (v'::vs',p/\q,l++r)
     | none=>H)
   | none=>H)
 | _,_,_=>H
def Names (E E':Nat->Nat)(j:Nat)(l:List Seen):Prop:=∀(i:Nat) (s:Seen),l[i]?=F s->∀ key,s.key=F key->E' (j+i)=E key
theorem Names.left {E':Nat->Nat}{l r:List Seen}(h:Names E E' j (l++r)):Names E E' j l:=λi s hi=>h i s (by rw[c5 (c!.1 hi).1];exact hi)
theorem Names.right {E':Nat->Nat}{l r:List Seen}(h:Names E E' j (l++r)):Names E E' (j+l.length) r:=λi s hi=>by rw[Y];exact h (l.length+i) s (by rw[c_ (by omega)];rw[en];exact hi)
theorem Jm {h:Rv}{l:List Seen}(e:BY m j h v=F (v',p,l))(hp:p):(∀ E E',Names E E' j l->v.val E=v'.val E')/\∀ s∈ l,s.wT m:=by
 unfold BY at e;split at e
 ·split at e
  ·rename_i hw;injection e with e;injection e with e1 e;injection e with e2 e3;subst e1;subst e3;exact⟨λE E' _=>by rw[EV];exact SV.wI hw E E',λs hs=>by cases hs⟩
  ·cases e
 ·split at e
  ·rename_i q s hq;injection e with e;injection e with e1 e;injection e with e2 e3;subst e1;subst e2;subst e3;obtain⟨h1,h2⟩:=Rs hq hp;exact⟨λE E' hn=>h1 E E' j λkey hk=>hn 0 s rfl key hk,λt ht=>by rw[List.mem_singleton] at ht;subst ht;exact h2⟩
  ·cases e
theorem Ey {m:Mem}: ∀ {hs:List Rv} {j:Nat} {vs vs':List SV} {p:Prop} {l:List Seen},x4 m j hs vs=F (vs',p,l)->p->(∀ E E',Names E E' j l->SV.vals E vs=SV.vals E' vs')/\∀ s∈ l,s.wT m
 | [],_,[],_,_,_,e,_=>by injection e with e;injection e with e1 e;injection e with e2 e3;subst e1;subst e3;exact⟨λ_ _ _=>rfl,λs hs=>by cases hs⟩
 | h::hs,j,v::vs,vs',p,l,e,hp=>by
   simp only[x4] at e;split at e
   ·rename_i v1 p1 l1 h1;split at e
    ·rename_i vs2 p2 l2 h2;injection e with e;injection e with e1 e;injection e with e2 e3;subst e1;subst e2;subst e3;obtain⟨a1,a2⟩:=Jm h1 hp.1;obtain⟨b1,b2⟩:=Ey h2 hp.2;refine⟨λE E' hn=>by simp only[SV.vals];rw[a1 E E' hn.left,b1 E E' hn.right],λs hs=> ?_⟩;rcases ef.1 hs with hs | hs
     ·exact a2 s hs
     ·exact b2 s hs
    ·cases e
   ·cases e
 | [],_,_::_,_,_,_,e,_=>by cases e
 | _::_,_,[],_,_,_,e,_=>by cases e
theorem UM {h:tq}{l:List Seen}(e:Ew m j h v=F (v',p,l))(hp:p):(∀ E E',Names E E' j l->v.val E=v'.val E')/\∀ s∈ l,s.wT m:=by
 unfold Ew at e;split at e
 ·exact Jm e hp
 ·split at e
  ·rename_i vs' p' l' h';injection e with e;injection e with e1 e;injection e with e2 e3;subst e1;subst e2;subst e3;obtain⟨a1,a2⟩:=Ey h' hp;exact⟨λE E' hn=>by simp only[SV.val];rw[a1 E E' hn],a2⟩
  ·cases e
 ·cases e
theorem Ez {m:Mem}: ∀ {hs:List tq} {j:Nat} {vs vs':List SV} {p:Prop} {l:List Seen},mB m j hs vs=F (vs',p,l)->p->(∀ E E',Names E E' j l->SV.vals E vs=SV.vals E' vs')/\∀ s∈ l,s.wT m
 | [],_,[],_,_,_,e,_=>by injection e with e;injection e with e1 e;injection e with e2 e3;subst e1;subst e3;exact⟨λ_ _ _=>rfl,λs hs=>by cases hs⟩
 | h::hs,j,v::vs,vs',p,l,e,hp=>by
   simp only[mB] at e;split at e
   ·rename_i v1 p1 l1 h1;split at e
    ·rename_i vs2 p2 l2 h2;injection e with e;injection e with e1 e;injection e with e2 e3;subst e1;subst e2;subst e3;obtain⟨a1,a2⟩:=UM h1 hp.1;obtain⟨b1,b2⟩:=Ez h2 hp.2;refine⟨λE E' hn=>by simp only[SV.vals];rw[a1 E E' hn.left,b1 E E' hn.right],λs hs=> ?_⟩;rcases ef.1 hs with hs | hs
     ·exact a2 s hs
     ·exact b2 s hs
    ·cases e
   ·cases e
 | [],_,_::_,_,_,_,e,_=>by cases e
 | _::_,_,[],_,_,_,e,_=>by cases e
def S7 (j:Nat)(h:Rv)(v:SV)(l:List Seen):SV×Nat×List Seen:=match h,l with
 | .slice _,s::r=>(s.sv j,j+1,r)
 | _,l=>(v,j,l)
def FH:Nat->List Rv->List SV->List Seen->List SV×Nat×List Seen
 | j,h::hs,v::vs,l=>match S7 j h v l with
   | (v',j',l')=>match FH j' hs vs l' with
     | (vs',j'',l'')=>(v'::vs',j'',l'')
 | j,_,vs,l=>(vs,j,l)
def S8 (j:Nat)(h:tq)(v:SV)(l:List Seen):SV×Nat×List Seen:=match h,v with
 | .of h,v=>S7 j h v l
 | .agg hs,.agg vs=>(match FH j hs vs l with
   | (vs',j',l')=>(.agg vs',j',l'))
 | _,v=>(v,j,l)
def FI:Nat->List tq->List SV->List Seen->List SV×Nat×List Seen
 | j,h::hs,v::vs,l=>match S8 j h v l with
   | (v',j',l')=>match FI j' hs vs l' with
     | (vs',j'',l'')=>(v'::vs',j'',l'')
 | j,_,vs,l=>(vs,j,l)
theorem HT {h:Rv}{l:List Seen}(e:BY m j h v=F (v',p,l))(r:List Seen):S7 j h v' (l++r)=(v',j+l.length,r):=by
 unfold BY at e;split at e
 ·split at e
  ·injection e with e;injection e with e1 e;injection e with e2 e3;subst e1;subst e3;rfl
  ·cases e
 ·split at e
  ·injection e with e;injection e with e1 e;injection e with e2 e3;subst e1;subst e3;rfl
  ·cases e
theorem DC {m:Mem}: ∀ {hs:List Rv} {j:Nat} {vs vs':List SV} {p:Prop} {l:List Seen},x4 m j hs vs=F (vs',p,l)->∀ r,FH j hs vs' (l++r)=(vs',j+l.length,r)
 | [],_,[],_,_,_,e,r=>by injection e with e;injection e with e1 e;injection e with e2 e3;subst e1;subst e3;rfl
 | h::hs,j,v::vs,vs',p,l,e,r=>by
   simp only[x4] at e;split at e
   ·rename_i v1 p1 l1 h1;split at e
    ·rename_i vs2 p2 l2 h2;injection e with e;injection e with e1 e;injection e with e2 e3;subst e1;subst e2;subst e3;have a:=HT h1 (l2++r);have b:=DC h2 r;rw[cx];simp only[FH,a,b,Q,Y]
    ·cases e
   ·cases e
 | [],_,_::_,_,_,_,e,_=>by cases e
 | _::_,_,[],_,_,_,e,_=>by cases e
theorem S9 {h:tq}{l:List Seen}(e:Ew m j h v=F (v',p,l))(r:List Seen):S8 j h v' (l++r)=(v',j+l.length,r):=by
 unfold Ew at e;split at e
 ·exact HT e r
 ·split at e
  ·rename_i vs' p' l' h';injection e with e;injection e with e1 e;injection e with e2 e3;subst e1;subst e2;subst e3;have a:=DC h' r;simp only[S8,a]
  ·cases e
 ·cases e
theorem DD {m:Mem}: ∀ {hs:List tq} {j:Nat} {vs vs':List SV} {p:Prop} {l:List Seen},mB m j hs vs=F (vs',p,l)->∀ r,FI j hs vs' (l++r)=(vs',j+l.length,r)
 | [],_,[],_,_,_,e,r=>by injection e with e;injection e with e1 e;injection e with e2 e3;subst e1;subst e3;rfl
 | h::hs,j,v::vs,vs',p,l,e,r=>by
   simp only[mB] at e;split at e
   ·rename_i v1 p1 l1 h1;split at e
    ·rename_i vs2 p2 l2 h2;injection e with e;injection e with e1 e;injection e with e2 e3;subst e1;subst e2;subst e3;have a:=S9 h1 (l2++r);have b:=DD h2 r;rw[cx];simp only[FI,a,b,Q,Y]
    ·cases e
   ·cases e
 | [],_,_::_,_,_,_,e,_=>by cases e
 | _::_,_,[],_,_,_,e,_=>by cases e
def filled (sh:List tq)(vs:List SV)(l:List Seen):List SV:=(FI 0 sh vs l).1
theorem Pf {hs:List tq}{vs vs':List SV}{l:List Seen}(e:mB m 0 hs vs=F (vs',p,l)):filled hs vs' l=vs':=by have:=DD e [];rw[cy] at this;unfold filled;rw[this]
def fo:Nat->List Seen->Mem
 | _,[]=>[]
 | j,s::r=>(j,s.B)::fo (j+1) r
theorem eo: ∀ {l:List Seen} {j k:Nat} {B:SB},(fo j l).get k=F B->∃ i s,k=j+i/\l[i]?=F s/\B=s.B
 | [],_,_,_,h=>by cases h
 | s::r,j,k,B,h=>by
   rcases Mem.fW h with ⟨rfl,rfl⟩ | ⟨_,h⟩
   ·exact⟨0,s,rfl,rfl,rfl⟩
   ·obtain⟨i,t,e1,e2,e3⟩:=eo h;exact⟨i+1,t,by omega,by simpa using e2,e3⟩
def v7 (E:Nat->Nat)(l:List Seen)(j:Nat):Nat:=match l[j]? with
 | some s=>(match s.key with
   | some k=>E k
   | none=>0)
 | none=>0
theorem I2 (E:Nat->Nat)(l:List Seen):Names E (v7 E l) 0 l:=λi s hi key hk=>by simp only[v7,N,hi,hk]
theorem Vj {l:List Seen}(h: ∀ s∈ l,s.wT m){Γ:br}{nx:Nat}{w:World}(hs:aN Γ E m nx w) :
  aN (br.at w (λ_=>False) hs.Lb (λ_ _ h=>h)) (v7 E l) (fo 0 l) l.length w:=by
 refine⟨λj B a hj hn=> ?_,λj j' B B' a hj hn hj' hn' hr=> ?_,λj B hj=> ?_,λj B a hj hn hro=> ?_,Ext.refl _ _,⟨a! _,λk hk=>absurd hk (S _)⟩,λD hD=>by cases hD⟩
 ·obtain⟨i,s,e1,e2,rfl⟩:=eo hj;rw[N] at e1;subst e1;obtain⟨hn1,rfl⟩:=(SB.js (B:=s.B) rfl).1 hn;obtain⟨key,X,g1,g2,g3,ob,g4,g5⟩:=h s (List.mem_of_getElem? e2) Γ E nx w hs hn1;exact⟨ob,by simp only[v7,e2,g1];exact g4,g5 _⟩
 ·obtain⟨i,s,e1,e2,rfl⟩:=eo hj;obtain⟨i',s',e1',e2',rfl⟩:=eo hj';rcases hr with hr | hr<;>cases hr
 ·obtain⟨i,s,e1,e2,rfl⟩:=eo hj;have:=(c!.1 e2).1;omega
 ·obtain⟨i,s,e1,e2,rfl⟩:=eo hj;cases hro
noncomputable def bS (sh:List tq)(spec:List SV->List Seen->Option (Prop×cO)):PT:=λargs m nx K=>match mB m 0 sh args with
 | some (vs,p,l)=>(match spec vs l with
   | some (q,a)=>.and (.atom (p/\q)) (a.vc m nx K)
   | none=>.fail "arguments that nothing is said of")
 | none=>.fail "a slice that is not known"
theorem cz (sh:List tq)(spec:List SV->List Seen->Option (Prop×cO)):aT (bS sh spec):=by
 intro args m nx K K' hK h;unfold bS at h ⊢;split at h
 ·split at h
  ·exact⟨h.1,cO.wJ hK h.2⟩
  ·exact h
 ·exact h
theorem gp {fn:Func}(hf:P.funcs[f]?=F fn) (hn:(fn.name== "runtime.NumGoroutine")=A) (hb:fn.body.isSome=C)  {sh:List tq}
  {spec:List SV->List Seen->Option (Prop×cO)}
  (h: ∀ vs l q a,spec vs l=F (q,a)->q->∃ cfg,Good P cfg/\SV.fO l.length (filled sh vs l)=C/\a.Ok/\az (fN P (calling P cfg n) [] Aa (cfg.bD f) cfg.rounds fn (filled sh vs l) (fo 0 l) l.length (λv m _=>a.fit v m))):av P f (bS sh spec):=by
 intro args m nx K hk hwf hargs Γ E w hs;unfold bS at hk;split at hk
 ·rename_i vs p l hx;split at hk
  ·rename_i q a hq;obtain⟨⟨hxp,hqq⟩,hk⟩:=hk;obtain⟨cfg,hg,h1,h2,h3⟩:=h _ _ _ _ hq hqq;rw[Pf hx] at h1 h3;obtain⟨e1,e2⟩:=Ez hx hxp;have hwm: ∀(j:Nat) (l:List Seen),Mem.wf l.length (fo j l)=true:=by
    intro j l;have: ∀(j n:Nat) (l:List Seen),Mem.wf n (fo j l)=true:=by
     intro j n l;induction l generalizing j with
     | nil=>rfl
     | cons s r ih=>simp only[fo,Mem.wf,O];exact⟨rfl,ih _⟩
    exact this j _ l
   have hc:=fc hg hf hn hb h3 (hwm 0 l) h1 (Vj e2 hs);rw[← e1 E _ (I2 E l)] at hc;refine gy hf hn hb (hc.mono ?_);rintro e w' ⟨v,rfl,E',sv,m',nx',_,_,g3,g4,g5⟩;refine⟨v,rfl,?_⟩;cases sv with
   | none=>exact g5.elim
   | some u=>rw[g3 u rfl];exact cO.told hs hwf g4 h2 g5 hk
  ·exact hk.elim
 ·exact hk.elim
def Uh (m:Mem)(h:Rv)(v:SV):Bool:=match h with
 | .one=>isLit v
 | .slice _=>litCells' m v
where litCells' (m:Mem):SV->Bool
 | .aP=>C
 | .slc key _ _ _ _=>(match m.get key with
   | some (.cells cs _ _)=>Ap cs
   | _=>A)
 | _=>A
def NX (m:Mem):List Rv->List SV->Bool
 | h::hs,v::vs=>Uh m h v&&NX m hs vs
 | _,_=>C
def aa4 (m:Mem):tq->SV->Bool
 | .of h,v=>Uh m h v
 | .agg hs,.agg vs=>NX m hs vs
 | _,_=>A
def Gd (m:Mem):List tq->List SV->Bool
 | h::hs,v::vs=>aa4 m h v&&Gd m hs vs
 | _,_=>C
noncomputable def uY (sh:List tq)(spec:List SV->List Seen->Option (Prop×cO)):PT:=λargs m nx K=>match Gd m sh args with
 | true=>(match mB m 0 sh args with
   | some (vs,p,l)=>(match spec vs l with
     | some (q,a)=>.and (.atom (p/\q)) (a.YJ m nx K)
     | none=>.fail "arguments that nothing is said of")
   | none=>.fail "a slice that is not known")
 | false=>bS sh spec args m nx K
theorem Ff (sh:List tq)(spec:List SV->List Seen->Option (Prop×cO)):aT (uY sh spec):=by
 intro args m nx K K' hK h;unfold uY at h ⊢;split at h
 ·split at h
  ·split at h
   ·exact⟨h.1,cO.oL hK h.2⟩
   ·exact h
  ·exact h
 ·exact cz sh spec _ _ _ _ _ hK h
theorem RK {sh:List tq}{spec:List SV->List Seen->Option (Prop×cO)}(h:av P f (bS sh spec)):av P f (uY sh spec):=by
 intro args m nx K hk hwf hargs Γ E w hs;unfold uY at hk;split at hk
 ·have:(bS sh spec args m nx (abu Γ E nx K)).holds:=by
   unfold bS;split at hk
   ·rename_i vs p l hp;split at hk
    ·rename_i q a hq
     first
      | exact⟨hk.1,cO.nu hk.2⟩
      | (rw[hp];simp only[hq];exact⟨hk.1,cO.nu hk.2⟩)
    ·exact hk.elim
   ·exact hk.elim
  refine(h args m nx _ this hwf hargs Γ E w hs).mono (λe w' hh=> ?_) (λ_ _ h=>h);obtain⟨E',sv,m',nx',h1,h2,h3,h4,h5⟩:=hh;cases sv with
  | none=>exact h5.elim
  | some v=>rw[h3 v rfl];exact h5 E' w' h1 h2 h4
 ·exact h args m nx K hk hwf hargs Γ E w hs
end Sx
section
open Go Sx
set_option maxRecDepth 20000
noncomputable def iG (cfg:fQ)(f:Nat)(fn:Func)(args:List SV)(l:List Seen)(a:cO):VC:=fN J (calling J cfg 20) [] Aa (cfg.bD f) cfg.rounds fn args (fo 0 l) l.length (λv m _=>a.fit v m)
def LD (m:Mem)(v:SV):Option (List (List UInt8)):=match v with
 | .slc key o n _ _=>(match m.get key with
   | some (.cells cs _ _)=>strCells ((cs.drop o).take n)
   | _=>H)
 | _=>H
theorem JZ {cs:List SV}{l:List (List UInt8)}(h:strCells (cs.take n)=F l)(hn:n<=cs.length):iF (λi=>rJ (cs.getD (i*1+0) .bW)) 0 n=l:=by
 obtain⟨g1,g2⟩:=wv h;rw[List.length_take] at g1;apply cR;intro i;by_cases hi:i<n
 ·have hl:i<l.length:=by omega
  obtain⟨b,hb⟩:=g2 i _ (an hl);rw[List.getElem?_take_of_lt hi] at hb;unfold iF;rw[dG,dV hi,an hl];simp only[er,N,Nat.mul_one,Nat.add_zero,c4,hb,Option.getD_some,rJ]
 ·rw[V (by rw[oD];omega),V (by omega)]
theorem OT {l:List SV}(hc:0<ax.length): ∀ {n:Nat},Dn l 1 ax n=C->n<=l.length
 | 0,_=>a! _
 | i+1,h=>by
   simp only[Dn,O] at h;cases ax with
   | nil=>simp at hc
   | cons c r =>have:=h.1;simp only[rV,O,ep] at this;omega
theorem PF {s:Seen}{f:Nat->List UInt8}{l:List (List UInt8)}(h:yD [.str λ_=>[]] m v=F (p,s))(hc:s.ax=[.str f])(hl:LD m v=F l):iF f 0 s.n=l:=by
 unfold LD at hl;split at hl
 ·rename_i key o n cl c;simp only[yD] at h;split at h
  ·rename_i cs tot ty hk;rw[hk] at hl;simp only at hl;cases n with
   | zero =>injection h with h;injection h with h1 h2;subst h2;simp[strCells] at hl;subst hl;rfl
   | succ n =>
     simp only at h;split at h
     ·rename_i ax hcols;split at h
      ·rename_i hall;injection h with h;injection h with h1 h2;subst h2;simp only at hc;subst hc;simp only[d_,d!,N,AG] at hcols;split at hcols
       ·rename_i a b ha hb;injection hb with hb;subst hb;injection hcols with e;injection e with e _;subst e;have hlen:=OT (by simp) hall;unfold Hy at ha;split at ha
        ·cases ha
        ·cases ha
        ·injection ha with ha;injection ha with ha;subst ha;exact JZ hl hlen
        ·cases ha
       ·cases hcols
      ·cases h
     ·cases h
  ·cases h
 ·cases hl
noncomputable def ym (q:List (List UInt8)->Prop)(g:List (List UInt8)->SV):PT:=λargs m nx K=>match args with
 | [v]=>(match yD [.str λ_=>[]] m v with
   | some (p,s)=>(match s.ax with
     | [.str f]=>(match LD m v with
       | some l=>.and (.atom (p/\q l)) (K (g l) m nx)
       | none=>.and (.atom (p/\q (iF f 0 s.n))) (K (g (iF f 0 s.n)) m nx))
     | _=>.fail "texts that are not known")
   | none=>.fail "texts that are not known")
 | _=>.fail "arguments"
theorem J1 (q:List (List UInt8)->Prop)(g:List (List UInt8)->SV):aT (ym q g):=by
 intro args m nx K K' hK h;unfold ym at h ⊢;split at h
 ·split at h
  ·split at h
   ·split at h<;>exact⟨h.1,hK _ _ _ h.2⟩
   ·exact h
  ·exact h
 ·exact h
def shS:List tq:=[.of (.slice [.str λ_=>[]])]
def rowOf (vs:List SV)(l:List Seen):Option (Nat×(Nat->List UInt8)×Bool×Nat×Nat×Option Nat):=match vs,l with
 | [_],[⟨key,z,o,n,c,[.str f]⟩]=>F (n,f,z,o,c,key)
 | _,_=>H
theorem Vc {vs:List SV}{l:List Seen}{f:Nat->List UInt8}{key:Option Nat}(h:rowOf vs l=F (n,f,z,o,c,key)):filled shS vs l=[.bH 0 1 z o 0 n c]/\l=[⟨key,z,o,n,c,[.str f]⟩]:=by
 unfold rowOf at h;split at h
 ·injection h with h;injection h with h1 h;injection h with h2 h;injection h with h3 h;injection h with h4 h;injection h with h5 h6;subst h1;subst h2;subst h3;subst h4;subst h5;subst h6;exact⟨rfl,rfl⟩
 ·cases h
def J2 (q:List (List UInt8)->Prop)(g:List (List UInt8)->SV)(vs:List SV)(l:List Seen):Option (Prop×cO):=match rowOf vs l with
 | some (n,f,_)=>F (q (iF f 0 n),.ret (g (iF f 0 n)))
 | none=>H
theorem Yh {q:List (List UInt8)->Prop}{g:List (List UInt8)->SV}(h:av P f (bS shS (J2 q g))):av P f (ym q g):=by
 intro args m nx K hk hwf hargs Γ E w hs;refine h args m nx K ?_ hwf hargs Γ E w hs;unfold ym at hk;split at hk
 ·rename_i v;split at hk
  ·rename_i p s hv;split at hk
   ·rename_i f' hc;have hk:(VC.and (.atom (p/\q (iF f' 0 s.n))) (K (g (iF f' 0 s.n)) m nx)).holds:=by
     split at hk
     ·rename_i l hl;rw[PF hv hc hl];exact hk
     ·exact hk
    obtain⟨key,z,o,n,c,ax⟩:=s;simp only at hc;subst hc;have e:mB m 0 shS [v]=F ([(⟨key,z,o,n,c,[.str f']⟩:Seen).sv 0],(p/\True),[⟨key,z,o,n,c,[.str f']⟩]):=by simp only[shS,mB,Ew,BY,hv,cy]
    unfold bS;rw[e];exact⟨⟨⟨hk.1.1,trivial⟩,hk.1.2⟩,hk.2⟩
   ·exact hk.elim
  ·exact hk.elim
 ·exact hk.elim
def JK (n:Int):List UInt8:=[G (n / 72057594037927936% 256).toNat,G (n / 281474976710656% 256).toNat,G (n / 1099511627776% 256).toNat,G (n / 4294967296% 256).toNat,G (n / 16777216% 256).toNat,G (n / 65536% 256).toNat,G (n / 256% 256).toNat,G (n / 1% 256).toNat]
def yH (T:List UInt8):Nat:=(119 - T.length% 64)% 64
def OA (T:List UInt8):List UInt8:=128::(ay (yH T) 0++JK ((T.length:Int)% 18446744073709551616*8% 18446744073709551616))
def abh (T:List UInt8):List UInt8:=T++OA T
def acJ (W:Nat->Int):List UInt8:=[G (W 0 / 16777216% 256).toNat,G (W 0 / 65536% 256).toNat,G (W 0 / 256% 256).toNat,G (W 0% 256).toNat,G (W 1 / 16777216% 256).toNat,G (W 1 / 65536% 256).toNat,G (W 1 / 256% 256).toNat,G (W 1% 256).toNat,G (W 2 / 16777216% 256).toNat,G (W 2 / 65536% 256).toNat,G (W 2 / 256% 256).toNat,G (W 2% 256).toNat,G (W 3 / 16777216% 256).toNat,G (W 3 / 65536% 256).toNat,G (W 3 / 256% 256).toNat,G (W 3% 256).toNat,G (W 4 / 16777216% 256).toNat,G (W 4 / 65536% 256).toNat,G (W 4 / 256% 256).toNat,G (W 4% 256).toNat,G (W 5 / 16777216% 256).toNat,G (W 5 / 65536% 256).toNat,G (W 5 / 256% 256).toNat,G (W 5% 256).toNat,G (W 6 / 16777216% 256).toNat,G (W 6 / 65536% 256).toNat,G (W 6 / 256% 256).toNat,G (W 6% 256).toNat,G (W 7 / 16777216% 256).toNat,G (W 7 / 65536% 256).toNat,G (W 7 / 256% 256).toNat,G (W 7% 256).toNat]
def aG (T:List UInt8):List UInt8:=acJ (qc (abh T) ((abh T).length / 64))
noncomputable def LJ:List (FuncId×PT):=(60,qg yf yF)::gX
theorem D5:bt J (λf=>aD f LJ):=.cons Wl (oS _ _) eZ
noncomputable def Nn:fQ:={cv with cQ:=λf=>aD f LJ}
theorem aaD:Sx.Good J Nn:=.of bX D5 bw
def GX:List SV->Option (Sh×List UInt8->Prop×(Unit->Prop×SV×(Sh×List UInt8)))
 | [.ptr 0 C 0]=>F λg=>(Dl g.1 g.2/\g.2.length<1152921504606846976,λ_=>(True,.str A (aG g.2),g))
 | _=>H
noncomputable def T8:List (FuncId×PT):=(61,qg yf GX)::LJ
noncomputable def ab9 (n:Nat)(f:Nat->List UInt8):bg :={α:=Nat×Sh,pre:=λ_ x=>x.1<=n/\Dl x.2 (flat (iF f 0 x.1)),kY:=λ_ x=>n - x.1,fresh:=0,slots:=λ_ x=>[(9,.int .i64 A x.1)],mem:=λ_ x=>[(1,x.2.sb)]}
noncomputable def Sr (n:Nat)(f:Nat->List UInt8):fQ:={cv with cQ:=λf=>aD f T8,bD:=λg=>if g=25 then [(3,always (ab9 n f))] else []}
def Qj (l:List (List UInt8)):Prop:=(flat l).length<1152921504606846976/\l.length<1152921504606846976
def XO (l:List (List UInt8)):SV:=.str A (aG (flat l))
theorem acY (x:Sh)(T:List UInt8):VC.holds (rD Nn 61 ag [.ptr 0 C 0] yf (x,T) (λ_:Unit=>(True,.str A (aG T),(x,T))))=((λR0:Nat->SV=>((λR1:Nat->SV=>((λR2:Nat->(Sh×List UInt8)->SV=>((λR3:Nat->(Sh×List UInt8)->SV=>((((-9223372036854775808:Int)<=119 - x.held/\119 - x.held<=9223372036854775807)/\((0:Int)<=119 - x.held/\119 - x.held<=9223372036854775807/\(0:Int)<(64:Int))/\I6 (1+(119 - x.held)% 64)/\I6 (1+(119 - x.held)% 64+(8:Int))/\(1+(119 - x.held)% 64+(8:Int)=1+(119 - x.held)% 64+(8:Int)/\(0:Int)<=1+(119 - x.held)% 64+(8:Int)/\1*(1+(119 - x.held)% 64+(8:Int))<=140737488355328/\1+(119 - x.held)% 64+(8:Int)<=(9223372036854775807:Int))/\((0:Int)<=(0:Int)/\0<(↑(1+(119 - x.held)% 64+(8:Int)).toNat:Int))/\0<(1+(119 - x.held)% 64+(8:Int)).toNat/\I6 (1+(119 - x.held)% 64)/\I6 (1+(119 - x.held)% 64+(0:Int))/\((0:Int)<=1+(119 - x.held)% 64+(0:Int) /\1+(119 - x.held)% 64+0<(↑(1+(119 - x.held)% 64+(8:Int)).toNat:Int))/\0+(1+(119 - x.held)% 64+(0:Int)).toNat<(1+(119 - x.held)% 64+(8:Int)).toNat/\I6 (1+(119 - x.held)% 64)/\I6 (1+(119 - x.held)% 64+(1:Int))/\((0:Int)<=1+(119 - x.held)% 64+(1:Int)/\1+(119 - x.held)% 64+1<(↑(1+(119 - x.held)% 64+(8:Int)).toNat:Int))/\0+(1+(119 - x.held)% 64+(1:Int)).toNat<(1+(119 - x.held)% 64+(8:Int)).toNat/\I6 (1+(119 - x.held)% 64)/\I6 (1+(119 - x.held)% 64+(2:Int))/\((0:Int)<=1+(119 - x.held)% 64+(2:Int)/\1+(119 - x.held)% 64+2<(↑(1+(119 - x.held)% 64+(8:Int)).toNat:Int))/\0+(1+(119 - x.held)% 64+(2:Int)).toNat<(1+(119 - x.held)% 64+(8:Int)).toNat /\I6 (1+(119 - x.held)% 64)/\I6 (1+(119 - x.held)% 64+(3:Int))/\((0:Int)<=1+(119 - x.held)% 64+(3:Int)/\1+(119 - x.held)% 64+3<(↑(1+(119 - x.held)% 64+(8:Int)).toNat:Int))/\0+(1+(119 - x.held)% 64+(3:Int)).toNat<(1+(119 - x.held)% 64+(8:Int)).toNat/\I6 (1+(119 - x.held)% 64)/\I6 (1+(119 - x.held)% 64+(4:Int))/\((0:Int)<=1+(119 - x.held)% 64+(4:Int)/\1+(119 - x.held)% 64+4<(↑(1+(119 - x.held)% 64+(8:Int)).toNat:Int))/\0+(1+(119 - x.held)% 64+(4:Int)).toNat<(1+(119 - x.held)% 64+(8:Int)).toNat/\I6 (1+(119 - x.held)% 64)/\((-9223372036854775808:Int)<=1+(119 - x.held)% 64+(5:Int) /\1+(119 - x.held)% 64+(5:Int)<=(9223372036854775807:Int))/\((0:Int)<=1+(119 - x.held)% 64+(5:Int)/\1+(119 - x.held)% 64+5<(↑(1+(119 - x.held)% 64+(8:Int)).toNat:Int))/\0+(1+(119 - x.held)% 64+(5:Int)).toNat<(1+(119 - x.held)% 64+(8:Int)).toNat/\I6 (1+(119 - x.held)% 64)/\I6 (1+(119 - x.held)% 64+(6:Int))/\((0:Int)<=1+(119 - x.held)% 64+(6:Int)/\1+(119 - x.held)% 64+6<(↑(1+(119 - x.held)% 64+(8:Int)).toNat:Int))/\0+(1+(119 - x.held)% 64+(6:Int)).toNat<(1+(119 - x.held)% 64+(8:Int)).toNat/\I6 (1+(119 - x.held)% 64)/\I6 (1+(119 - x.held)% 64+(7:Int))/\((0:Int)<=1+(119 - x.held)% 64+(7:Int)/\1+(119 - x.held)% 64+7<(↑(1+(119 - x.held)% 64+(8:Int)).toNat:Int)) /\0+(1+(119 - x.held)% 64+(7:Int)).toNat<(1+(119 - x.held)% 64+(8:Int)).toNat/\0+(1+(119 - x.held)% 64+(8:Int)).toNat<=(1+(119 - x.held)% 64+(8:Int)).toNat /\∃(u4:Sh×List UInt8),aa (SB.cells (R0 0::R0 1::R0 2::R0 3::R0 4::R0 5::R0 6::R0 7::uS R1 [SV.int .i64 A x.held,SV.int .u64 A x.size]) 74 171) (SB.cells (R2 0 u4::R2 1 u4::R2 2 u4::R2 3 u4::R2 4 u4::R2 5 u4::R2 6 u4::R2 7 u4::uS (λi=>R3 i u4) [SV.int .i64 A u4.1.held,SV.int .u64 A u4.1.size]) 74 171) /\(Dl u4.1 u4.2 /\(dw (fun(u3:Nat)=>if u3=0+(1+(119 - x.held)% 64+(7:Int)).toNat then x.size*8% (18446744073709551616:Int) / (1:Int)% (256:Int)else if u3=0+(1+(119 - x.held)% 64+(6:Int)).toNat then x.size*8% (18446744073709551616:Int) / (256:Int)% (256:Int)else if u3=0+(1+(119 - x.held)% 64+(5:Int)).toNat then x.size*8% (18446744073709551616:Int) / (65536:Int)% (256:Int)else if u3=0+(1+(119 - x.held)% 64+(4:Int)).toNat then x.size*8% (18446744073709551616:Int) / (16777216:Int)% (256:Int)else if u3=0+(1+(119 - x.held)% 64+(3:Int)).toNat then x.size*8% (18446744073709551616:Int) / (4294967296:Int)% (256:Int)else if u3=0+(1+(119 - x.held)% 64+(2:Int)).toNat then x.size*8% (18446744073709551616:Int) / (1099511627776:Int)% (256:Int)else if u3=0+(1+(119 - x.held)% 64+(1:Int)).toNat then x.size*8% (18446744073709551616:Int) / (281474976710656:Int)% (256:Int)else if u3=0+(1+(119 - x.held)% 64+(0:Int)).toNat then x.size*8% (18446744073709551616:Int) / (72057594037927936:Int)% (256:Int)else if u3=0 then 128 else 0) 0 (1+(119 - x.held)% 64+(8:Int)).toNat).length<1152921504606846976) /\∀(u2:Sh),Dl u2 (u4.2++dw (fun(u1:Nat)=>if u1=0+(1+(119 - x.held)% 64+(7:Int)).toNat then x.size*8% (18446744073709551616:Int) / (1:Int)% (256:Int)else if u1=0+(1+(119 - x.held)% 64+(6:Int)).toNat then x.size*8% (18446744073709551616:Int) / (256:Int)% (256:Int)else if u1=0+(1+(119 - x.held)% 64+(5:Int)).toNat then x.size*8% (18446744073709551616:Int) / (65536:Int)% (256:Int)else if u1=0+(1+(119 - x.held)% 64+(4:Int)).toNat then x.size*8% (18446744073709551616:Int) / (16777216:Int)% (256:Int)else if u1=0+(1+(119 - x.held)% 64+(3:Int)).toNat then x.size*8% (18446744073709551616:Int) / (4294967296:Int)% (256:Int)else if u1=0+(1+(119 - x.held)% 64+(2:Int)).toNat then x.size*8% (18446744073709551616:Int) / (1099511627776:Int)% (256:Int)else if u1=0+(1+(119 - x.held)% 64+(1:Int)).toNat then x.size*8% (18446744073709551616:Int) / (281474976710656:Int)% (256:Int)else if u1=0+(1+(119 - x.held)% 64+(0:Int)).toNat then x.size*8% (18446744073709551616:Int) / (72057594037927936:Int)% (256:Int)else if u1=0 then 128 else 0) 0 (1+(119 - x.held)% 64+(8:Int)).toNat) ->∃(_:Unit),True/\aa (yf (x,T)) (yf (x,T)) /\af (SV.str (A&&(A&&(A&&(A&&(A&&(A&&(A&&(A&&(A&&(A&&(A&&(A&&(A&&(A&&(A&&(A&&(A&&(A&&(A&&(A&&(A&&(A&&(A&&(A&&(A&&(A&&(A&&(A&&(A&&(A&&(A&&(A&&C)))))))))))))))))))))))))))))))) [G (u2.W 0 / 16777216% (256:Int)).toNat,G (u2.W 0 / 65536% (256:Int)).toNat,G (u2.W 0 / 256% (256:Int)).toNat,G (u2.W 0% 256).toNat,G (u2.W 1 / 16777216% (256:Int)).toNat,G (u2.W 1 / 65536% (256:Int)).toNat,G (u2.W 1 / 256% (256:Int)).toNat,G (u2.W 1% 256).toNat,G (u2.W 2 / 16777216% (256:Int)).toNat,G (u2.W 2 / 65536% (256:Int)).toNat,G (u2.W 2 / 256% (256:Int)).toNat,G (u2.W 2% 256).toNat,G (u2.W 3 / 16777216% (256:Int)).toNat,G (u2.W 3 / 65536% (256:Int)).toNat,G (u2.W 3 / 256% (256:Int)).toNat,G (u2.W 3% 256).toNat,G (u2.W 4 / 16777216% (256:Int)).toNat,G (u2.W 4 / 65536% (256:Int)).toNat,G (u2.W 4 / 256% (256:Int)).toNat,G (u2.W 4% 256).toNat,G (u2.W 5 / 16777216% (256:Int)).toNat,G (u2.W 5 / 65536% (256:Int)).toNat,G (u2.W 5 / 256% (256:Int)).toNat,G (u2.W 5% 256).toNat,G (u2.W 6 / 16777216% (256:Int)).toNat,G (u2.W 6 / 65536% (256:Int)).toNat,G (u2.W 6 / 256% (256:Int)).toNat,G (u2.W 6% 256).toNat,G (u2.W 7 / 16777216% (256:Int)).toNat,G (u2.W 7 / 65536% (256:Int)).toNat,G (u2.W 7 / 256% (256:Int)).toNat,G (u2.W 7% 256).toNat]) (SV.str A (aG T))))) (fun(n0:Nat) (u4:Sh×List UInt8)=>SV.int .u8 A (u4.1.B n0)))) (fun(n0:Nat) (u4:Sh×List UInt8)=>SV.int .u32 A (u4.1.W n0)))) (fun(n0:Nat)=>SV.int .u8 A (x.B n0)))) (fun(n0:Nat)=>SV.int .u32 A (x.W n0))):=by kernel_rfl
theorem adB (n:Nat)(f:Nat->List UInt8)(z:Bool)(o c:Nat)(key:Option Nat):VC.holds (iG (Sr n f) 25 Z [.bH 0 1 z o 0 n c] [⟨key,z,o,n,c,[.str f]⟩] (.ret (.str A (aG (flat (iF f 0 n))))))=((λR0:Nat->SV=>((λR1:Nat->(Nat×Sh)->SV=>((λR2:Nat->(Nat×Sh)->SV=>((λR3:Nat->(Nat×Sh)->SV=>((λR4:Nat->(Nat×Sh)->SV=>((λR5:Nat->(Sh×List UInt8)->SV=>((λR6:Nat->(Sh×List UInt8)->SV=>((λR7:Nat->(Sh)->SV=>((λR8:Nat->(Sh)->SV=>((λR9:Nat->(Nat×Sh)->SV=>((λR10:Nat->(Nat×Sh)->SV=>((λR11:Nat->(Sh×List UInt8)->SV=>((λR12:Nat->(Sh×List UInt8)->SV=>((λP0:(Nat×Sh)->SB=>(((∃(u6:Nat×Sh),(u6.1<=n/\Dl u6.2 (flat (iF f 0 u6.1)))/\0=(u6.1:Int) /\aa (SB.cells (R0 1779033703::R0 3144134277::R0 1013904242::R0 2773480762::R0 1359893119::R0 2600822924::R0 528734635::R0 1541459225::uS (λ_=>SV.int .u8 C 0) [SV.int .i64 C 0,SV.int .u64 C 0]) 74 171) (SB.cells (R1 0 u6::R1 1 u6::R1 2 u6::R1 3 u6::R1 4 u6::R1 5 u6::R1 6 u6::R1 7 u6::uS (λi=>R2 i u6) [SV.int .i64 A u6.2.held,SV.int .u64 A u6.2.size]) 74 171) /\aa {key:=key,z:=z,o:=o,n:=n,c:=c,ax:=[ak.str f]:Seen}.B {key:=key,z:=z,o:=o,n:=n,c:=c,ax:=[ak.str f]:Seen}.B/\True)/\∀(u5:Nat×Sh),u5.1<=n/\Dl u5.2 (flat (iF f 0 u5.1))->(M ((u5.1:Int)<(n:Int))=C->(0<=(u5.1:Int)/\(u5.1:Int)<(n:Int))/\(o=o/\0+(u5.1:Int).toNat<n) /\∃(u4:Sh×List UInt8),aa (P0 u5) (SB.cells (R5 0 u4::R5 1 u4::R5 2 u4::R5 3 u4::R5 4 u4::R5 5 u4::R5 6 u4::R5 7 u4::uS (λi=>R6 i u4) [SV.int .i64 A u4.1.held,SV.int .u64 A u4.1.size]) 74 171)/\(Dl u4.1 u4.2/\(f (0+(u5.1:Int).toNat)).length<1152921504606846976)/\∀(u3:Sh),Dl u3 (u4.2++f (0+(u5.1:Int).toNat))->I6 ((u5.1:Int)+1)/\∃(u2:Nat×Sh),((u2.1<=n/\Dl u2.2 (flat (iF f 0 u2.1)))/\n - u2.1<n - u5.1) /\(u5.1:Int)+1=(u2.1:Int) /\aa (SB.cells (R7 0 u3::R7 1 u3::R7 2 u3::R7 3 u3::R7 4 u3::R7 5 u3::R7 6 u3::R7 7 u3::uS (λi=>R8 i u3) [SV.int .i64 A u3.held,SV.int .u64 A u3.size]) 74 171) (SB.cells (R9 0 u2::R9 1 u2::R9 2 u2::R9 3 u2::R9 4 u2::R9 5 u2::R9 6 u2::R9 7 u2::uS (λi=>R10 i u2) [SV.int .i64 A u2.2.held,SV.int .u64 A u2.2.size]) 74 171) /\aa {key:=key,z:=z,o:=o,n:=n,c:=c,ax:=[ak.str f]:Seen}.B {key:=key,z:=z,o:=o,n:=n,c:=c,ax:=[ak.str f]:Seen}.B/\True)/\(M ((u5.1:Int)<(n:Int))=A->∃(u1:Sh×List UInt8),aa (P0 u5) (SB.cells (R11 0 u1::R11 1 u1::R11 2 u1::R11 3 u1::R11 4 u1::R11 5 u1::R11 6 u1::R11 7 u1::uS (λi=>R12 i u1) [SV.int .i64 A u1.1.held,SV.int .u64 A u1.1.size]) 74 171)/\(Dl u1.1 u1.2/\u1.2.length<1152921504606846976)/\∀(_:Unit),True ->af (Kh 1 (SV.str A (aG u1.2))) (SV.str A (aG (flat (iF f 0 n)))))))) (fun(u5:Nat×Sh)=>(SB.cells (R3 0 u5::R3 1 u5::R3 2 u5::R3 3 u5::R3 4 u5::R3 5 u5::R3 6 u5::R3 7 u5::uS (λi=>R4 i u5) [SV.int .i64 A u5.2.held,SV.int .u64 A u5.2.size]) 74 171)))) (fun(n0:Nat) (u1:Sh×List UInt8)=>SV.int .u8 A (u1.1.B n0)))) (fun(n0:Nat) (u1:Sh×List UInt8)=>SV.int .u32 A (u1.1.W n0)))) (fun(n0:Nat) (u2:Nat×Sh)=>SV.int .u8 A (u2.2.B n0)))) (fun(n0:Nat) (u2:Nat×Sh)=>SV.int .u32 A (u2.2.W n0)))) (fun(n0:Nat) (u3:Sh)=>SV.int .u8 A (u3.B n0)))) (fun(n0:Nat) (u3:Sh)=>SV.int .u32 A (u3.W n0)))) (fun(n0:Nat) (u4:Sh×List UInt8)=>SV.int .u8 A (u4.1.B n0)))) (fun(n0:Nat) (u4:Sh×List UInt8)=>SV.int .u32 A (u4.1.W n0)))) (fun(n0:Nat) (u5:Nat×Sh)=>SV.int .u8 A (u5.2.B n0)))) (fun(n0:Nat) (u5:Nat×Sh)=>SV.int .u32 A (u5.2.W n0)))) (fun(n0:Nat) (u6:Nat×Sh)=>SV.int .u8 A (u6.2.B n0)))) (fun(n0:Nat) (u6:Nat×Sh)=>SV.int .u32 A (u6.2.W n0)))) (fun(n0:Nat)=>SV.int .u32 C n0)):=by kernel_rfl
theorem OB (z:Nat)(n:Int):dw (fun(j:Nat)=>if j=0+(1+(z:Int)+7).toNat then n / 1% 256 else if j=0+(1+(z:Int)+6).toNat then n / 256% 256 else if j=0+(1+(z:Int)+5).toNat then n / 65536% 256 else if j=0+(1+(z:Int)+4).toNat then n / 16777216% 256 else if j=0+(1+(z:Int)+3).toNat then n / 4294967296% 256 else if j=0+(1+(z:Int)+2).toNat then n / 1099511627776% 256 else if j=0+(1+(z:Int)+1).toNat then n / 281474976710656% 256 else if j=0+(1+(z:Int)+0).toNat then n / 72057594037927936% 256 else if j=0 then 128 else 0) 0 (1+(z:Int)+8).toNat
  = 128::(ay z 0++JK n):=by
 rw[show(1+(z:Int)+8).toNat=z+9 by omega,show 0+(1+(z:Int)+7).toNat=z+8 by omega,show 0+(1+(z:Int)+6).toNat=z+7 by omega,show 0+(1+(z:Int)+5).toNat=z+6 by omega,
  show 0+(1+(z:Int)+4).toNat=z+5 by omega,show 0+(1+(z:Int)+3).toNat=z+4 by omega,show 0+(1+(z:Int)+2).toNat=z+3 by omega,show 0+(1+(z:Int)+1).toNat=z+2 by omega,show 0+(1+(z:Int)+0).toNat=z+1 by omega]
 apply cR;intro i;unfold dw;rw[dG];by_cases hi:i<z+9
 ·rw[dV hi];simp only[er,N];cases i with
  | zero =>rw[if_neg (by omega),if_neg (by omega),if_neg (by omega),if_neg (by omega),if_neg (by omega),if_neg (by omega),if_neg (by omega),if_neg (by omega),if_pos rfl];rfl
  | succ i =>
    rw[List.getElem?_cons_succ];by_cases hz:i<z
    ·rw[c5 (by simpa using hz),List.getElem?_replicate,if_pos hz,if_neg (by omega),if_neg (by omega),if_neg (by omega),if_neg (by omega),if_neg (by omega),if_neg (by omega),if_neg (by omega),if_neg (by omega),if_neg (by omega)];rfl
    ·rw[c_ (by simp;omega),ec];obtain⟨k,rfl⟩: ∃ k,i=z+k:=⟨i - z,by omega⟩
     rw[en];have hk:k=0∨k=1∨k=2∨k=3∨k=4∨k=5∨k=6∨k=7:=by omega
     rcases hk with rfl | rfl | rfl | rfl | rfl | rfl | rfl | rfl
     ·rw[if_neg (by omega),if_neg (by omega),if_neg (by omega),if_neg (by omega),if_neg (by omega),if_neg (by omega),if_neg (by omega),if_pos (by omega)];rfl
     ·rw[if_neg (by omega),if_neg (by omega),if_neg (by omega),if_neg (by omega),if_neg (by omega),if_neg (by omega),if_pos (by omega)];rfl
     ·rw[if_neg (by omega),if_neg (by omega),if_neg (by omega),if_neg (by omega),if_neg (by omega),if_pos (by omega)];rfl
     ·rw[if_neg (by omega),if_neg (by omega),if_neg (by omega),if_neg (by omega),if_pos (by omega)];rfl
     ·rw[if_neg (by omega),if_neg (by omega),if_neg (by omega),if_pos (by omega)];rfl
     ·rw[if_neg (by omega),if_neg (by omega),if_pos (by omega)];rfl
     ·rw[if_neg (by omega),if_pos (by omega)];rfl
     ·rw[if_pos (by omega)];rfl
 ·rw[V (by simpa using hi),V (by simp[JK];omega)];rfl
theorem Q1 (T:List UInt8):(OA T).length<100:=by simp only[OA,JK,d_,Q,ec,d!,yH];omega
theorem QX {x:Sh}{T:List UInt8}(hx:Dl x T)(_hT:T.length<1152921504606846976) :
  az (rD Nn 61 ag [.ptr 0 C 0] yf (x,T) (λ_:Unit=>(True,.str A (aG T),(x,T)))):=by
 refine az.of_eq (acY x T) ?_;dsimp only;have hh:=hx.1.h;have hz:(119 - x.held)% 64=(yH T:Int):=by rw[hh];unfold yH;omega
 have hl:yH T<64:=Nat.mod_lt _ (by decide);have hb:x.held<64/\0<=x.held:=by omega
 have hs:=hx.2;have ht:OA T=128::(ay (yH T) 0++JK (x.size*8% 18446744073709551616)):=by rw[hs];rfl
 rw[hz];refine⟨by omega,by omega,by omega,by omega,by omega,by omega,by omega,by omega,by omega,by omega,by omega,by omega,by omega,by omega,by omega,by omega,by omega,by omega,by omega,by omega,by omega,by omega,by omega,by omega,by omega,by omega,by omega,by omega,by omega,by omega,by omega,by omega,by omega,by omega,by omega,by omega,by omega,by omega,by omega,by omega,(x,T),aa.refl _,⟨hx,?_⟩,λy hy=>⟨(),trivial,aa.refl _,?_⟩⟩
 ·rw[OB,← ht];have:=Q1 T;omega
 ·rw[OB,← ht] at hy;have hy:Dl y (abh T):=hy;have w:=hy.1.w;refine ic ?_;unfold aG acJ;rw[← w 0 (by decide),← w 1 (by decide),← w 2 (by decide),← w 3 (by decide),← w 4 (by decide),← w 5 (by decide),← w 6 (by decide),← w 7 (by decide)]
theorem abA:av J 61 (qg yf GX):=by
 refine Fk (n:=20) (fn:=ag) Tryz.func61 (by kernel_rfl) (by kernel_rfl) Ow ?_;intro args g x h hp;unfold GX at h;split at h
 ·injection h with h;subst h;obtain⟨x,T⟩:=x;exact⟨Nn,[.ptr 0 C 0],aaD,λE=>rfl,rfl,λ_=>rfl,QX hp.1 hp.2⟩
 ·cases h
theorem PO:bt J (λf=>aD f T8):=.cons abA (oS _ _) D5
theorem aaw (n:Nat)(f:Nat->List UInt8):Sx.Good J (Sr n f):=.of bX PO bw
theorem Xl:Dl ⟨Ts,λ_=>0,0,0⟩ []:=by refine⟨⟨⟨by decide,λj _=>by show(0:Int)<=0/\(0:Int)<=255;decide⟩,λj _=>rfl,λj hj=>absurd hj (S _),rfl⟩,rfl⟩
theorem tZ (f:Nat->List UInt8)(i:Nat):flat (iF f 0 (i+1))=flat (iF f 0 i)++f i:=by unfold flat iF;rw[List.range_succ];simp
theorem FL (f:Nat->List UInt8): ∀ {i n:Nat},i<=n->(flat (iF f 0 i)).length<=(flat (iF f 0 n)).length:=by
 intro i n h;induction n with
 | zero=>obtain rfl:i=0:=by omega
         exact a_ _
 | succ n ih =>
   by_cases e:i=n+1
   ·subst e;exact a_ _
   ·have:=ih (by omega);rw[tZ,Q];omega
theorem UG (n:Nat)(f:Nat->List UInt8)(z:Bool)(o c:Nat)(key:Option Nat)(h:(flat (iF f 0 n)).length<1152921504606846976)(hn:n<1152921504606846976) :
  az (iG (Sr n f) 25 Z [.bH 0 1 z o 0 n c] [⟨key,z,o,n,c,[.str f]⟩] (.ret (.str A (aG (flat (iF f 0 n)))))):=by
 refine az.of_eq (adB n f z o c key) ?_;dsimp only;refine⟨⟨(0,⟨Ts,λ_=>0,0,0⟩),⟨a! _,Xl⟩,rfl,Sx.aa.cells (λE=>rfl) rfl,aa.refl _,trivial⟩,λg hg=>⟨λa=> ?_,λa=> ?_⟩⟩
 ·have a:=of_decide_eq_true a;have h1:=FL f (i:=g.1+1) (n:=n) (by omega);rw[tZ,Q] at h1;rw[Int.toNat_natCast,N];refine⟨by omega,⟨rfl,by omega⟩,(g.2,flat (iF f 0 g.1)),aa.refl _,⟨hg.2,by omega⟩,λy hy=>⟨by omega,(g.1+1,y),⟨⟨by show g.1+1<=n;omega,?_⟩,by show n - (g.1+1)<n - g.1;omega⟩,by show(g.1:Int)+1=((g.1+1:Nat):Int);omega,aa.refl _,aa.refl _,trivial⟩⟩;show Dl y (flat (iF f 0 (g.1+1)));rw[tZ];exact hy
 ·have a:=of_decide_eq_false a;have hg1:=hg.1;have e:g.1=n:=by omega
  refine⟨(g.2,flat (iF f 0 g.1)),aa.refl _,⟨hg.2,by rw[e];exact h⟩,λ_ _=> ?_⟩;rw[e];exact λ_=>rfl
theorem acI:av J 25 (ym Qj XO):=by
 refine Yh (gp (n:=20) (fn:=Z) Tryz.func25 (by kernel_rfl) (by kernel_rfl) ?_);intro vs l q a h hq;unfold J2 at h;split at h
 ·rename_i n f r hx;obtain⟨z,o,c,key⟩:=r;injection h with h;injection h with h1 h2;subst h1;subst h2;obtain⟨e1,e2⟩:=Vc hx;rw[e1,e2];exact⟨_,aaw n f,rfl,rfl,UG n f z o c key hq.1 (by have:=hq.2;rwa [oD] at this)⟩
 ·cases h
theorem wj (T:List UInt8):(aG T).length=32:=rfl
noncomputable def By:List (FuncId×PT):=(25,ym Qj XO)::(155,cw (lG 9223372036854775808))::(127,cw (vq 9223372036854775808))::LG 9223372036854775808
theorem sB:bt J (λf=>aD f By):=.cons acI (J1 _ _) (.cons (mj _) (b6 _) (.cons (uA (mj _)) (b6 _) (D1 (mj _))))
noncomputable def nX:fQ:={cv with cQ:=λf=>aD f By}
theorem A2:Sx.Good J nX:=.of bX sB bw
def abj (x:Nd):cO:=.fork (aX x) λb=>match b with
 | true=>.ret (.aO [.str A (cS x),.int .i64 C 0])
 | false=>.ret (.aO [.str C [],.int .i64 C 1])
def sI (g:Nd->Option (Prop×cO)):List SV->Option (Prop×cO)
 | [.agg l]=>(match Gp l with
   | some x=>g x
   | none=>H)
 | _=>H
theorem BL {g:Nd->Option (Prop×cO)}{args:List SV}{v:cO}(h:sI g args=F (p,v)): ∃ x,args=[x.sv]/\g x=F (p,v):=by
 unfold sI at h;split at h
 ·split at h
  ·rename_i x hx;exact⟨x,by rw[pI hx],h⟩
  ·cases h
 ·cases h
def dZ (s:List UInt8):List UInt8:=if s.length<32 then s else aA (aG s)
def SP (a b:List UInt8):Bool:=!decide (a=b)&&M (aG a=aG b)
def aV (r:Nat->List UInt8):Nat->Nat
 | 0=>0
 | i+1=>bif aQ (r i)then aV r i+1 else aV r i
def cU (r:Nat->List UInt8):Nat->Nat->List UInt8
 | 0=>λ_=>[]
 | i+1=>λj=>bif aQ (r i)then(if j=aV r i then ai (r i)else cU r i j)else cU r i j
def zD:Nat->Nd->Prop
 | 0,_=>False
 | L+1,x=>∀ j,j<16->x.r j=[]∨((x.r j).length<L/\(x.r j).length<32)
def q8 (L:Nat):List SV->Option (Prop×SV):=fz λx=>F (zD L x,.aP)
noncomputable def WC:bg :={α:=Nat,pre:=λ_ i=>i<=16,kY:=λ_ i=>16 - i,fresh:=0,slots:=λ_ i=>[(7,.int .i64 A i)],mem:=λ_ _=>[]}
noncomputable def Nk (L:Nat):fQ:={cv with cQ:=λf=>aD f ((128,bh (q8 L))::By),bD:=λf=>if f=201 then [(1,always WC)] else []}
noncomputable def ab8 (x:Nd):bg :=
 {α:=Nat×Nat,pre:=λ_ g=>g.1<=16/\aV x.r g.1<=g.2,kY:=λ_ g=>16 - g.1,fresh:=1,slots:=λ_ g=>[(7,.int .i64 A g.1)],
  mem:=λst g=>[(1,.cells [.bx st.nx 1 C 0 (aV x.r g.1) g.2] 1 29),(st.nx,.rows C (aV x.r g.1) [.str (cU x.r g.1)] A g.2 9)]}
noncomputable def Nj (x:Nd):fQ:={cv with cQ:=λf=>aD f ((128,bh (q8 64))::By),bD:=λf=>if f=201 then [(1,always (ab8 x))] else []}
def zT (x:Nd):cO:=.fork (aX x) λb=>match b with
 | true=>.all Nat λc=>.req (aV x.r 16<=c) (.new (λk=>.bx k 1 C 0 (aV x.r 16) c) (.rows C (aV x.r 16) [.str (cU x.r 16)] A c 9))
 | false=>.ret .aP
theorem Rc (x:Nd):VC.holds (gG nX 105 bf [x.sv] (abj x))=((oO 9223372036854775808 fun(i:Nat)=>(cK x.r []).getD i []) /\((!aX {k:=x.k,p:=x.p,v:=x.v,r:=fun(i:Nat)=>(cK x.r []).getD i []:Nd})=C ->(aX x=C ->af (SV.aO [SV.str C [],SV.int .i64 C 1]) (SV.aO [SV.str A (cS x),SV.int .i64 C 0])) /\(aX x=A ->af (SV.aO [SV.str C [],SV.int .i64 C 1]) (SV.aO [SV.str C [],SV.int .i64 C 1]))) /\((!aX {k:=x.k,p:=x.p,v:=x.v,r:=fun(i:Nat)=>(cK x.r []).getD i []:Nd})=A ->(((0:Int)<=x.k /\x.k<=(3:Int)) /\{k:=x.k,p:=x.p,v:=x.v,r:=fun(i:Nat)=>(cK x.r []).getD i []:Nd}.oN) /\(aX x=C ->af (SV.aO [SV.str A (cS {k:=x.k,p:=x.p,v:=x.v,r:=fun(i:Nat)=>(cK x.r []).getD i []:Nd}),SV.int .i64 C 0]) (SV.aO [SV.str A (cS x),SV.int .i64 C 0])) /\(aX x=A ->af (SV.aO [SV.str A (cS {k:=x.k,p:=x.p,v:=x.v,r:=fun(i:Nat)=>(cK x.r []).getD i []:Nd}),SV.int .i64 C 0]) (SV.aO [SV.str C [],SV.int .i64 C 1])))):=by kernel_rfl
theorem acX (s:List UInt8)(R:SV->Prop):VC.holds (eO nX 150 b_ [.str A s] R)=((M ((↑s.length:Int)<(32:Int))=C ->R (SV.str A s)) /\(M ((↑s.length:Int)<(32:Int))=A ->(True /\Qj [s]) /\(32:Nat)<(1152921504606846976:Nat) /\R (SV.str A (aA (aG (flat [s])))))):=by kernel_rfl
theorem abL (L:Nat)(x:Nd)(R:SV->Prop):VC.holds (eO (Nk L) 128 b7 [x.sv] R)=((λQ0:SB=>((oO 9223372036854775808 fun(i:Nat)=>(cK x.r []).getD i []) /\((!aX {k:=x.k,p:=x.p,v:=x.v,r:=fun(i:Nat)=>(cK x.r []).getD i []:Nd})=C ->R SV.aP) /\((!aX {k:=x.k,p:=x.p,v:=x.v,r:=fun(i:Nat)=>(cK x.r []).getD i []:Nd})=A ->∀(R_1:Loop),(∃(y:Nat),y<=(16:Nat) /\(0:Int)=(↑y:Int) /\aa (SB.loop I H R_1) (SB.loop I H R_1) /\aa Q0 Q0 /\aa (SB.cells SV.aP.cells 1 29) (SB.cells SV.aP.cells 1 29) /\aa (SB.cells x.sv.cells 19 138) (SB.cells x.sv.cells 19 138) /\True) /\∀(x_2:Nat),x_2<=(16:Nat) ->(M ((↑x_2:Int)<(16:Int))=C ->((0:Int)<=(↑x_2:Int) /\(↑x_2:Int)<(16:Int) /\(↑x_2:Int)<(↑(16:Nat):Int)) /\((!decide (bT (cK x.r []) (↑x_2:Int).toNat=[]))=C ->R_1=R_1 /\(bT (cK x.r []) (↑x_2:Int).toNat).length<(9223372036854775808:Nat) /\(aQ (bT (cK x.r []) (↑x_2:Int).toNat)=C ->∀(c:Nat),(1:Nat)<=c ->((-9223372036854775808:Int)<=(↑x_2:Int)+(1:Int) /\(↑x_2:Int)+(1:Int)<=(9223372036854775807:Int)) /\∃(y:Nat),(y<=(16:Nat) /\(16:Nat) - y<(16:Nat) - x_2) /\(↑x_2:Int)+(1:Int)=(↑y:Int) /\aa (SB.loop I H R_1) (SB.loop I H R_1) /\aa Q0 Q0 /\aa (SB.cells [SV.slc ((5:Nat)) 0 1 A c] 1 29) (SB.cells [SV.aP] 1 29) /\aa (SB.cells x.sv.cells 19 138) (SB.cells x.sv.cells 19 138) /\True) /\(aQ (bT (cK x.r []) (↑x_2:Int).toNat)=A ->Rel 9223372036854775808 (bT (cK x.r []) (↑x_2:Int).toNat) /\(bp (bT (cK x.r []) (↑x_2:Int).toNat)=C ->zD L {k:=(getD (bT (cK x.r []) (↑x_2:Int).toNat)).k,p:=(getD (bT (cK x.r []) (↑x_2:Int).toNat)).p,v:=(getD (bT (cK x.r []) (↑x_2:Int).toNat)).v,r:=fun(i:Nat)=>(cK (λi=>(getD (bT (cK x.r []) (↑x_2:Int).toNat)).r i) []).getD i []:Nd} /\F (SB.cells SV.aP.cells 1 29)=F (SB.cells SV.aP.cells 1 29) /\((-9223372036854775808:Int)<=(↑x_2:Int)+(1:Int) /\(↑x_2:Int)+(1:Int)<=(9223372036854775807:Int)) /\∃(y:Nat),(y<=(16:Nat) /\(16:Nat) - y<(16:Nat) - x_2) /\(↑x_2:Int)+(1:Int)=(↑y:Int) /\aa (SB.loop I H R_1) (SB.loop I H R_1) /\aa Q0 Q0 /\aa (SB.cells [SV.aP] 1 29) (SB.cells [SV.aP] 1 29) /\aa (SB.cells x.sv.cells 19 138) (SB.cells x.sv.cells 19 138) /\True) /\(bp (bT (cK x.r []) (↑x_2:Int).toNat)=A ->zD L {k:=(0:Int),p:=[],v:=[],r:=fun(i:Nat)=>(cK (λ_=>[]) []).getD i []:Nd} /\F (SB.cells SV.aP.cells 1 29)=F (SB.cells SV.aP.cells 1 29) /\((-9223372036854775808:Int)<=(↑x_2:Int)+(1:Int) /\(↑x_2:Int)+(1:Int)<=(9223372036854775807:Int)) /\∃(y:Nat),(y<=(16:Nat) /\(16:Nat) - y<(16:Nat) - x_2) /\(↑x_2:Int)+(1:Int)=(↑y:Int) /\aa (SB.loop I H R_1) (SB.loop I H R_1) /\aa Q0 Q0 /\aa (SB.cells [SV.aP] 1 29) (SB.cells [SV.aP] 1 29) /\aa (SB.cells x.sv.cells 19 138) (SB.cells x.sv.cells 19 138) /\True))) /\((!decide (bT (cK x.r []) (↑x_2:Int).toNat=[]))=A ->((-9223372036854775808:Int)<=(↑x_2:Int)+(1:Int) /\(↑x_2:Int)+(1:Int)<=(9223372036854775807:Int)) /\∃(y:Nat),(y<=(16:Nat) /\(16:Nat) - y<(16:Nat) - x_2) /\(↑x_2:Int)+(1:Int)=(↑y:Int) /\aa (SB.loop I H R_1) (SB.loop I H R_1) /\aa Q0 Q0 /\aa (SB.cells SV.aP.cells 1 29) (SB.cells SV.aP.cells 1 29) /\aa (SB.cells x.sv.cells 19 138) (SB.cells x.sv.cells 19 138) /\True)) /\(M ((↑x_2:Int)<(16:Int))=A ->R SV.aP)))) (SB.cells (SV.agg (SV.int .i64 A x.k::SV.str A x.p::SV.str A x.v::cK (λi=>SV.str A (x.r i)) [])).cells 19 238)):=by kernel_rfl
theorem VL (x:Nd):VC.holds (gG (Nj x) 128 b7 [x.sv] (zT x))=((λQ0:SB=>((oO 9223372036854775808 fun(i:Nat)=>(cK x.r []).getD i []) /\((!aX {k:=x.k,p:=x.p,v:=x.v,r:=fun(i:Nat)=>(cK x.r []).getD i []:Nd})=C ->(aX x=C ->∃(x_3:Nat),aV x.r (16:Nat)<=x_3 /\False) /\(aX x=A ->af SV.aP SV.aP)) /\((!aX {k:=x.k,p:=x.p,v:=x.v,r:=fun(i:Nat)=>(cK x.r []).getD i []:Nd})=A ->∀(R:Loop),(∃(y:Nat×Nat),(y.1<=(16:Nat) /\aV x.r y.1<=y.2) /\(0:Int)=(↑y.1:Int) /\(1:Nat)=(1:Nat) /\aV x.r y.1=(0:Nat) /\(SB.rows C (aV x.r y.1) [ak.str (cU x.r y.1)] A y.2 9).no=C /\aa (SB.loop I H R) (SB.loop I H R) /\aa Q0 Q0 /\aa (SB.cells x.sv.cells 19 138) (SB.cells x.sv.cells 19 138) /\True) /\∀(x_2:Nat×Nat),x_2.1<=(16:Nat) /\aV x.r x_2.1<=x_2.2 ->(M ((↑x_2.1:Int)<(16:Int))=C ->((0:Int)<=(↑x_2.1:Int) /\(↑x_2.1:Int)<(16:Int) /\(↑x_2.1:Int)<(↑(16:Nat):Int)) /\((!decide (bT (cK x.r []) (↑x_2.1:Int).toNat=[]))=C ->R=R /\(bT (cK x.r []) (↑x_2.1:Int).toNat).length<(9223372036854775808:Nat) /\(aQ (bT (cK x.r []) (↑x_2.1:Int).toNat)=C ->((0:Nat)+aV x.r x_2.1<=aV x.r x_2.1 /\True /\(2:Nat)*(aV x.r x_2.1+(1:Nat))*(16:Nat)<=(281474976710656:Nat) /\aV x.r x_2.1+(1:Nat)<(9223372036854775808:Nat)) /\x_2.2=x_2.2*(1:Nat) /\∀(c:Nat),aV x.r x_2.1+(1:Nat)<=c ->((-9223372036854775808:Int)<=(↑x_2.1:Int)+(1:Int) /\(↑x_2.1:Int)+(1:Int)<=(9223372036854775807:Int)) /\∃(y:Nat×Nat),((y.1<=(16:Nat) /\aV x.r y.1<=y.2) /\(16:Nat) - y.1<(16:Nat) - x_2.1) /\(↑x_2.1:Int)+(1:Int)=(↑y.1:Int) /\(1:Nat)=(1:Nat) /\((0:Nat)=(0:Nat) /\aV x.r x_2.1+(1:Nat)=aV x.r y.1 /\c=y.2) /\True /\aa (SB.rows C (aV x.r x_2.1+(1:Nat)) [ak.str fun(j:Nat)=>if j<aV x.r x_2.1 then cU x.r x_2.1 j else bT [ai (bT (cK x.r []) (↑x_2.1:Int).toNat)] (j - aV x.r x_2.1)] A (c*(1:Nat)) 9) (SB.rows C (aV x.r y.1) [ak.str (cU x.r y.1)] A y.2 9) /\aa (SB.loop I H R) (SB.loop I H R) /\aa Q0 Q0 /\aa (SB.cells x.sv.cells 19 138) (SB.cells x.sv.cells 19 138) /\True) /\(aQ (bT (cK x.r []) (↑x_2.1:Int).toNat)=A ->Rel 9223372036854775808 (bT (cK x.r []) (↑x_2.1:Int).toNat) /\(bp (bT (cK x.r []) (↑x_2.1:Int).toNat)=C ->zD 64 {k:=(getD (bT (cK x.r []) (↑x_2.1:Int).toNat)).k,p:=(getD (bT (cK x.r []) (↑x_2.1:Int).toNat)).p,v:=(getD (bT (cK x.r []) (↑x_2.1:Int).toNat)).v,r:=fun(i:Nat)=>(cK (λi=>(getD (bT (cK x.r []) (↑x_2.1:Int).toNat)).r i) []).getD i []:Nd} /\F (SB.cells [SV.bx ((4:Nat)) 1 C 0 (aV x.r x_2.1) x_2.2] 1 29)=F (SB.cells [SV.bx ((4:Nat)) 1 C 0 (aV x.r x_2.1) x_2.2] 1 29) /\((0:Nat)+aV x.r x_2.1<=aV x.r x_2.1 /\True /\(2:Nat)*(aV x.r x_2.1+(0:Nat))*(16:Nat)<=(281474976710656:Nat) /\aV x.r x_2.1+(0:Nat)<(9223372036854775808:Nat)) /\x_2.2=x_2.2*(1:Nat) /\∀(c:Nat),aV x.r x_2.1+(0:Nat)<=c ->((-9223372036854775808:Int)<=(↑x_2.1:Int)+(1:Int) /\(↑x_2.1:Int)+(1:Int)<=(9223372036854775807:Int)) /\∃(y:Nat×Nat),((y.1<=(16:Nat) /\aV x.r y.1<=y.2) /\(16:Nat) - y.1<(16:Nat) - x_2.1) /\(↑x_2.1:Int)+(1:Int)=(↑y.1:Int) /\(1:Nat)=(1:Nat) /\((0:Nat)=(0:Nat) /\aV x.r x_2.1+(0:Nat)=aV x.r y.1 /\c=y.2) /\True /\aa (SB.rows C (aV x.r x_2.1+(0:Nat)) [ak.str (cU x.r x_2.1)] A (c*(1:Nat)) 9) (SB.rows C (aV x.r y.1) [ak.str (cU x.r y.1)] A y.2 9) /\aa (SB.loop I H R) (SB.loop I H R) /\aa Q0 Q0 /\aa (SB.cells x.sv.cells 19 138) (SB.cells x.sv.cells 19 138) /\True) /\(bp (bT (cK x.r []) (↑x_2.1:Int).toNat)=A ->zD 64 {k:=(0:Int),p:=[],v:=[],r:=fun(i:Nat)=>(cK (λ_=>[]) []).getD i []:Nd} /\F (SB.cells [SV.bx ((4:Nat)) 1 C 0 (aV x.r x_2.1) x_2.2] 1 29)=F (SB.cells [SV.bx ((4:Nat)) 1 C 0 (aV x.r x_2.1) x_2.2] 1 29) /\((0:Nat)+aV x.r x_2.1<=aV x.r x_2.1 /\True /\(2:Nat)*(aV x.r x_2.1+(0:Nat))*(16:Nat)<=(281474976710656:Nat) /\aV x.r x_2.1+(0:Nat)<(9223372036854775808:Nat)) /\x_2.2=x_2.2*(1:Nat) /\∀(c:Nat),aV x.r x_2.1+(0:Nat)<=c ->((-9223372036854775808:Int)<=(↑x_2.1:Int)+(1:Int) /\(↑x_2.1:Int)+(1:Int)<=(9223372036854775807:Int)) /\∃(y:Nat×Nat),((y.1<=(16:Nat) /\aV x.r y.1<=y.2) /\(16:Nat) - y.1<(16:Nat) - x_2.1) /\(↑x_2.1:Int)+(1:Int)=(↑y.1:Int) /\(1:Nat)=(1:Nat) /\((0:Nat)=(0:Nat) /\aV x.r x_2.1+(0:Nat)=aV x.r y.1 /\c=y.2) /\True /\aa (SB.rows C (aV x.r x_2.1+(0:Nat)) [ak.str (cU x.r x_2.1)] A (c*(1:Nat)) 9) (SB.rows C (aV x.r y.1) [ak.str (cU x.r y.1)] A y.2 9) /\aa (SB.loop I H R) (SB.loop I H R) /\aa Q0 Q0 /\aa (SB.cells x.sv.cells 19 138) (SB.cells x.sv.cells 19 138) /\True))) /\((!decide (bT (cK x.r []) (↑x_2.1:Int).toNat=[]))=A ->((-9223372036854775808:Int)<=(↑x_2.1:Int)+(1:Int) /\(↑x_2.1:Int)+(1:Int)<=(9223372036854775807:Int)) /\∃(y:Nat×Nat),((y.1<=(16:Nat) /\aV x.r y.1<=y.2) /\(16:Nat) - y.1<(16:Nat) - x_2.1) /\(↑x_2.1:Int)+(1:Int)=(↑y.1:Int) /\(1:Nat)=(1:Nat) /\((0:Nat)=(0:Nat) /\aV x.r x_2.1=aV x.r y.1 /\x_2.2=y.2) /\True /\aa (SB.rows C (aV x.r x_2.1) [ak.str (cU x.r x_2.1)] A x_2.2 9) (SB.rows C (aV x.r y.1) [ak.str (cU x.r y.1)] A y.2 9) /\aa (SB.loop I H R) (SB.loop I H R) /\aa Q0 Q0 /\aa (SB.cells x.sv.cells 19 138) (SB.cells x.sv.cells 19 138) /\True)) /\(M ((↑x_2.1:Int)<(16:Int))=A ->(aX x=C ->∃(x_6:Nat),aV x.r (16:Nat)<=x_6 /\aa (SB.rows C (aV x.r x_2.1) [ak.str (cU x.r x_2.1)] A x_2.2 9) (SB.rows C (aV x.r 16) [ak.str (cU x.r 16)] A x_6 9) /\af (SV.bx ((4:Nat)) 1 C 0 (aV x.r x_2.1) x_2.2) (SV.bx ((4:Nat)) 1 C 0 (aV x.r 16) x_6)) /\(aX x=A ->af (SV.bx ((4:Nat)) 1 C 0 (aV x.r x_2.1) x_2.2) SV.aP))))) (SB.cells (SV.agg (SV.int .i64 A x.k::SV.str A x.p::SV.str A x.v::cK (λi=>SV.str A (x.r i)) [])).cells 19 238)):=by kernel_rfl
structure Nd.Fa (x y:Nd):Prop where
 k:x.k=y.k
 p:x.p=y.p
 v:x.v=y.v
 r: ∀ j,j<16->x.r j=y.r j
theorem IN {inl:List UInt8->Bool}{r r':Nat->List UInt8}: ∀ {n:Nat},(∀ j,j<n->r j=r' j)->jE inl r n=jE inl r' n/\dz r n=dz r' n
 | 0,_=>⟨rfl,rfl⟩
 | n+1,h=>by obtain⟨h1,h2⟩:=IN (inl:=inl) (n:=n) λj hj=>h j (by omega);simp only[jE,dz,h1,h2,h n (by omega),and_self]
theorem sY (h:x.Fa y):aX x=aX y:=by
 obtain⟨h1,h2⟩:=IN (inl:=bp) h.r;have e0:qj x=qj y:=by
  unfold qj;rw[h.k,h.p,h.v];congr 3;rw[Bool.eq_iff_iff,ct,ct];constructor
  ·intro g j hj;rw[← h.r j (ej.1 hj)];exact g j hj
  ·intro g j hj;rw[h.r j (ej.1 hj)];exact g j hj
 have e1:kL x=kL y:=by unfold kL gW;rw[h.p,h.v,fF h.r]
 have e2:ny bp x=ny bp y:=by unfold ny gW;rw[h.p,h.v,fF h.r,h.r 0 (by decide)]
 have e3:dQ bp x=dQ bp y:=by unfold dQ;rw[h.p,h.v,h1,h2]
 unfold aX iX;rw[h.k,e0,e1,e2,e3]
theorem Ob (h:x.Fa y):cS x=cS y:=by
 have e1:jI x=jI y:=by unfold jI c7;rw[h.p,h.v]
 have e2:qp x=qp y:=by unfold qp c7;rw[h.p,h.r 0 (by decide)]
 have e3:fS x=fS y:=by
  have hb: ∀ j,j<16->b5 x.r 16 j=b5 y.r 16 j:=λj hj=>by unfold b5;rw[h.r j hj]
  unfold fS;rw[hb 0 (by decide),hb 1 (by decide),hb 2 (by decide),hb 3 (by decide),hb 4 (by decide),hb 5 (by decide),hb 6 (by decide),hb 7 (by decide),hb 8 (by decide),hb 9 (by decide),hb 10 (by decide),hb 11 (by decide),hb 12 (by decide),hb 13 (by decide),hb 14 (by decide),hb 15 (by decide),h.v]
 unfold cS;rw[h.k,e1,e2,e3]
theorem pZ (x:Nd):Nd.Fa {k:=x.k,p:=x.p,v:=x.v,r:=fun(i:Nat)=>[x.r 0,x.r 1,x.r 2,x.r 3,x.r 4,x.r 5,x.r 6,x.r 7,x.r 8,x.r 9,x.r 10,x.r 11,x.r 12,x.r 13,x.r 14,x.r 15].getD i []} x:=⟨rfl,rfl,rfl,λj hj=>fy x.r j hj⟩
theorem Nd.oN.same (h:x.Fa y)(hf:y.oN):x.oN:=⟨by rw[h.p];exact hf.p,by rw[h.v];exact hf.v,λj hj=>by rw[h.r j hj];exact hf.r j hj⟩
def Fits (x:Nd):Prop:=∀ j,j<16->(x.r j).length<9223372036854775808
theorem AU (h:Fits x):oO 9223372036854775808 (fun(i:Nat)=>[x.r 0,x.r 1,x.r 2,x.r 3,x.r 4,x.r 5,x.r 6,x.r 7,x.r 8,x.r 9,x.r 10,x.r 11,x.r 12,x.r 13,x.r 14,x.r 15].getD i []):=λj hj=>by show Rel _ ([x.r 0,x.r 1,x.r 2,x.r 3,x.r 4,x.r 5,x.r 6,x.r 7,x.r 8,x.r 9,x.r 10,x.r 11,x.r 12,x.r 13,x.r 14,x.r 15].getD j []);rw[fy x.r j hj];exact⟨.inl (h j hj),h j hj⟩
theorem L2:av J 105 (cw (sI λx=>F (Fits x,abj x))):=by
 refine dW (n:=20) (fn:=bf) Tryz.func105 (by kernel_rfl) (by kernel_rfl) ?_;intro args p a h hp;obtain⟨x,hx,hg⟩:=BL h;subst hx;injection hg with hg;injection hg with h1 h2;subst h1;subst h2;refine⟨nX,A2,rfl,λb=>by cases b<;>exact rfl,az.of_eq (Rc x) ?_⟩
 have e:=sY (pZ x);have e2:=Ob (pZ x);refine⟨AU hp,λa=> ?_,λa=> ?_⟩
 ·rw[e] at a;have a:aX x=false:=by simpa using a
  rw[a];exact⟨(λh=>by cases h),λ_ _=>rfl⟩
 ·rw[e] at a;have a:aX x=true:=by simpa using a
  have hs:=gi a;rw[e2,a];exact⟨⟨hs.k,Nd.oN.same (pZ x) hs.few⟩,λ_ _=>rfl,λh=>by cases h⟩
theorem YY (s:List UInt8):flat [s]=s:=by simp[flat]
theorem ads {s:List UInt8}(h:s.length<1152921504606846976):True/\Qj [s]:=⟨trivial,by rw[YY];exact h,by simp⟩
def GI:List SV->Option (Prop×SV)
 | [.str A s]=>F (s.length<1152921504606846976,.str A (dZ s))
 | _=>H
theorem L3:av J 150 (bh GI):=by
 refine iO A2 (n:=20) (fn:=b_) Tryz.func150 (by kernel_rfl) (by kernel_rfl) ?_;intro args p r h hp;unfold GI at h;split at h
 ·rename_i s;injection h with h;injection h with h1 h2;subst h1;subst h2;refine⟨rfl,rfl,az.of_eq (acX s _) ⟨λa=> ?_,λa=>⟨ads hp,by omega,?_⟩⟩⟩
  ·have a:=of_decide_eq_true a;exact ic (by rw[dZ,if_pos (by omega)])
  ·have a:=of_decide_eq_false a;exact ic (by rw[dZ,if_neg (by omega),YY])
 ·cases h
theorem I5 (h:zD L x): ∃ K,L=K+1/\∀ j,j<16->x.r j=[]∨((x.r j).length<K/\(x.r j).length<32):=by
 cases L with
 | zero=>exact h.elim
 | succ K=>exact⟨K,rfl,h⟩
theorem Qg (h:zD L x):Fits x:=λj hj=>by
 obtain⟨K,_,h⟩:=I5 h;rcases h j hj with h | h
 ·rw[h];simp
 ·omega
theorem Gq {t:List UInt8}(hk:0<=aq t)(h:t.length<L)(h32:t.length<32):zD L (getD t):=by
 cases L with
 | zero=>exact absurd h (S _)
 | succ L =>
   intro j _;by_cases e:(getD t).r j=[]
   ·exact .inl e
   ·have:=GJ hk j e;exact .inr ⟨by omega,by omega⟩
theorem El (h:x.Fa y)(hn:zD L y):zD L x:=by
 cases L with
 | zero=>exact hn.elim
 | succ L=>intro j hj;rw[h.r j hj];exact hn j hj
theorem Em (h:0<L):zD L dO:=by
 cases L with
 | zero=>omega
 | succ L=>intro j hj;exact .inl (fy (λ_=>[]) j hj)
theorem sq {t:List UInt8}(h:bp t=C):0<=aq t/\aY t=C/\(getD t).k≠0:=by
 rw[xx] at h;simp only[O,decide_eq_true_eq,Bool.not_eq_true',decide_eq_false_iff_not] at h;refine⟨?_,h.2.1,h.2.2⟩;by_cases g:0<=aq t
 ·exact g
 ·rw[Ti g] at h;exact absurd h.2.1 (by decide)
theorem Qh (hH:av J 128 (bh (q8 L))):av J 128 (bh (q8 (L+1))):=by
 refine Ek b! (by kernel_rfl) (by kernel_rfl) λx p v h hp=> ?_;injection h with h;injection h with h1 h2;subst h1;subst h2;have hp:zD (L+1) x:=hp;refine⟨Nk L,[x.sv],.of bX (bt.cons hH (aS _) sB) bw,λE=>rfl,rfl,rfl,az.of_eq (abL L x _) ?_⟩;refine⟨AU (Qg hp),λ_ _=>rfl,λ_ R=>⟨⟨0,by omega,rfl,aa.refl _,aa.refl _,aa.refl _,aa.refl _,trivial⟩,λi hi=>⟨λc=> ?_,λ_ _=>rfl⟩⟩⟩;have c:=of_decide_eq_true c;have ei:i<16:=by omega
 rw[Int.toNat_natCast,tH x.r ei];refine⟨by omega,λd=> ?_,λd=>⟨by omega,i+1,by omega,by omega,aa.refl _,aa.refl _,aa.refl _,aa.refl _,trivial⟩⟩;have d: ¬ x.r i=[]:=by simpa using d
 obtain⟨hl,h32⟩:(x.r i).length<L/\(x.r i).length<32:=by
  rcases hp i ei with h | h
  ·exact absurd h d
  ·exact h
 have hlp:0<L:=by omega
 refine⟨rfl,by omega,λe=> ?_,λe=>⟨⟨.inl (by omega),by omega⟩,λf=>⟨?_,rfl,by omega,i+1,by omega,by omega,aa.refl _,aa.refl _,aa.refl _,aa.refl _,trivial⟩,λf=>⟨Em hlp,rfl,by omega,i+1,by omega,by omega,aa.refl _,aa.refl _,aa.refl _,aa.refl _,trivial⟩⟩⟩
 ·have:=kH e;omega
 ·exact El (pZ (getD (x.r i))) (Gq (sq f).1 hl h32)
theorem I4: ∀ L,av J 128 (bh (q8 L))
 | 0=>Ek b! (by kernel_rfl) (by kernel_rfl) λx p v h hp=>by injection h with h;injection h with h1 h2;subst h1;exact hp.elim
 | L+1=>Qh (I4 L)
theorem vt (r:Nat->List UInt8): ∀ i,aV r i<=i
 | 0=>a_ _
 | i+1=>by have:=vt r i;unfold aV;cases aQ (r i)<;>simp only[cond_true,cond_false]<;>omega
theorem aam (x:Nd):Sx.Good J (Nj x):=.of bX (bt.cons (I4 64) (aS _) sB) bw
end
end Go.Proofs.YtoibaecagklkaaaGreatDoor
