/-
  The framework's part 25: a slice among a call's arguments, as a view: whatever the caller holds it by.
-/
import Derived.Test.YtoibaecagklkaaaGreatDoorMk
import Derived.Test.YtoibaecagklkaaaGreatDoorMl
import Derived.Test.YtoibaecagklkaaaGreatDoorMn
import Derived.Test.YtoibaecagklkaaaGreatDoorMm
open Bool renaming and_eq_true->O,false->A,true->G
open Go.LoopState renaming ready->J
open Go.Proofs.Tryz renaming f105->bl,f128->bn,f150->b5,f24->b6,f25->Z,f61->ag,func128->b9,prog->M
open List renaming all_eq_true->b_,append_assoc->b!,append_nil->cx,ext_getElem?->cB,getD_eq_getElem?_getD->cL,getElem?_append_left->c4,getElem?_append_right->c5,getElem?_eq_getElem->an,getElem?_eq_none->V,getElem?_eq_some_iff->c6,getElem?_map->c_,getElem?_range->c!,length_append->Q,length_cons->d_,length_nil->d!,length_replicate->ef,mem_append->ej,mem_range->ek,replicate->aA
open Nat renaming add_assoc->Y,add_mul->en,add_sub_cancel_left->ep,blt_eq->er,le_refl->a_,not_lt_zero->S,zero_add->N,zero_le->a!
open Option renaming map_some->eu,none->I,some->C
open UInt8 renaming ofNat->H
namespace Go.Proofs.YtoibaecagklkaaaGreatDoor
open Go Sx
variable {z:Bool}{az:List aE}{m:Mem}{L c i j key n o:Nat}{E:Nat->Nat}{x y:Nd}{P:Program}{p:Prop}{v v':SV}{ty:TypeId}
namespace Sx
open Go
theorem aE.Ew (c:aE)(i:Nat)(E E':Nat->Nat):(c.at i).val E=(c.at i).val E':=by cases c<;>rfl
structure Seen where
 key:Option Nat
 z:Bool
 o:Nat
 n:Nat
 c:Nat
 az:List aE
def Seen.B (s:Seen):SB:=.view s.z s.o s.n s.az
def Seen.sv (j:Nat)(s:Seen):SV:=.aS j s.az.length s.z s.o 0 s.n s.c
def Seen.wG (m:Mem)(s:Seen):Prop:=∀ Γ E nx w,aO Γ E m nx w->s.B.no=A->∃ key X,s.key=C key/\m.get key=C X/\X.no=A/\∃ ob,w.heap[E key]?=C ob/\∀ E',bS E' s.B ob
def zX (m:Mem)(v:SV)(s:Seen):Prop:=(∀(E E':Nat->Nat) (j:Nat),(∀ key,s.key=C key->E' j=E key)->v.val E=(s.sv j).val E')/\s.wG m
theorem pK {ce:Array Value}{fr:Nat×Nat}(h: ∀(i k:Nat) (col:aE),i<n->az[k]?=C col->ce[o+i*az.length+k]?=C ((col.at i).val (λ_=>0)))(E':Nat->Nat) :
  bS E' (.view z o n az) (.cells ce ty fr):=⟨ce,ty,fr,rfl,λi k col hi hk=>by rw[aE.Ew col i E' (λ_=>0)];exact h i k col hi hk⟩
theorem VA (m:Mem)(az:List aE):zX m .aK ⟨I,G,0,0,0,az⟩:=⟨λ_ _ _ _=>rfl,λ_ _ _ _ _ h=>by cases h⟩
theorem s8 (i:Nat)(az:List aE)(k:Nat)(col:aE)(h:(eP i az)[k]?=C col): ∃ d,az[k]?=C d/\∀(j:Nat) (E:Nat->Nat),(col.at j).val E=(d.at (i+j)).val E:=by obtain⟨d,h1,h2⟩:=nu h;exact⟨d,h1,λj E=>by rw[h2 j]⟩
theorem QL {n':Nat}{z':Bool}{ro:Bool}{tot:Nat}(hk:m.get key=C (SB.rows z' n' az ro tot ty))(hz:z=z'∨0<n')(hn:i+n<=n') :
  zX m (.bx key az.length z i n c) ⟨C key,z,i*az.length,n,c,eP i az⟩:=by
 refine⟨λE E' j h=>by simp[SV.val,Seen.sv,h key rfl],λΓ E nx w hs h=> ?_⟩;have hno:(SB.rows z' n' az ro tot ty).no=false:=by
  rcases hz with rfl | hz
  ·cases n with
   | zero =>
     have hz:z=false:=by
      cases z with
      | false=>rfl
      | true=>cases h
     subst hz;rfl
   | succ n=>exact SB.jk (i:=0) (by omega)
  ·exact SB.jk (i:=0) hz
 obtain⟨ob,ho,ce,fr,rfl,_,_,_,h4⟩:=hs.ny key _ hk hno;refine⟨key,_,rfl,hk,hno,_,ho,pK λa b col ha hb=> ?_⟩;obtain⟨d,h1,h2⟩:=s8 _ _ _ _ hb;have:=h4 (i+a) b d (by simp only at ha;omega) h1;rw[h2 a,aE.Ew d _ _ E,gk,← this];congr 1;rw[en]
theorem QM {n':Nat}(hk:m.get key=C (SB.view z o n' az))(hn:i+n<=n') :
  zX m (.aS key az.length z o i n c) ⟨C key,z,o+i*az.length,n,c,eP i az⟩:=by
 refine⟨λE E' j h=>by simp[SV.val,Seen.sv,h key rfl],λΓ E nx w hs h=> ?_⟩;have hno:(SB.view z o n' az).no=false:=by
  cases n with
  | zero =>
    have hz:z=false:=by
     cases z with
     | false=>rfl
     | true=>cases h
    subst hz;rfl
  | succ n=>exact SB.zN (i:=0) (by omega)
 obtain⟨ob,ho,ce,ty,fr,rfl,h4⟩:=hs.ny key _ hk hno;refine⟨key,_,rfl,hk,hno,_,ho,pK λa b col ha hb=> ?_⟩;obtain⟨d,h1,h2⟩:=s8 _ _ _ _ hb;have:=h4 (i+a) b d (by simp only at ha;omega) h1;rw[h2 a,aE.Ew d _ _ E,gk,← this];congr 1;show o+i*az.length+a*az.length+b=o+(i+a)*az.length+b;rw[en];omega
def ZW:SV->Int
 | .int _ _ n=>n
 | _=>0
def VN:SV->Bool
 | .bool _ b=>b
 | _=>A
def Oy:SV->e_
 | .str _ s=>s
 | _=>[]
def Hh (l:List SV)(w j:Nat):Option aE:=match l[j]? with
 | some (.int k _ _)=>C (.int k λi=>ZW (l.getD (i*w+j) .cH))
 | some (.bool _ _)=>C (.bool λi=>VN (l.getD (i*w+j) .cH))
 | some (.str _ _)=>C (.str λi=>Oy (l.getD (i*w+j) .cH))
 | _=>I
def kindOk:aE->SV->Bool
 | .int k _,.int k' _ _=>decide (k=k')
 | .bool _,.bool _ _=>G
 | .str _,.str _ _=>G
 | _,_=>A
theorem O0 {l:List SV}{w:Nat}{col:aE}(h:Hh l w j=C col)(hk:kindOk col (l.getD (i*w+j) .cH)=G)(E:Nat->Nat):(l.getD (i*w+j) .cH).val E=(col.at i).val E:=by
 unfold Hh at h;split at h
 ·cases h;unfold kindOk at hk;split at hk
  ·rename_i e1 e2;injection e1 with e1 _;subst e1;simp only[decide_eq_true_eq] at hk;rw[e2];simp only[aE.at,e2,ZW,SV.val,hk]
  ·cases ‹aE.int _ _=aE.bool _›
  ·cases ‹aE.int _ _=aE.str _›
  ·cases hk
 ·cases h;unfold kindOk at hk;split at hk
  ·cases ‹aE.bool _=aE.int _ _›
  ·rename_i e1 e2;rw[e2];simp only[aE.at,e2,VN,SV.val]
  ·cases ‹aE.bool _=aE.str _›
  ·cases hk
 ·cases h;unfold kindOk at hk;split at hk
  ·cases ‹aE.str _=aE.int _ _›
  ·cases ‹aE.str _=aE.bool _›
  ·rename_i e1 e2;rw[e2];simp only[aE.at,e2,Oy,SV.val]
  ·cases hk
 ·cases h
theorem seen_cells {tot:Nat}{cl:Bool}{cs:List SV}(hk:m.get key=C (.cells cs tot ty))
  (hc: ∀(i j:Nat) (col:aE),i<n->az[j]?=C col->∃ v,cs[o+i*az.length+j]?=C v/\∀ E,v.val E=(col.at i).val E):zX m (.slc key o n cl c) ⟨C key,A,o,n,c,az⟩:=by
 refine⟨λE E' j h=>by simp[SV.val,Seen.sv,h key rfl],λΓ E nx w hs _=> ?_⟩;obtain⟨ob,ho,ce,fr,rfl,_,h4,_⟩:=hs.ny key _ hk rfl;refine⟨key,_,rfl,hk,rfl,_,ho,pK λi j col hi hj=> ?_⟩;obtain⟨v,g1,g2⟩:=hc i j col hi hj;rw[h4 _ _ g1,g2 E,aE.Ew col i E (λ_=>0)]
def Ah (l:List SV)(w:Nat):Nat->Nat->Option (List aE)
 | _,0=>C []
 | j,r+1=>match Hh l w j,Ah l w (j+1) r with
   | some c,C cs=>C (c::cs)
   | _,_=>I
theorem Ai {l:List SV}{w:Nat}: ∀ {r j:Nat} {az:List aE},Ah l w j r=C az->az.length=r/\∀(k:Nat) (c:aE),az[k]?=C c->Hh l w (j+k)=C c
 | 0,_,_,h=>by cases h;exact⟨rfl,λk c hc=>by simp at hc⟩
 | r+1,j,az,h=>by
   unfold Ah at h;split at h
   ·rename_i c cs h1 h2;cases h;obtain⟨g1,g2⟩:=Ai h2;refine⟨by simp[g1],λk d hd=> ?_⟩;cases k with
    | zero=>cases hd;exact h1
    | succ k =>have:=g2 k d (by simpa using hd);rw[show j+(k+1)=j+1+k by omega];exact this
   ·cases h
def rF (l:List SV)(w i j:Nat):List aE->Bool
 | []=>G
 | col::r=>Nat.blt (i*w+j) l.length&&kindOk col (l.getD (i*w+j) .cH)&&rF l w i (j+1) r
theorem yE {l:List SV}{w i:Nat}: ∀ {az:List aE} {j:Nat},rF l w i j az=G->∀(k:Nat) (c:aE),az[k]?=C c->i*w+(j+k)<l.length/\kindOk c (l.getD (i*w+(j+k)) .cH)=G
 | [],_,_,k,c,hc=>by simp at hc
 | d::r,j,h,k,c,hc=>by
   simp only[rF,O,er] at h;obtain⟨⟨h1,h2⟩,h3⟩:=h;cases k with
   | zero=>cases hc;exact⟨h1,h2⟩
   | succ k =>have:=yE h3 k c (by simpa using hc);rw[show j+(k+1)=j+1+k by omega];exact this
def CG (l:List SV)(w:Nat)(az:List aE):Nat->Bool
 | 0=>G
 | i+1=>rF l w i 0 az&&CG l w az i
theorem CH {l:List SV}{w:Nat}{az:List aE}: ∀ {n:Nat},CG l w az n=G->∀ i,i<n->rF l w i 0 az=G
 | 0,_,i,hi=>absurd hi (S _)
 | n+1,h,i,hi=>by
   simp only[CG,O] at h;by_cases e:i=n
   ·subst e;exact h.1
   ·exact CH h.2 i (by omega)
def yg (d:List aE)(m:Mem):SV->Option (Prop×Seen)
 | .aK=>C (True,⟨I,G,0,0,0,d⟩)
 | .bx key w z i n c=>(match m.get key with
   | some (.rows z' n' az _ _ _)=>if w=az.length then C ((match z,z' with
     | false,G=>0<n'/\i+n<=n'
     | z,z'=>z=z'/\i+n<=n'),⟨C key,z,i*w,n,c,eP i az⟩)else I
   | _=>I)
 | .aS key w z o i n c=>(match m.get key with
   | some (.view z' o' n' az)=>if w=az.length then C (z=z'/\o'=o/\i+n<=n',⟨C key,z,o+i*w,n,c,eP i az⟩)else I
   | _=>I)
 | .slc key o n _ c=>(match m.get key with
   | some (.cells cs _ _)=>(match n with
     | 0=>C (True,⟨C key,A,o,0,c,d⟩)
     | n+1=>(match Ah (cs.drop o) d.length 0 d.length with
       | some az=>if CG (cs.drop o) d.length az (n+1)=G then C (True,⟨C key,A,o,n+1,c,az⟩)else I
       | none=>I))
   | _=>I)
 | _=>I
theorem RC {d:List aE}{s:Seen}(h:yg d m v=C (p,s))(hp:p):zX m v s:=by
 unfold yg at h;split at h
 ·injection h with h;injection h with h1 h2;subst h2;exact VA m d
 ·rename_i key w z i n c;split at h
  ·rename_i z' n' az ro tot ty hk;split at h
   ·rename_i hc;subst hc;cases h;have hp:(z=z'∨0<n')/\i+n<=n':=by cases z<;>cases z'<;>first | exact⟨.inl hp.1,hp.2⟩ | exact⟨.inr hp.1,hp.2⟩
    exact QL hk hp.1 hp.2
   ·cases h
  ·cases h
 ·rename_i key w z o i n c;split at h
  ·rename_i z' o' n' az hk;split at h
   ·rename_i hc;subst hc;cases h;obtain⟨rfl,rfl,hp⟩:=hp;exact QM hk hp
   ·cases h
  ·cases h
 ·rename_i key o n cl c;split at h
  ·rename_i cs tot ty hk;split at h
   ·injection h with h;injection h with h1 h2;subst h2;exact seen_cells hk λi j col hi=>absurd hi (S _)
   ·rename_i n;split at h
    ·rename_i az hcols;split at h
     ·rename_i hall;injection h with h;injection h with h1 h2;subst h2;obtain⟨g1,g2⟩:=Ai hcols;refine seen_cells hk λi j col hi hj=> ?_;have h1:=g2 j col hj;obtain⟨h2,h3⟩:=yE (CH hall i hi) j col hj;rw[N] at h1 h2 h3;have h4:=O0 h1 h3;refine⟨(cs.drop o).getD (i*d.length+j) .cH,?_,h4⟩;rw[g1,Y,← List.getElem?_drop,cL,an h2];rfl
     ·cases h
    ·cases h
  ·cases h
 ·cases h
inductive W6 where
 | one
 | slice (d:List aE)
inductive zw where
 | of (h:W6)
 | agg (l:List W6)
abbrev Pk (α:Type):=Option (α×Prop×List Seen)
def By (m:Mem)(j:Nat)(h:W6)(v:SV):Pk SV:=match h with
 | .one=>if v.wf 0=G then C (y8 v,True,[])else I
 | .slice d=>match yg d m v with
   | some (p,s)=>C (s.sv j,p,[s])
   | none=>I
def xQ (m:Mem):Nat->List W6->List SV->Pk (List SV)
 | _,[],[]=>C ([],True,[])
 | j,h::hs,v::vs=>(match By m j h v with
   | some (v',p,l)=>(match xQ m (j+l.length) hs vs with
     | some (vs',q,r)=>C (v'::vs',p/\q,l++r)
     | none=>I)
   | none=>I)
 | _,_,_=>I
def DW (m:Mem)(j:Nat)(h:zw)(v:SV):Pk SV:=match h,v with
 | .of h,v=>By m j h v
 | .agg hs,.agg vs=>(match xQ m j hs vs with
   | some (vs',p,l)=>C (.agg vs',p,l)
   | none=>I)
 | _,_=>I
def o5 (m:Mem):Nat->List zw->List SV->Pk (List SV)
 | _,[],[]=>C ([],True,[])
 | j,h::hs,v::vs=>(match DW m j h v with
   | some (v',p,l)=>(match o5 m (j+l.length) hs vs with
     | some (vs',q,r)=>C (v'::vs',p/\q,l++r)
     | none=>I)
   | none=>I)
 | _,_,_=>I
def Names (E E':Nat->Nat)(j:Nat)(l:List Seen):Prop:=∀(i:Nat) (s:Seen),l[i]?=C s->∀ key,s.key=C key->E' (j+i)=E key
theorem Names.left {E':Nat->Nat}{l r:List Seen}(h:Names E E' j (l++r)):Names E E' j l:=λi s hi=>h i s (by rw[c4 (c6.1 hi).1];exact hi)
theorem Names.right {E':Nat->Nat}{l r:List Seen}(h:Names E E' j (l++r)):Names E E' (j+l.length) r:=λi s hi=>by rw[Y];exact h (l.length+i) s (by rw[c5 (by omega)];rw[ep];exact hi)
theorem I0 {h:W6}{l:List Seen}(e:By m j h v=C (v',p,l))(hp:p):(∀ E E',Names E E' j l->v.val E=v'.val E')/\∀ s∈ l,s.wG m:=by
 unfold By at e;split at e
 ·split at e
  ·rename_i hw;injection e with e;injection e with e1 e;injection e with e2 e3;subst e1;subst e3;exact⟨λE E' _=>by rw[Ei];exact SV.wq hw E E',λs hs=>by cases hs⟩
  ·cases e
 ·split at e
  ·rename_i q s hq;cases e;obtain⟨h1,h2⟩:=RC hq hp;exact⟨λE E' hn=>h1 E E' j λkey hk=>hn 0 s rfl key hk,λt ht=>by rw[List.mem_singleton] at ht;subst ht;exact h2⟩
  ·cases e
theorem DX {m:Mem}: ∀ {hs:List W6} {j:Nat} {vs vs':List SV} {p:Prop} {l:List Seen},xQ m j hs vs=C (vs',p,l)->p->(∀ E E',Names E E' j l->SV.vals E vs=SV.vals E' vs')/\∀ s∈ l,s.wG m
 | [],_,[],_,_,_,e,_=>by injection e with e;injection e with e1 e;injection e with e2 e3;subst e1;subst e3;exact⟨λ_ _ _=>rfl,λs hs=>by cases hs⟩
 | h::hs,j,v::vs,vs',p,l,e,hp=>by
   simp only[xQ] at e;split at e
   ·rename_i v1 p1 l1 h1;split at e
    ·rename_i vs2 p2 l2 h2;cases e;obtain⟨a1,a2⟩:=I0 h1 hp.1;obtain⟨b1,b2⟩:=DX h2 hp.2;refine⟨λE E' hn=>by simp only[SV.vals];rw[a1 E E' hn.left,b1 E E' hn.right],λs hs=> ?_⟩;rcases ej.1 hs with hs | hs
     ·exact a2 s hs
     ·exact b2 s hs
    ·cases e
   ·cases e
 | [],_,_::_,_,_,_,e,_=>by cases e
 | _::_,_,[],_,_,_,e,_=>by cases e
theorem U6 {h:zw}{l:List Seen}(e:DW m j h v=C (v',p,l))(hp:p):(∀ E E',Names E E' j l->v.val E=v'.val E')/\∀ s∈ l,s.wG m:=by
 unfold DW at e;split at e
 ·exact I0 e hp
 ·split at e
  ·rename_i vs' p' l' h';cases e;obtain⟨a1,a2⟩:=DX h' hp;exact⟨λE E' hn=>by simp only[SV.val];rw[a1 E E' hn],a2⟩
  ·cases e
 ·cases e
theorem DY {m:Mem}: ∀ {hs:List zw} {j:Nat} {vs vs':List SV} {p:Prop} {l:List Seen},o5 m j hs vs=C (vs',p,l)->p->(∀ E E',Names E E' j l->SV.vals E vs=SV.vals E' vs')/\∀ s∈ l,s.wG m
 | [],_,[],_,_,_,e,_=>by injection e with e;injection e with e1 e;injection e with e2 e3;subst e1;subst e3;exact⟨λ_ _ _=>rfl,λs hs=>by cases hs⟩
 | h::hs,j,v::vs,vs',p,l,e,hp=>by
   simp only[o5] at e;split at e
   ·rename_i v1 p1 l1 h1;split at e
    ·rename_i vs2 p2 l2 h2;cases e;obtain⟨a1,a2⟩:=U6 h1 hp.1;obtain⟨b1,b2⟩:=DY h2 hp.2;refine⟨λE E' hn=>by simp only[SV.vals];rw[a1 E E' hn.left,b1 E E' hn.right],λs hs=> ?_⟩;rcases ej.1 hs with hs | hs
     ·exact a2 s hs
     ·exact b2 s hs
    ·cases e
   ·cases e
 | [],_,_::_,_,_,_,e,_=>by cases e
 | _::_,_,[],_,_,_,e,_=>by cases e
def Tt (j:Nat)(h:W6)(v:SV)(l:List Seen):SV×Nat×List Seen:=match h,l with
 | .slice _,s::r=>(s.sv j,j+1,r)
 | _,l=>(v,j,l)
def E8:Nat->List W6->List SV->List Seen->List SV×Nat×List Seen
 | j,h::hs,v::vs,l=>match Tt j h v l with
   | (v',j',l')=>match E8 j' hs vs l' with
     | (vs',j'',l'')=>(v'::vs',j'',l'')
 | j,_,vs,l=>(vs,j,l)
def Tu (j:Nat)(h:zw)(v:SV)(l:List Seen):SV×Nat×List Seen:=match h,v with
 | .of h,v=>Tt j h v l
 | .agg hs,.agg vs=>(match E8 j hs vs l with
   | (vs',j',l')=>(.agg vs',j',l'))
 | _,v=>(v,j,l)
def E9:Nat->List zw->List SV->List Seen->List SV×Nat×List Seen
 | j,h::hs,v::vs,l=>match Tu j h v l with
   | (v',j',l')=>match E9 j' hs vs l' with
     | (vs',j'',l'')=>(v'::vs',j'',l'')
 | j,_,vs,l=>(vs,j,l)
theorem Hz {h:W6}{l:List Seen}(e:By m j h v=C (v',p,l))(r:List Seen):Tt j h v' (l++r)=(v',j+l.length,r):=by
 unfold By at e;split at e
 ·split at e
  ·injection e with e;injection e with e1 e;injection e with e2 e3;subst e1;subst e3;rfl
  ·cases e
 ·split at e
  ·injection e with e;injection e with e1 e;injection e with e2 e3;subst e1;subst e3;rfl
  ·cases e
theorem CX {m:Mem}: ∀ {hs:List W6} {j:Nat} {vs vs':List SV} {p:Prop} {l:List Seen},xQ m j hs vs=C (vs',p,l)->∀ r,E8 j hs vs' (l++r)=(vs',j+l.length,r)
 | [],_,[],_,_,_,e,r=>by injection e with e;injection e with e1 e;injection e with e2 e3;subst e1;subst e3;rfl
 | h::hs,j,v::vs,vs',p,l,e,r=>by
   simp only[xQ] at e;split at e
   ·rename_i v1 p1 l1 h1;split at e
    ·rename_i vs2 p2 l2 h2;cases e;have a:=Hz h1 (l2++r);have b:=CX h2 r;rw[b!];simp only[E8,a,b,Q,Y]
    ·cases e
   ·cases e
 | [],_,_::_,_,_,_,e,_=>by cases e
 | _::_,_,[],_,_,_,e,_=>by cases e
theorem Tv {h:zw}{l:List Seen}(e:DW m j h v=C (v',p,l))(r:List Seen):Tu j h v' (l++r)=(v',j+l.length,r):=by
 unfold DW at e;split at e
 ·exact Hz e r
 ·split at e
  ·rename_i vs' p' l' h';cases e;have a:=CX h' r;simp only[Tu,a]
  ·cases e
 ·cases e
theorem CY {m:Mem}: ∀ {hs:List zw} {j:Nat} {vs vs':List SV} {p:Prop} {l:List Seen},o5 m j hs vs=C (vs',p,l)->∀ r,E9 j hs vs' (l++r)=(vs',j+l.length,r)
 | [],_,[],_,_,_,e,r=>by injection e with e;injection e with e1 e;injection e with e2 e3;subst e1;subst e3;rfl
 | h::hs,j,v::vs,vs',p,l,e,r=>by
   simp only[o5] at e;split at e
   ·rename_i v1 p1 l1 h1;split at e
    ·rename_i vs2 p2 l2 h2;cases e;have a:=Tv h1 (l2++r);have b:=CY h2 r;rw[b!];simp only[E9,a,b,Q,Y]
    ·cases e
   ·cases e
 | [],_,_::_,_,_,_,e,_=>by cases e
 | _::_,_,[],_,_,_,e,_=>by cases e
def filled (sh:List zw)(vs:List SV)(l:List Seen):List SV:=(E9 0 sh vs l).1
theorem Pa {hs:List zw}{vs vs':List SV}{l:List Seen}(e:o5 m 0 hs vs=C (vs',p,l)):filled hs vs' l=vs':=by have:=CY e [];rw[cx] at this;unfold filled;rw[this]
def e8:Nat->List Seen->Mem
 | _,[]=>[]
 | j,s::r=>(j,s.B)::e8 (j+1) r
theorem dY: ∀ {l:List Seen} {j k:Nat} {B:SB},(e8 j l).get k=C B->∃ i s,k=j+i/\l[i]?=C s/\B=s.B
 | [],_,_,_,h=>by cases h
 | s::r,j,k,B,h=>by
   rcases Mem.fH h with ⟨rfl,rfl⟩ | ⟨_,h⟩
   ·exact⟨0,s,rfl,rfl,rfl⟩
   ·obtain⟨i,t,e1,e2,e3⟩:=dY h;exact⟨i+1,t,by omega,by simpa using e2,e3⟩
def vS (E:Nat->Nat)(l:List Seen)(j:Nat):Nat:=match l[j]? with
 | some s=>(match s.key with
   | some k=>E k
   | none=>0)
 | none=>0
theorem IA (E:Nat->Nat)(l:List Seen):Names E (vS E l) 0 l:=λi s hi key hk=>by simp only[vS,N,hi,hk]
theorem VB {l:List Seen}(h: ∀ s∈ l,s.wG m){Γ:bg}{nx:Nat}{w:World}(hs:aO Γ E m nx w) :
  aO (bg.at w (λ_=>False) hs.Az (λ_ _ h=>h)) (vS E l) (e8 0 l) l.length w:=by
 refine⟨λj B a hj hn=> ?_,λj j' B B' a hj hn hj' hn' hr=> ?_,λj B hj=> ?_,λj B a hj hn hro=> ?_,Ext.refl _ _,⟨a! _,λk hk=>absurd hk (S _)⟩,λD hD=>by cases hD⟩
 ·obtain⟨i,s,e1,e2,rfl⟩:=dY hj;rw[N] at e1;subst e1;obtain⟨hn1,rfl⟩:=(SB.iH (B:=s.B) rfl).1 hn;obtain⟨key,X,g1,g2,g3,ob,g4,g5⟩:=h s (List.mem_of_getElem? e2) Γ E nx w hs hn1;exact⟨ob,by simp only[vS,e2,g1];exact g4,g5 _⟩
 ·obtain⟨i,s,e1,e2,rfl⟩:=dY hj;obtain⟨i',s',e1',e2',rfl⟩:=dY hj';rcases hr with hr | hr<;>cases hr
 ·obtain⟨i,s,e1,e2,rfl⟩:=dY hj;have:=(c6.1 e2).1;omega
 ·obtain⟨i,s,e1,e2,rfl⟩:=dY hj;cases hro
noncomputable def bQ (sh:List zw)(spec:List SV->List Seen->Option (Prop×cN)):PT:=λargs m nx K=>match o5 m 0 sh args with
 | some (vs,p,l)=>(match spec vs l with
   | some (q,a)=>.and (.atom (p/\q)) (a.vc m nx K)
   | none=>.fail "arguments that nothing is said of")
 | none=>.fail "a slice that is not known"
theorem bR (sh:List zw)(spec:List SV->List Seen->Option (Prop×cN)):bq (bQ sh spec):=by
 intro args m nx K K' hK h;unfold bQ at h ⊢;split at h
 ·split at h
  ·exact⟨h.1,cN.pJ hK h.2⟩
  ·exact h
 ·exact h
theorem dN {f:FuncId}{fn:Func}(hf:P.funcs[f]?=C fn) (hn:(fn.name== "runtime.NumGoroutine")=A) (hb:fn.body.isSome=G)  {sh:List zw}
  {spec:List SV->List Seen->Option (Prop×cN)}
  (h: ∀ vs l q a,spec vs l=C (q,a)->q->∃ cfg,Good P cfg/\SV.e9 l.length (filled sh vs l)=G/\a.Ok/\av (fL P (calling P cfg n) [] zq (cfg.bh f) cfg.rounds fn (filled sh vs l) (e8 0 l) l.length (λv m _=>a.fit v m))):ax P f (bQ sh spec):=by
 intro args m nx K hk hwf hargs Γ E w hs;unfold bQ at hk;split at hk
 ·rename_i vs p l hx;split at hk
  ·rename_i q a hq;obtain⟨⟨hxp,hqq⟩,hk⟩:=hk;obtain⟨cfg,hg,h1,h2,h3⟩:=h _ _ _ _ hq hqq;rw[Pa hx] at h1 h3;obtain⟨e1,e2⟩:=DY hx hxp;have hwm: ∀(j:Nat) (l:List Seen),Mem.wf l.length (e8 j l)=true:=by
    intro j l;have: ∀(j n:Nat) (l:List Seen),Mem.wf n (e8 j l)=true:=by
     intro j n l;induction l generalizing j with
     | nil=>rfl
     | cons s r ih=>simp only[e8,Mem.wf,O];exact⟨rfl,ih _⟩
    exact this j _ l
   have hc:=dS hg hf hn hb h3 (hwm 0 l) h1 (VB e2 hs);rw[← e1 E _ (IA E l)] at hc;refine eF hf hn hb (hc.mono ?_);rintro e w' ⟨v,rfl,E',sv,m',nx',_,_,g3,g4,g5⟩;refine⟨v,rfl,?_⟩;cases sv with
   | none=>exact g5.elim
   | some u=>rw[g3 u rfl];exact cN.told hs hwf g4 h2 g5 hk
  ·exact hk.elim
 ·exact hk.elim
end Sx
section
open Go Sx
set_option maxRecDepth 20000
noncomputable def fN (cfg:dK)(f:Nat)(fn:Func)(args:List SV)(l:List Seen)(a:cN):VC:=fL M (calling M cfg 20) [] zq (cfg.bh f) cfg.rounds fn args (e8 0 l) l.length (λv m _=>a.fit v m)
def X5:PT:=λ_ _ _ _=>.fail "not to be called"
theorem X6 (f:FuncId):ax P f X5:=λ_ _ _ _ h=>h.elim
theorem Qj:bq X5:=λ_ _ _ _ _ _ h=>h
def LA (m:Mem)(v:SV):Option (List e_):=match v with
 | .slc key o n _ _=>(match m.get key with
   | some (.cells cs _ _)=>strCells ((cs.drop o).take n)
   | _=>I)
 | _=>I
theorem JH {cs:List SV}{l:List e_}(h:strCells (cs.take n)=C l)(hn:n<=cs.length):bW (λi=>Oy (cs.getD (i*1+0) .cH)) 0 n=l:=by
 obtain⟨g1,g2⟩:=vZ h;rw[List.length_take] at g1;apply cB;intro i;by_cases hi:i<n
 ·have hl:i<l.length:=by omega
  obtain⟨b,hb⟩:=g2 i _ (an hl);rw[List.getElem?_take_of_lt hi] at hb;unfold bW;rw[c_,c! hi,an hl];simp only[eu,N,Nat.mul_one,Nat.add_zero,cL,hb,Option.getD_some,Oy]
 ·rw[V (by rw[gQ];omega),V (by omega)]
theorem OM {l:List SV}(hc:0<az.length): ∀ {n:Nat},CG l 1 az n=G->n<=l.length
 | 0,_=>a! _
 | i+1,h=>by
   simp only[CG,O] at h;cases az with
   | nil=>simp at hc
   | cons c r =>have:=h.1;simp only[rF,O,er] at this;omega
theorem PC {s:Seen}{f:Nat->e_}{l:List e_}(h:yg [.str λ_=>[]] m v=C (p,s))(hc:s.az=[.str f])(hl:LA m v=C l):bW f 0 s.n=l:=by
 unfold LA at hl;split at hl
 ·rename_i key o n cl c;simp only[yg] at h;split at h
  ·rename_i cs tot ty hk;rw[hk] at hl;simp only at hl;cases n with
   | zero =>injection h with h;injection h with h1 h2;subst h2;simp[strCells] at hl;subst hl;rfl
   | succ n =>
     simp only at h;split at h
     ·rename_i az hcols;split at h
      ·rename_i hall;injection h with h;injection h with h1 h2;subst h2;simp only at hc;subst hc;simp only[d_,d!,N,Ah] at hcols;split at hcols
       ·rename_i a b ha hb;cases hb;injection hcols with e;injection e with e _;subst e;have hlen:=OM (by simp) hall;unfold Hh at ha;split at ha
        ·cases ha
        ·cases ha
        ·cases ha;exact JH hl hlen
        ·cases ha
       ·cases hcols
      ·cases h
     ·cases h
  ·cases h
 ·cases hl
noncomputable def kU (q:List e_->Prop)(g:List e_->SV):PT:=λargs m nx K=>match args with
 | [v]=>(match yg [.str λ_=>[]] m v with
   | some (p,s)=>(match s.az with
     | [.str f]=>(match LA m v with
       | some l=>.and (.atom (p/\q l)) (K (g l) m nx)
       | none=>.and (.atom (p/\q (bW f 0 s.n))) (K (g (bW f 0 s.n)) m nx))
     | _=>.fail "texts that are not known")
   | none=>.fail "texts that are not known")
 | _=>.fail "arguments"
theorem kH (q:List e_->Prop)(g:List e_->SV):bq (kU q g):=by
 intro args m nx K K' hK h;unfold kU at h ⊢;split at h
 ·split at h
  ·split at h
   ·split at h<;>exact⟨h.1,hK _ _ _ h.2⟩
   ·exact h
  ·exact h
 ·exact h
def shS:List zw:=[.of (.slice [.str λ_=>[]])]
def rowOf (vs:List SV)(l:List Seen):Option (Nat×(Nat->e_)×Bool×Nat×Nat×Option Nat):=match vs,l with
 | [_],[⟨key,z,o,n,c,[.str f]⟩]=>C (n,f,z,o,c,key)
 | _,_=>I
theorem BO {vs:List SV}{l:List Seen}{f:Nat->e_}{key:Option Nat}(h:rowOf vs l=C (n,f,z,o,c,key)):filled shS vs l=[.aS 0 1 z o 0 n c]/\l=[⟨key,z,o,n,c,[.str f]⟩]:=by
 unfold rowOf at h;split at h
 ·injection h with h;injection h with h1 h;injection h with h2 h;injection h with h3 h;injection h with h4 h;injection h with h5 h6;subst h1;subst h2;subst h3;subst h4;subst h5;subst h6;exact⟨rfl,rfl⟩
 ·cases h
def v8 (q:List e_->Prop)(g:List e_->SV)(vs:List SV)(l:List Seen):Option (Prop×cN):=match rowOf vs l with
 | some (n,f,_)=>C (q (bW f 0 n),.ret (g (bW f 0 n)))
 | none=>I
theorem GJ {f:FuncId}{q:List e_->Prop}{g:List e_->SV}(h:ax P f (bQ shS (v8 q g))):ax P f (kU q g):=by
 intro args m nx K hk hwf hargs Γ E w hs;refine h args m nx K ?_ hwf hargs Γ E w hs;unfold kU at hk;split at hk
 ·rename_i v;split at hk
  ·rename_i p s hv;split at hk
   ·rename_i f' hc;have hk:(VC.and (.atom (p/\q (bW f' 0 s.n))) (K (g (bW f' 0 s.n)) m nx)).holds:=by
     split at hk
     ·rename_i l hl;rw[PC hv hc hl];exact hk
     ·exact hk
    obtain⟨key,z,o,n,c,az⟩:=s;simp only at hc;subst hc;have e:o5 m 0 shS [v]=C ([(⟨key,z,o,n,c,[.str f']⟩:Seen).sv 0],(p/\True),[⟨key,z,o,n,c,[.str f']⟩]):=by simp only[shS,o5,DW,By,hv,cx]
    unfold bQ;rw[e];exact⟨⟨⟨hk.1.1,trivial⟩,hk.1.2⟩,hk.2⟩
   ·exact hk.elim
  ·exact hk.elim
 ·exact hk.elim
noncomputable def runT (cfg:dK)(f:Nat)(fn:Func)(n:Nat)(F:Nat->e_)(z:Bool)(o c:Nat)(key:Option Nat)(g:List e_->SV):VC :=fN cfg f fn [.aS 0 1 z o 0 n c] [⟨key,z,o,n,c,[.str F]⟩] (.ret (g (bW F 0 n)))
def Eb (n:Int):e_:=[H (n / 72057594037927936% 256).toNat,H (n / 281474976710656% 256).toNat,H (n / 1099511627776% 256).toNat,H (n / 4294967296% 256).toNat,H (n / 16777216% 256).toNat,H (n / 65536% 256).toNat,H (n / 256% 256).toNat,H (n / 1% 256).toNat]
def iw (T:e_):Nat:=(119 - T.length% 64)% 64
def Ee (T:e_):e_:=128::(aA (iw T) 0++Eb ((T.length:Int)% 18446744073709551616*8% 18446744073709551616))
def bA (T:e_):e_:=T++Ee T
def ade (W:Nat->Int):e_:=[H (W 0 / 16777216% 256).toNat,H (W 0 / 65536% 256).toNat,H (W 0 / 256% 256).toNat,H (W 0% 256).toNat,H (W 1 / 16777216% 256).toNat,H (W 1 / 65536% 256).toNat,H (W 1 / 256% 256).toNat,H (W 1% 256).toNat,H (W 2 / 16777216% 256).toNat,H (W 2 / 65536% 256).toNat,H (W 2 / 256% 256).toNat,H (W 2% 256).toNat,H (W 3 / 16777216% 256).toNat,H (W 3 / 65536% 256).toNat,H (W 3 / 256% 256).toNat,H (W 3% 256).toNat,H (W 4 / 16777216% 256).toNat,H (W 4 / 65536% 256).toNat,H (W 4 / 256% 256).toNat,H (W 4% 256).toNat,H (W 5 / 16777216% 256).toNat,H (W 5 / 65536% 256).toNat,H (W 5 / 256% 256).toNat,H (W 5% 256).toNat,H (W 6 / 16777216% 256).toNat,H (W 6 / 65536% 256).toNat,H (W 6 / 256% 256).toNat,H (W 6% 256).toNat,H (W 7 / 16777216% 256).toNat,H (W 7 / 65536% 256).toNat,H (W 7 / 256% 256).toNat,H (W 7% 256).toNat]
def b7 (T:e_):e_:=ade (aC (bA T) ((bA T).length / 64))
noncomputable def LK:List (FuncId×PT):=(60,pS x9 ym)::dW
theorem DB:aQ M (λf=>ay f LK):=.cons W3 (oD _ _) cW
noncomputable def Nt:dK:={bE with cm:=λf=>ay f LK}
theorem aa5:Sx.Good M Nt:=.of bz DB aU
def GK:List SV->Option (Sh×e_->Prop×(Unit->Prop×SV×(Sh×e_)))
 | [.ptr 0 G 0]=>C λg=>(CE g.1 g.2/\g.2.length<1152921504606846976,λ_=>(True,.str A (b7 g.2),g))
 | _=>I
noncomputable def Ux:List (FuncId×PT):=(61,pS x9 GK)::LK
noncomputable def acK (n:Nat)(f:Nat->e_):aX :={α:=Nat×Sh,pre:=λ_ x=>x.1<=n/\CE x.2 (flat (bW f 0 x.1)),jx:=λ_ x=>n - x.1,fresh:=0,slots:=λ_ x=>[(9,.int .i64 A x.1)],mem:=λ_ x=>[(1,x.2.sb)]}
noncomputable def SZ (n:Nat)(f:Nat->e_):dK:={bE with cm:=λf=>ay f Ux,bh:=λg=>if g=25 then [(3,always (acK n f))] else []}
def IQ (l:List e_):Prop:=(flat l).length<1152921504606846976/\l.length<1152921504606846976
def ofG (l:List e_):SV:=.str A (b7 (flat l))
theorem adz (x:Sh)(T:e_):VC.holds (q7 Nt 61 ag [.ptr 0 G 0] x9 (x,T) (λ_:Unit=>(True,.str A (b7 T),(x,T))))=((λd:Nat->SV=>((λf:Nat->SV=>((λe:Nat->(Sh×e_)->SV=>((λg:Nat->(Sh×e_)->SV=>((((-9223372036854775808:Int)<=119 - x.held/\119 - x.held<=9223372036854775807)/\((0:Int)<=119 - x.held/\119 - x.held<=9223372036854775807/\(0:Int)<(64:Int))/\I6 (1+(119 - x.held)% 64)/\I6 (1+(119 - x.held)% 64+(8:Int))/\(1+(119 - x.held)% 64+(8:Int)=1+(119 - x.held)% 64+(8:Int)/\(0:Int)<=1+(119 - x.held)% 64+(8:Int)/\1*(1+(119 - x.held)% 64+(8:Int))<=140737488355328/\1+(119 - x.held)% 64+(8:Int)<=(9223372036854775807:Int))/\((0:Int)<=(0:Int)/\0<(↑(1+(119 - x.held)% 64+(8:Int)).toNat:Int))/\0<(1+(119 - x.held)% 64+(8:Int)).toNat/\I6 (1+(119 - x.held)% 64)/\I6 (1+(119 - x.held)% 64+(0:Int))/\((0:Int)<=1+(119 - x.held)% 64+(0:Int) /\1+(119 - x.held)% 64+0<(↑(1+(119 - x.held)% 64+(8:Int)).toNat:Int))/\0+(1+(119 - x.held)% 64+(0:Int)).toNat<(1+(119 - x.held)% 64+(8:Int)).toNat/\I6 (1+(119 - x.held)% 64)/\I6 (1+(119 - x.held)% 64+(1:Int))/\((0:Int)<=1+(119 - x.held)% 64+(1:Int)/\1+(119 - x.held)% 64+1<(↑(1+(119 - x.held)% 64+(8:Int)).toNat:Int))/\0+(1+(119 - x.held)% 64+(1:Int)).toNat<(1+(119 - x.held)% 64+(8:Int)).toNat/\I6 (1+(119 - x.held)% 64)/\I6 (1+(119 - x.held)% 64+(2:Int))/\((0:Int)<=1+(119 - x.held)% 64+(2:Int)/\1+(119 - x.held)% 64+2<(↑(1+(119 - x.held)% 64+(8:Int)).toNat:Int))/\0+(1+(119 - x.held)% 64+(2:Int)).toNat<(1+(119 - x.held)% 64+(8:Int)).toNat /\I6 (1+(119 - x.held)% 64)/\I6 (1+(119 - x.held)% 64+(3:Int))/\((0:Int)<=1+(119 - x.held)% 64+(3:Int)/\1+(119 - x.held)% 64+3<(↑(1+(119 - x.held)% 64+(8:Int)).toNat:Int))/\0+(1+(119 - x.held)% 64+(3:Int)).toNat<(1+(119 - x.held)% 64+(8:Int)).toNat/\I6 (1+(119 - x.held)% 64)/\I6 (1+(119 - x.held)% 64+(4:Int))/\((0:Int)<=1+(119 - x.held)% 64+(4:Int)/\1+(119 - x.held)% 64+4<(↑(1+(119 - x.held)% 64+(8:Int)).toNat:Int))/\0+(1+(119 - x.held)% 64+(4:Int)).toNat<(1+(119 - x.held)% 64+(8:Int)).toNat/\I6 (1+(119 - x.held)% 64)/\((-9223372036854775808:Int)<=1+(119 - x.held)% 64+(5:Int) /\1+(119 - x.held)% 64+(5:Int)<=(9223372036854775807:Int))/\((0:Int)<=1+(119 - x.held)% 64+(5:Int)/\1+(119 - x.held)% 64+5<(↑(1+(119 - x.held)% 64+(8:Int)).toNat:Int))/\0+(1+(119 - x.held)% 64+(5:Int)).toNat<(1+(119 - x.held)% 64+(8:Int)).toNat/\I6 (1+(119 - x.held)% 64)/\I6 (1+(119 - x.held)% 64+(6:Int))/\((0:Int)<=1+(119 - x.held)% 64+(6:Int)/\1+(119 - x.held)% 64+6<(↑(1+(119 - x.held)% 64+(8:Int)).toNat:Int))/\0+(1+(119 - x.held)% 64+(6:Int)).toNat<(1+(119 - x.held)% 64+(8:Int)).toNat/\I6 (1+(119 - x.held)% 64)/\I6 (1+(119 - x.held)% 64+(7:Int))/\((0:Int)<=1+(119 - x.held)% 64+(7:Int)/\1+(119 - x.held)% 64+7<(↑(1+(119 - x.held)% 64+(8:Int)).toNat:Int)) /\0+(1+(119 - x.held)% 64+(7:Int)).toNat<(1+(119 - x.held)% 64+(8:Int)).toNat/\0+(1+(119 - x.held)% 64+(8:Int)).toNat<=(1+(119 - x.held)% 64+(8:Int)).toNat /\∃(a:Sh×e_),ah (SB.cells (d 0::d 1::d 2::d 3::d 4::d 5::d 6::d 7::uD f [SV.int .i64 A x.held,SV.int .u64 A x.size]) 74 171) (SB.cells (e 0 a::e 1 a::e 2 a::e 3 a::e 4 a::e 5 a::e 6 a::e 7 a::uD (λi=>g i a) [SV.int .i64 A a.1.held,SV.int .u64 A a.1.size]) 74 171) /\(CE a.1 a.2 /\(bD (fun(b:Nat)=>if b=0+(1+(119 - x.held)% 64+(7:Int)).toNat then x.size*8% (18446744073709551616:Int) / (1:Int)% (256:Int)else if b=0+(1+(119 - x.held)% 64+(6:Int)).toNat then x.size*8% (18446744073709551616:Int) / (256:Int)% (256:Int)else if b=0+(1+(119 - x.held)% 64+(5:Int)).toNat then x.size*8% (18446744073709551616:Int) / (65536:Int)% (256:Int)else if b=0+(1+(119 - x.held)% 64+(4:Int)).toNat then x.size*8% (18446744073709551616:Int) / (16777216:Int)% (256:Int)else if b=0+(1+(119 - x.held)% 64+(3:Int)).toNat then x.size*8% (18446744073709551616:Int) / (4294967296:Int)% (256:Int)else if b=0+(1+(119 - x.held)% 64+(2:Int)).toNat then x.size*8% (18446744073709551616:Int) / (1099511627776:Int)% (256:Int)else if b=0+(1+(119 - x.held)% 64+(1:Int)).toNat then x.size*8% (18446744073709551616:Int) / (281474976710656:Int)% (256:Int)else if b=0+(1+(119 - x.held)% 64+(0:Int)).toNat then x.size*8% (18446744073709551616:Int) / (72057594037927936:Int)% (256:Int)else if b=0 then 128 else 0) 0 (1+(119 - x.held)% 64+(8:Int)).toNat).length<1152921504606846976) /\∀(u2:Sh),CE u2 (a.2++bD (fun(c:Nat)=>if c=0+(1+(119 - x.held)% 64+(7:Int)).toNat then x.size*8% (18446744073709551616:Int) / (1:Int)% (256:Int)else if c=0+(1+(119 - x.held)% 64+(6:Int)).toNat then x.size*8% (18446744073709551616:Int) / (256:Int)% (256:Int)else if c=0+(1+(119 - x.held)% 64+(5:Int)).toNat then x.size*8% (18446744073709551616:Int) / (65536:Int)% (256:Int)else if c=0+(1+(119 - x.held)% 64+(4:Int)).toNat then x.size*8% (18446744073709551616:Int) / (16777216:Int)% (256:Int)else if c=0+(1+(119 - x.held)% 64+(3:Int)).toNat then x.size*8% (18446744073709551616:Int) / (4294967296:Int)% (256:Int)else if c=0+(1+(119 - x.held)% 64+(2:Int)).toNat then x.size*8% (18446744073709551616:Int) / (1099511627776:Int)% (256:Int)else if c=0+(1+(119 - x.held)% 64+(1:Int)).toNat then x.size*8% (18446744073709551616:Int) / (281474976710656:Int)% (256:Int)else if c=0+(1+(119 - x.held)% 64+(0:Int)).toNat then x.size*8% (18446744073709551616:Int) / (72057594037927936:Int)% (256:Int)else if c=0 then 128 else 0) 0 (1+(119 - x.held)% 64+(8:Int)).toNat) ->∃(_:Unit),True/\ah (x9 (x,T)) (x9 (x,T)) /\aa (SV.str (A&&(A&&(A&&(A&&(A&&(A&&(A&&(A&&(A&&(A&&(A&&(A&&(A&&(A&&(A&&(A&&(A&&(A&&(A&&(A&&(A&&(A&&(A&&(A&&(A&&(A&&(A&&(A&&(A&&(A&&(A&&(A&&G)))))))))))))))))))))))))))))))) [H (u2.W 0 / 16777216% (256:Int)).toNat,H (u2.W 0 / 65536% (256:Int)).toNat,H (u2.W 0 / 256% (256:Int)).toNat,H (u2.W 0% 256).toNat,H (u2.W 1 / 16777216% (256:Int)).toNat,H (u2.W 1 / 65536% (256:Int)).toNat,H (u2.W 1 / 256% (256:Int)).toNat,H (u2.W 1% 256).toNat,H (u2.W 2 / 16777216% (256:Int)).toNat,H (u2.W 2 / 65536% (256:Int)).toNat,H (u2.W 2 / 256% (256:Int)).toNat,H (u2.W 2% 256).toNat,H (u2.W 3 / 16777216% (256:Int)).toNat,H (u2.W 3 / 65536% (256:Int)).toNat,H (u2.W 3 / 256% (256:Int)).toNat,H (u2.W 3% 256).toNat,H (u2.W 4 / 16777216% (256:Int)).toNat,H (u2.W 4 / 65536% (256:Int)).toNat,H (u2.W 4 / 256% (256:Int)).toNat,H (u2.W 4% 256).toNat,H (u2.W 5 / 16777216% (256:Int)).toNat,H (u2.W 5 / 65536% (256:Int)).toNat,H (u2.W 5 / 256% (256:Int)).toNat,H (u2.W 5% 256).toNat,H (u2.W 6 / 16777216% (256:Int)).toNat,H (u2.W 6 / 65536% (256:Int)).toNat,H (u2.W 6 / 256% (256:Int)).toNat,H (u2.W 6% 256).toNat,H (u2.W 7 / 16777216% (256:Int)).toNat,H (u2.W 7 / 65536% (256:Int)).toNat,H (u2.W 7 / 256% (256:Int)).toNat,H (u2.W 7% 256).toNat]) (SV.str A (b7 T))))) (fun(n0:Nat) (a:Sh×e_)=>SV.int .u8 A (a.1.B n0)))) (fun(n0:Nat) (a:Sh×e_)=>SV.int .u32 A (a.1.W n0)))) (fun(n0:Nat)=>SV.int .u8 A (x.B n0)))) (fun(n0:Nat)=>SV.int .u32 A (x.W n0))):=by kernel_rfl
theorem ad2 (n:Nat)(f:Nat->e_)(z:Bool)(o c:Nat)(key:Option Nat):VC.holds (fN (SZ n f) 25 Z [.aS 0 1 z o 0 n c] [⟨key,z,o,n,c,[.str f]⟩] (.ret (.str A (b7 (flat (bW f 0 n))))))=((λh:Nat->SV=>((λj:Nat->(Nat×Sh)->SV=>((λs:Nat->(Nat×Sh)->SV=>((λk:Nat->(Nat×Sh)->SV=>((λt:Nat->(Nat×Sh)->SV=>((λl:Nat->(Sh×e_)->SV=>((λu:Nat->(Sh×e_)->SV=>((λm:Nat->(Sh)->SV=>((λv:Nat->(Sh)->SV=>((λp:Nat->(Nat×Sh)->SV=>((λw:Nat->(Nat×Sh)->SV=>((λq:Nat->(Sh×e_)->SV=>((λx:Nat->(Sh×e_)->SV=>((λr:(Nat×Sh)->SB=>(((∃(b:Nat×Sh),(b.1<=n/\CE b.2 (flat (bW f 0 b.1)))/\0=(b.1:Int) /\ah (SB.cells (h 1779033703::h 3144134277::h 1013904242::h 2773480762::h 1359893119::h 2600822924::h 528734635::h 1541459225::uD (λ_=>SV.int .u8 G 0) [SV.int .i64 G 0,SV.int .u64 G 0]) 74 171) (SB.cells (j 0 b::j 1 b::j 2 b::j 3 b::j 4 b::j 5 b::j 6 b::j 7 b::uD (λi=>s i b) [SV.int .i64 A b.2.held,SV.int .u64 A b.2.size]) 74 171) /\ah {key:=key,z:=z,o:=o,n:=n,c:=c,az:=[aE.str f]:Seen}.B {key:=key,z:=z,o:=o,n:=n,c:=c,az:=[aE.str f]:Seen}.B/\True)/\∀(a:Nat×Sh),a.1<=n/\CE a.2 (flat (bW f 0 a.1))->(decide ((a.1:Int)<(n:Int))=G->(0<=(a.1:Int)/\(a.1:Int)<(n:Int))/\(o=o/\0+(a.1:Int).toNat<n) /\∃(e:Sh×e_),ah (r a) (SB.cells (l 0 e::l 1 e::l 2 e::l 3 e::l 4 e::l 5 e::l 6 e::l 7 e::uD (λi=>u i e) [SV.int .i64 A e.1.held,SV.int .u64 A e.1.size]) 74 171)/\(CE e.1 e.2/\(f (0+(a.1:Int).toNat)).length<1152921504606846976)/\∀(g:Sh),CE g (e.2++f (0+(a.1:Int).toNat))->I6 ((a.1:Int)+1)/\∃(u2:Nat×Sh),((u2.1<=n/\CE u2.2 (flat (bW f 0 u2.1)))/\n - u2.1<n - a.1) /\(a.1:Int)+1=(u2.1:Int) /\ah (SB.cells (m 0 g::m 1 g::m 2 g::m 3 g::m 4 g::m 5 g::m 6 g::m 7 g::uD (λi=>v i g) [SV.int .i64 A g.held,SV.int .u64 A g.size]) 74 171) (SB.cells (p 0 u2::p 1 u2::p 2 u2::p 3 u2::p 4 u2::p 5 u2::p 6 u2::p 7 u2::uD (λi=>w i u2) [SV.int .i64 A u2.2.held,SV.int .u64 A u2.2.size]) 74 171) /\ah {key:=key,z:=z,o:=o,n:=n,c:=c,az:=[aE.str f]:Seen}.B {key:=key,z:=z,o:=o,n:=n,c:=c,az:=[aE.str f]:Seen}.B/\True)/\(decide ((a.1:Int)<(n:Int))=A->∃(d:Sh×e_),ah (r a) (SB.cells (q 0 d::q 1 d::q 2 d::q 3 d::q 4 d::q 5 d::q 6 d::q 7 d::uD (λi=>x i d) [SV.int .i64 A d.1.held,SV.int .u64 A d.1.size]) 74 171)/\(CE d.1 d.2/\d.2.length<1152921504606846976)/\∀(_:Unit),True ->aa (JT 1 (SV.str A (b7 d.2))) (SV.str A (b7 (flat (bW f 0 n)))))))) (fun(a:Nat×Sh)=>(SB.cells (k 0 a::k 1 a::k 2 a::k 3 a::k 4 a::k 5 a::k 6 a::k 7 a::uD (λi=>t i a) [SV.int .i64 A a.2.held,SV.int .u64 A a.2.size]) 74 171)))) (fun(n0:Nat) (d:Sh×e_)=>SV.int .u8 A (d.1.B n0)))) (fun(n0:Nat) (d:Sh×e_)=>SV.int .u32 A (d.1.W n0)))) (fun(n0:Nat) (u2:Nat×Sh)=>SV.int .u8 A (u2.2.B n0)))) (fun(n0:Nat) (u2:Nat×Sh)=>SV.int .u32 A (u2.2.W n0)))) (fun(n0:Nat) (g:Sh)=>SV.int .u8 A (g.B n0)))) (fun(n0:Nat) (g:Sh)=>SV.int .u32 A (g.W n0)))) (fun(n0:Nat) (e:Sh×e_)=>SV.int .u8 A (e.1.B n0)))) (fun(n0:Nat) (e:Sh×e_)=>SV.int .u32 A (e.1.W n0)))) (fun(n0:Nat) (a:Nat×Sh)=>SV.int .u8 A (a.2.B n0)))) (fun(n0:Nat) (a:Nat×Sh)=>SV.int .u32 A (a.2.W n0)))) (fun(n0:Nat) (b:Nat×Sh)=>SV.int .u8 A (b.2.B n0)))) (fun(n0:Nat) (b:Nat×Sh)=>SV.int .u32 A (b.2.W n0)))) (fun(n0:Nat)=>SV.int .u32 G n0)):=by kernel_rfl
theorem Oz (z:Nat)(n:Int):bD (fun(j:Nat)=>if j=0+(1+(z:Int)+7).toNat then n / 1% 256 else if j=0+(1+(z:Int)+6).toNat then n / 256% 256 else if j=0+(1+(z:Int)+5).toNat then n / 65536% 256 else if j=0+(1+(z:Int)+4).toNat then n / 16777216% 256 else if j=0+(1+(z:Int)+3).toNat then n / 4294967296% 256 else if j=0+(1+(z:Int)+2).toNat then n / 1099511627776% 256 else if j=0+(1+(z:Int)+1).toNat then n / 281474976710656% 256 else if j=0+(1+(z:Int)+0).toNat then n / 72057594037927936% 256 else if j=0 then 128 else 0) 0 (1+(z:Int)+8).toNat
  = 128::(aA z 0++Eb n):=by
 rw[show(1+(z:Int)+8).toNat=z+9 by omega,show 0+(1+(z:Int)+7).toNat=z+8 by omega,show 0+(1+(z:Int)+6).toNat=z+7 by omega,show 0+(1+(z:Int)+5).toNat=z+6 by omega,
  show 0+(1+(z:Int)+4).toNat=z+5 by omega,show 0+(1+(z:Int)+3).toNat=z+4 by omega,show 0+(1+(z:Int)+2).toNat=z+3 by omega,show 0+(1+(z:Int)+1).toNat=z+2 by omega,show 0+(1+(z:Int)+0).toNat=z+1 by omega]
 apply cB;intro i;unfold bD;rw[c_];by_cases hi:i<z+9
 ·rw[c! hi];simp only[eu,N];cases i with
  | zero =>rw[if_neg (by omega),if_neg (by omega),if_neg (by omega),if_neg (by omega),if_neg (by omega),if_neg (by omega),if_neg (by omega),if_neg (by omega),if_pos rfl];rfl
  | succ i =>
    rw[List.getElem?_cons_succ];by_cases hz:i<z
    ·rw[c4 (by simpa using hz),List.getElem?_replicate,if_pos hz,if_neg (by omega),if_neg (by omega),if_neg (by omega),if_neg (by omega),if_neg (by omega),if_neg (by omega),if_neg (by omega),if_neg (by omega),if_neg (by omega)];rfl
    ·rw[c5 (by simp;omega),ef];obtain⟨k,rfl⟩: ∃ k,i=z+k:=⟨i - z,by omega⟩
     rw[ep];have hk:k=0∨k=1∨k=2∨k=3∨k=4∨k=5∨k=6∨k=7:=by omega
     rcases hk with rfl | rfl | rfl | rfl | rfl | rfl | rfl | rfl
     ·rw[if_neg (by omega),if_neg (by omega),if_neg (by omega),if_neg (by omega),if_neg (by omega),if_neg (by omega),if_neg (by omega),if_pos (by omega)];rfl
     ·rw[if_neg (by omega),if_neg (by omega),if_neg (by omega),if_neg (by omega),if_neg (by omega),if_neg (by omega),if_pos (by omega)];rfl
     ·rw[if_neg (by omega),if_neg (by omega),if_neg (by omega),if_neg (by omega),if_neg (by omega),if_pos (by omega)];rfl
     ·rw[if_neg (by omega),if_neg (by omega),if_neg (by omega),if_neg (by omega),if_pos (by omega)];rfl
     ·rw[if_neg (by omega),if_neg (by omega),if_neg (by omega),if_pos (by omega)];rfl
     ·rw[if_neg (by omega),if_neg (by omega),if_pos (by omega)];rfl
     ·rw[if_neg (by omega),if_pos (by omega)];rfl
     ·rw[if_pos (by omega)];rfl
 ·rw[V (by simpa using hi),V (by simp[Eb];omega)];rfl
theorem Ef (T:e_):(Ee T).length<100:=by simp only[Ee,Eb,d_,Q,ef,d!,iw];omega
theorem Rc {x:Sh}{T:e_}(hx:CE x T)(_hT:T.length<1152921504606846976) :
  av (q7 Nt 61 ag [.ptr 0 G 0] x9 (x,T) (λ_:Unit=>(True,.str A (b7 T),(x,T)))):=by
 refine av.of_eq (adz x T) ?_;dsimp only;have hh:=hx.1.h;have hz:(119 - x.held)% 64=(iw T:Int):=by rw[hh];unfold iw;omega
 have hl:iw T<64:=Nat.mod_lt _ (by decide);have hb:x.held<64/\0<=x.held:=by omega
 have hs:=hx.2;have ht:Ee T=128::(aA (iw T) 0++Eb (x.size*8% 18446744073709551616)):=by rw[hs];rfl
 rw[hz];refine⟨by omega,by omega,by omega,by omega,by omega,by omega,by omega,by omega,by omega,by omega,by omega,by omega,by omega,by omega,by omega,by omega,by omega,by omega,by omega,by omega,by omega,by omega,by omega,by omega,by omega,by omega,by omega,by omega,by omega,by omega,by omega,by omega,by omega,by omega,by omega,by omega,by omega,by omega,by omega,by omega,(x,T),ah.refl _,⟨hx,?_⟩,λy hy=>⟨(),trivial,ah.refl _,?_⟩⟩
 ·rw[Oz,← ht];have:=Ef T;omega
 ·rw[Oz,← ht] at hy;have hy:CE y (bA T):=hy;have w:=hy.1.w;refine cv ?_;unfold b7 ade;rw[← w 0 (by decide),← w 1 (by decide),← w 2 (by decide),← w 3 (by decide),← w 4 (by decide),← w 5 (by decide),← w 6 (by decide),← w 7 (by decide)]
theorem abW:ax M 61 (pS x9 GK):=by
 refine EB (n:=20) (fn:=ag) Tryz.func61 (by kernel_rfl) (by kernel_rfl) Ou ?_;intro args g x h hp;unfold GK at h;split at h
 ·cases h;obtain⟨x,T⟩:=x;exact⟨Nt,[.ptr 0 G 0],aa5,λE=>rfl,rfl,λ_=>rfl,Rc hp.1 hp.2⟩
 ·cases h
theorem PS:aQ M (λf=>ay f Ux):=.cons abW (oD _ _) DB
theorem aaY (n:Nat)(f:Nat->e_):Sx.Good M (SZ n f):=.of bz PS aU
theorem XQ:CE ⟨HL,λ_=>0,0,0⟩ []:=by refine⟨⟨⟨by decide,λj _=>by show(0:Int)<=0/\(0:Int)<=255;decide⟩,λj _=>rfl,λj hj=>absurd hj (S _),rfl⟩,rfl⟩
theorem tv (f:Nat->e_)(i:Nat):flat (bW f 0 (i+1))=flat (bW f 0 i)++f i:=by unfold flat bW;rw[List.range_succ];simp
theorem Fe (f:Nat->e_): ∀ {i n:Nat},i<=n->(flat (bW f 0 i)).length<=(flat (bW f 0 n)).length:=by
 intro i n h;induction n with
 | zero=>obtain rfl:i=0:=by omega
         exact a_ _
 | succ n ih =>
   by_cases e:i=n+1
   ·subst e;exact a_ _
   ·have:=ih (by omega);rw[tv,Q];omega
theorem UY (n:Nat)(f:Nat->e_)(z:Bool)(o c:Nat)(key:Option Nat)(h:(flat (bW f 0 n)).length<1152921504606846976)(hn:n<1152921504606846976) :
  av (fN (SZ n f) 25 Z [.aS 0 1 z o 0 n c] [⟨key,z,o,n,c,[.str f]⟩] (.ret (.str A (b7 (flat (bW f 0 n)))))):=by
 refine av.of_eq (ad2 n f z o c key) ?_;dsimp only;refine⟨⟨(0,⟨HL,λ_=>0,0,0⟩),⟨a! _,XQ⟩,rfl,Sx.ah.cells (λE=>rfl) rfl,ah.refl _,trivial⟩,λg hg=>⟨λa=> ?_,λa=> ?_⟩⟩
 ·have a:=of_decide_eq_true a;have h1:=Fe f (i:=g.1+1) (n:=n) (by omega);rw[tv,Q] at h1;rw[Int.toNat_natCast,N];refine⟨by omega,⟨rfl,by omega⟩,(g.2,flat (bW f 0 g.1)),ah.refl _,⟨hg.2,by omega⟩,λy hy=>⟨by omega,(g.1+1,y),⟨⟨by show g.1+1<=n;omega,?_⟩,by show n - (g.1+1)<n - g.1;omega⟩,by show(g.1:Int)+1=((g.1+1:Nat):Int);omega,ah.refl _,ah.refl _,trivial⟩⟩;show CE y (flat (bW f 0 (g.1+1)));rw[tv];exact hy
 ·have a:=of_decide_eq_false a;have hg1:=hg.1;have e:g.1=n:=by omega
  refine⟨(g.2,flat (bW f 0 g.1)),ah.refl _,⟨hg.2,by rw[e];exact h⟩,λ_ _=> ?_⟩;rw[e];exact λ_=>rfl
theorem UZ:ax M 25 (kU IQ ofG):=by
 refine GJ (dN (n:=20) (fn:=Z) Tryz.func25 (by kernel_rfl) (by kernel_rfl) ?_);intro vs l q a h hq;unfold v8 at h;split at h
 ·rename_i n f r hx;obtain⟨z,o,c,key⟩:=r;cases h;obtain⟨e1,e2⟩:=BO hx;rw[e1,e2];exact⟨_,aaY n f,rfl,rfl,UY n f z o c key hq.1 (by have:=hq.2;rwa [gQ] at this)⟩
 ·cases h
noncomputable def A2:List (FuncId×PT):=(25,kU IQ ofG)::(155,bw (dZ 9223372036854775808))::(127,bw (kg 9223372036854775808))::LD 9223372036854775808
theorem rV:aQ M (λf=>ay f A2):=.cons UZ (kH _ _) (.cons (iN _) (aZ _) (.cons (tT (iN _)) (aZ _) (Dw (iN _))))
noncomputable def mJ:dK:={bE with cm:=λf=>ay f A2}
theorem wW:Sx.Good M mJ:=.of bz rV aU
def Qp (x:Nd):cN:=.fork (aI x) λb=>match b with
 | true=>.ret (.aD [.str A (cq x),.int .i64 G 0])
 | false=>.ret (.aD [.str G [],.int .i64 G 1])
def mU (g:Nd->Option (Prop×cN)):List SV->Option (Prop×cN)
 | [.agg l]=>(match F2 l with
   | some x=>g x
   | none=>I)
 | _=>I
theorem tO {g:Nd->Option (Prop×cN)}{args:List SV}{v:cN}(h:mU g args=C (p,v)): ∃ x,args=[x.sv]/\g x=C (p,v):=by
 unfold mU at h;split at h
 ·split at h
  ·rename_i x hx;exact⟨x,by rw[mT hx],h⟩
  ·cases h
 ·cases h
def Jf (s:e_):e_:=if s.length<32 then s else aq (b7 s)
def Ag (a b:e_):Bool:=!decide (a=b)&&decide (b7 a=b7 b)
def bJ (r:Nat->e_):Nat->Nat
 | 0=>0
 | i+1=>bif bY (r i)then bJ r i+1 else bJ r i
def eV (r:Nat->e_):Nat->Nat->e_
 | 0=>λ_=>[]
 | i+1=>λj=>bif bY (r i)then(if j=bJ r i then af (r i)else eV r i j)else eV r i j
def zh:Nat->Nd->Prop
 | 0,_=>False
 | L+1,x=>∀ j,j<16->x.r j=[]∨((x.r j).length<L/\(x.r j).length<32)
def qI (L:Nat):List SV->Option (Prop×SV):=dM λx=>C (zh L x,.aK)
noncomputable def Xi:aX :={α:=Nat,pre:=λ_ i=>i<=16,jx:=λ_ i=>16 - i,fresh:=0,slots:=λ_ i=>[(7,.int .i64 A i)],mem:=λ_ _=>[]}
noncomputable def Ns (L:Nat):dK:={bE with cm:=λf=>ay f ((128,aM (qI L))::A2),bh:=λf=>if f=201 then [(1,always Xi)] else []}
noncomputable def acJ (x:Nd):aX :=
 {α:=Nat×Nat,pre:=λ_ g=>g.1<=16/\bJ x.r g.1<=g.2,jx:=λ_ g=>16 - g.1,fresh:=1,slots:=λ_ g=>[(7,.int .i64 A g.1)],
  mem:=λst g=>[(1,.cells [.bx st.nx 1 G 0 (bJ x.r g.1) g.2] 1 29),(st.nx,.rows G (bJ x.r g.1) [.str (eV x.r g.1)] A g.2 9)]}
noncomputable def Nr (x:Nd):dK:={bE with cm:=λf=>ay f ((128,aM (qI 64))::A2),bh:=λf=>if f=201 then [(1,always (acJ x))] else []}
def zE (x:Nd):cN:=.fork (aI x) λb=>match b with
 | true=>.all Nat λc=>.req (bJ x.r 16<=c) (.new (λk=>.bx k 1 G 0 (bJ x.r 16) c) (.rows G (bJ x.r 16) [.str (eV x.r 16)] A c 9))
 | false=>.ret .aK
theorem Rr (x:Nd):VC.holds (dB mJ 105 bl [x.sv] (Qp x))=((eO 9223372036854775808 fun(i:Nat)=>(bG x.r []).getD i []) /\((!aI {k:=x.k,p:=x.p,v:=x.v,r:=fun(i:Nat)=>(bG x.r []).getD i []:Nd})=G ->(aI x=G ->aa (SV.aD [SV.str G [],SV.int .i64 G 1]) (SV.aD [SV.str A (cq x),SV.int .i64 G 0])) /\(aI x=A ->aa (SV.aD [SV.str G [],SV.int .i64 G 1]) (SV.aD [SV.str G [],SV.int .i64 G 1]))) /\((!aI {k:=x.k,p:=x.p,v:=x.v,r:=fun(i:Nat)=>(bG x.r []).getD i []:Nd})=A ->(((0:Int)<=x.k /\x.k<=(3:Int)) /\{k:=x.k,p:=x.p,v:=x.v,r:=fun(i:Nat)=>(bG x.r []).getD i []:Nd}.jZ) /\(aI x=G ->aa (SV.aD [SV.str A (cq {k:=x.k,p:=x.p,v:=x.v,r:=fun(i:Nat)=>(bG x.r []).getD i []:Nd}),SV.int .i64 G 0]) (SV.aD [SV.str A (cq x),SV.int .i64 G 0])) /\(aI x=A ->aa (SV.aD [SV.str A (cq {k:=x.k,p:=x.p,v:=x.v,r:=fun(i:Nat)=>(bG x.r []).getD i []:Nd}),SV.int .i64 G 0]) (SV.aD [SV.str G [],SV.int .i64 G 1])))):=by kernel_rfl
theorem ady (s:e_)(R:SV->Prop):VC.holds (cA mJ 150 b5 [.str A s] R)=(Fk ((↑s.length:Int)<(32:Int)) (R (SV.str A s)) ((True /\IQ [s]) /\(32:Nat)<(1152921504606846976:Nat) /\R (SV.str A (aq (b7 (flat [s])))))):=by kernel_rfl
theorem Rj (a b:e_)(R:SV->Prop):VC.holds (cA mJ 24 b6 [.str A a,.str A b] R)=(((!decide (a=b))=G ->(True /\IQ [a]) /\(True /\IQ [b]) /\R (SV.bool (A&&A) (decide (b7 (flat [a])=b7 (flat [b]))))) /\((!decide (a=b))=A ->R (SV.bool G A))):=by kernel_rfl
theorem ace (L:Nat)(x:Nd)(R:SV->Prop):VC.holds (cA (Ns L) 128 bn [x.sv] R)=((λQ0:SB=>((eO 9223372036854775808 fun(i:Nat)=>(bG x.r []).getD i []) /\((!aI {k:=x.k,p:=x.p,v:=x.v,r:=fun(i:Nat)=>(bG x.r []).getD i []:Nd})=G ->R SV.aK) /\((!aI {k:=x.k,p:=x.p,v:=x.v,r:=fun(i:Nat)=>(bG x.r []).getD i []:Nd})=A ->∀(R_1:Loop),(∃(y:Nat),y<=(16:Nat) /\(0:Int)=(↑y:Int) /\ah (SB.loop J I R_1) (SB.loop J I R_1) /\ah Q0 Q0 /\ah (SB.cells SV.aK.cells 1 29) (SB.cells SV.aK.cells 1 29) /\ah (SB.cells x.sv.cells 19 138) (SB.cells x.sv.cells 19 138) /\True) /\∀(x_2:Nat),x_2<=(16:Nat) ->Fk ((↑x_2:Int)<(16:Int)) (((0:Int)<=(↑x_2:Int) /\(↑x_2:Int)<(16:Int) /\(↑x_2:Int)<(↑(16:Nat):Int)) /\Bk (!decide (bZ (bG x.r []) (↑x_2:Int).toNat=[])) (R_1=R_1 /\(bZ (bG x.r []) (↑x_2:Int).toNat).length<(9223372036854775808:Nat) /\Bk (bY (bZ (bG x.r []) (↑x_2:Int).toNat)) (∀(c:Nat),(1:Nat)<=c ->((-9223372036854775808:Int)<=(↑x_2:Int)+(1:Int) /\(↑x_2:Int)+(1:Int)<=(9223372036854775807:Int)) /\∃(y:Nat),(y<=(16:Nat) /\(16:Nat) - y<(16:Nat) - x_2) /\(↑x_2:Int)+(1:Int)=(↑y:Int) /\ah (SB.loop J I R_1) (SB.loop J I R_1) /\ah Q0 Q0 /\ah (SB.cells [SV.slc ((5:Nat)) 0 1 A c] 1 29) (SB.cells [SV.aK] 1 29) /\ah (SB.cells x.sv.cells 19 138) (SB.cells x.sv.cells 19 138) /\True) (Rel 9223372036854775808 (bZ (bG x.r []) (↑x_2:Int).toNat) /\Bk (bM (bZ (bG x.r []) (↑x_2:Int).toNat)) (zh L {k:=(getD (bZ (bG x.r []) (↑x_2:Int).toNat)).k,p:=(getD (bZ (bG x.r []) (↑x_2:Int).toNat)).p,v:=(getD (bZ (bG x.r []) (↑x_2:Int).toNat)).v,r:=fun(i:Nat)=>(bG (λi=>(getD (bZ (bG x.r []) (↑x_2:Int).toNat)).r i) []).getD i []:Nd} /\C (SB.cells SV.aK.cells 1 29)=C (SB.cells SV.aK.cells 1 29) /\((-9223372036854775808:Int)<=(↑x_2:Int)+(1:Int) /\(↑x_2:Int)+(1:Int)<=(9223372036854775807:Int)) /\∃(y:Nat),(y<=(16:Nat) /\(16:Nat) - y<(16:Nat) - x_2) /\(↑x_2:Int)+(1:Int)=(↑y:Int) /\ah (SB.loop J I R_1) (SB.loop J I R_1) /\ah Q0 Q0 /\ah (SB.cells [SV.aK] 1 29) (SB.cells [SV.aK] 1 29) /\ah (SB.cells x.sv.cells 19 138) (SB.cells x.sv.cells 19 138) /\True) (zh L {k:=(0:Int),p:=[],v:=[],r:=fun(i:Nat)=>(bG (λ_=>[]) []).getD i []:Nd} /\C (SB.cells SV.aK.cells 1 29)=C (SB.cells SV.aK.cells 1 29) /\((-9223372036854775808:Int)<=(↑x_2:Int)+(1:Int) /\(↑x_2:Int)+(1:Int)<=(9223372036854775807:Int)) /\∃(y:Nat),(y<=(16:Nat) /\(16:Nat) - y<(16:Nat) - x_2) /\(↑x_2:Int)+(1:Int)=(↑y:Int) /\ah (SB.loop J I R_1) (SB.loop J I R_1) /\ah Q0 Q0 /\ah (SB.cells [SV.aK] 1 29) (SB.cells [SV.aK] 1 29) /\ah (SB.cells x.sv.cells 19 138) (SB.cells x.sv.cells 19 138) /\True))) (((-9223372036854775808:Int)<=(↑x_2:Int)+(1:Int) /\(↑x_2:Int)+(1:Int)<=(9223372036854775807:Int)) /\∃(y:Nat),(y<=(16:Nat) /\(16:Nat) - y<(16:Nat) - x_2) /\(↑x_2:Int)+(1:Int)=(↑y:Int) /\ah (SB.loop J I R_1) (SB.loop J I R_1) /\ah Q0 Q0 /\ah (SB.cells SV.aK.cells 1 29) (SB.cells SV.aK.cells 1 29) /\ah (SB.cells x.sv.cells 19 138) (SB.cells x.sv.cells 19 138) /\True)) (R SV.aK)))) (SB.cells (SV.agg (SV.int .i64 A x.k::SV.str A x.p::SV.str A x.v::bG (λi=>SV.str A (x.r i)) [])).cells 19 238)):=by kernel_rfl
theorem Wa (x:Nd):VC.holds (dB (Nr x) 128 bn [x.sv] (zE x))=((λQ0:SB=>((eO 9223372036854775808 fun(i:Nat)=>(bG x.r []).getD i []) /\((!aI {k:=x.k,p:=x.p,v:=x.v,r:=fun(i:Nat)=>(bG x.r []).getD i []:Nd})=G ->Bk (aI x) (∃(x_3:Nat),bJ x.r (16:Nat)<=x_3 /\False) (aa SV.aK SV.aK)) /\((!aI {k:=x.k,p:=x.p,v:=x.v,r:=fun(i:Nat)=>(bG x.r []).getD i []:Nd})=A ->∀(R:Loop),(∃(y:Nat×Nat),(y.1<=(16:Nat) /\bJ x.r y.1<=y.2) /\(0:Int)=(↑y.1:Int) /\(1:Nat)=(1:Nat) /\bJ x.r y.1=(0:Nat) /\(SB.rows G (bJ x.r y.1) [aE.str (eV x.r y.1)] A y.2 9).no=G /\ah (SB.loop J I R) (SB.loop J I R) /\ah Q0 Q0 /\ah (SB.cells x.sv.cells 19 138) (SB.cells x.sv.cells 19 138) /\True) /\∀(x_2:Nat×Nat),x_2.1<=(16:Nat) /\bJ x.r x_2.1<=x_2.2 ->Fk ((↑x_2.1:Int)<(16:Int)) (((0:Int)<=(↑x_2.1:Int) /\(↑x_2.1:Int)<(16:Int) /\(↑x_2.1:Int)<(↑(16:Nat):Int)) /\Bk (!decide (bZ (bG x.r []) (↑x_2.1:Int).toNat=[])) (R=R /\(bZ (bG x.r []) (↑x_2.1:Int).toNat).length<(9223372036854775808:Nat) /\Bk (bY (bZ (bG x.r []) (↑x_2.1:Int).toNat)) (((0:Nat)+bJ x.r x_2.1<=bJ x.r x_2.1 /\True /\(2:Nat)*(bJ x.r x_2.1+(1:Nat))*(16:Nat)<=(281474976710656:Nat) /\bJ x.r x_2.1+(1:Nat)<(9223372036854775808:Nat)) /\x_2.2=x_2.2*(1:Nat) /\∀(c:Nat),bJ x.r x_2.1+(1:Nat)<=c ->((-9223372036854775808:Int)<=(↑x_2.1:Int)+(1:Int) /\(↑x_2.1:Int)+(1:Int)<=(9223372036854775807:Int)) /\∃(y:Nat×Nat),((y.1<=(16:Nat) /\bJ x.r y.1<=y.2) /\(16:Nat) - y.1<(16:Nat) - x_2.1) /\(↑x_2.1:Int)+(1:Int)=(↑y.1:Int) /\(1:Nat)=(1:Nat) /\((0:Nat)=(0:Nat) /\bJ x.r x_2.1+(1:Nat)=bJ x.r y.1 /\c=y.2) /\True /\ah (SB.rows G (bJ x.r x_2.1+(1:Nat)) [aE.str fun(j:Nat)=>if j<bJ x.r x_2.1 then eV x.r x_2.1 j else bZ [af (bZ (bG x.r []) (↑x_2.1:Int).toNat)] (j - bJ x.r x_2.1)] A (c*(1:Nat)) 9) (SB.rows G (bJ x.r y.1) [aE.str (eV x.r y.1)] A y.2 9) /\ah (SB.loop J I R) (SB.loop J I R) /\ah Q0 Q0 /\ah (SB.cells x.sv.cells 19 138) (SB.cells x.sv.cells 19 138) /\True) (Rel 9223372036854775808 (bZ (bG x.r []) (↑x_2.1:Int).toNat) /\Bk (bM (bZ (bG x.r []) (↑x_2.1:Int).toNat)) (zh 64 {k:=(getD (bZ (bG x.r []) (↑x_2.1:Int).toNat)).k,p:=(getD (bZ (bG x.r []) (↑x_2.1:Int).toNat)).p,v:=(getD (bZ (bG x.r []) (↑x_2.1:Int).toNat)).v,r:=fun(i:Nat)=>(bG (λi=>(getD (bZ (bG x.r []) (↑x_2.1:Int).toNat)).r i) []).getD i []:Nd} /\C (SB.cells [SV.bx ((4:Nat)) 1 G 0 (bJ x.r x_2.1) x_2.2] 1 29)=C (SB.cells [SV.bx ((4:Nat)) 1 G 0 (bJ x.r x_2.1) x_2.2] 1 29) /\((0:Nat)+bJ x.r x_2.1<=bJ x.r x_2.1 /\True /\(2:Nat)*(bJ x.r x_2.1+(0:Nat))*(16:Nat)<=(281474976710656:Nat) /\bJ x.r x_2.1+(0:Nat)<(9223372036854775808:Nat)) /\x_2.2=x_2.2*(1:Nat) /\∀(c:Nat),bJ x.r x_2.1+(0:Nat)<=c ->((-9223372036854775808:Int)<=(↑x_2.1:Int)+(1:Int) /\(↑x_2.1:Int)+(1:Int)<=(9223372036854775807:Int)) /\∃(y:Nat×Nat),((y.1<=(16:Nat) /\bJ x.r y.1<=y.2) /\(16:Nat) - y.1<(16:Nat) - x_2.1) /\(↑x_2.1:Int)+(1:Int)=(↑y.1:Int) /\(1:Nat)=(1:Nat) /\((0:Nat)=(0:Nat) /\bJ x.r x_2.1+(0:Nat)=bJ x.r y.1 /\c=y.2) /\True /\ah (SB.rows G (bJ x.r x_2.1+(0:Nat)) [aE.str (eV x.r x_2.1)] A (c*(1:Nat)) 9) (SB.rows G (bJ x.r y.1) [aE.str (eV x.r y.1)] A y.2 9) /\ah (SB.loop J I R) (SB.loop J I R) /\ah Q0 Q0 /\ah (SB.cells x.sv.cells 19 138) (SB.cells x.sv.cells 19 138) /\True) (zh 64 {k:=(0:Int),p:=[],v:=[],r:=fun(i:Nat)=>(bG (λ_=>[]) []).getD i []:Nd} /\C (SB.cells [SV.bx ((4:Nat)) 1 G 0 (bJ x.r x_2.1) x_2.2] 1 29)=C (SB.cells [SV.bx ((4:Nat)) 1 G 0 (bJ x.r x_2.1) x_2.2] 1 29) /\((0:Nat)+bJ x.r x_2.1<=bJ x.r x_2.1 /\True /\(2:Nat)*(bJ x.r x_2.1+(0:Nat))*(16:Nat)<=(281474976710656:Nat) /\bJ x.r x_2.1+(0:Nat)<(9223372036854775808:Nat)) /\x_2.2=x_2.2*(1:Nat) /\∀(c:Nat),bJ x.r x_2.1+(0:Nat)<=c ->((-9223372036854775808:Int)<=(↑x_2.1:Int)+(1:Int) /\(↑x_2.1:Int)+(1:Int)<=(9223372036854775807:Int)) /\∃(y:Nat×Nat),((y.1<=(16:Nat) /\bJ x.r y.1<=y.2) /\(16:Nat) - y.1<(16:Nat) - x_2.1) /\(↑x_2.1:Int)+(1:Int)=(↑y.1:Int) /\(1:Nat)=(1:Nat) /\((0:Nat)=(0:Nat) /\bJ x.r x_2.1+(0:Nat)=bJ x.r y.1 /\c=y.2) /\True /\ah (SB.rows G (bJ x.r x_2.1+(0:Nat)) [aE.str (eV x.r x_2.1)] A (c*(1:Nat)) 9) (SB.rows G (bJ x.r y.1) [aE.str (eV x.r y.1)] A y.2 9) /\ah (SB.loop J I R) (SB.loop J I R) /\ah Q0 Q0 /\ah (SB.cells x.sv.cells 19 138) (SB.cells x.sv.cells 19 138) /\True))) (((-9223372036854775808:Int)<=(↑x_2.1:Int)+(1:Int) /\(↑x_2.1:Int)+(1:Int)<=(9223372036854775807:Int)) /\∃(y:Nat×Nat),((y.1<=(16:Nat) /\bJ x.r y.1<=y.2) /\(16:Nat) - y.1<(16:Nat) - x_2.1) /\(↑x_2.1:Int)+(1:Int)=(↑y.1:Int) /\(1:Nat)=(1:Nat) /\((0:Nat)=(0:Nat) /\bJ x.r x_2.1=bJ x.r y.1 /\x_2.2=y.2) /\True /\ah (SB.rows G (bJ x.r x_2.1) [aE.str (eV x.r x_2.1)] A x_2.2 9) (SB.rows G (bJ x.r y.1) [aE.str (eV x.r y.1)] A y.2 9) /\ah (SB.loop J I R) (SB.loop J I R) /\ah Q0 Q0 /\ah (SB.cells x.sv.cells 19 138) (SB.cells x.sv.cells 19 138) /\True)) (Bk (aI x) (∃(x_6:Nat),bJ x.r (16:Nat)<=x_6 /\ah (SB.rows G (bJ x.r x_2.1) [aE.str (eV x.r x_2.1)] A x_2.2 9) (SB.rows G (bJ x.r 16) [aE.str (eV x.r 16)] A x_6 9) /\aa (SV.bx ((4:Nat)) 1 G 0 (bJ x.r x_2.1) x_2.2) (SV.bx ((4:Nat)) 1 G 0 (bJ x.r 16) x_6)) (aa (SV.bx ((4:Nat)) 1 G 0 (bJ x.r x_2.1) x_2.2) SV.aK))))) (SB.cells (SV.agg (SV.int .i64 A x.k::SV.str A x.p::SV.str A x.v::bG (λi=>SV.str A (x.r i)) [])).cells 19 238)):=by kernel_rfl
structure Nd.zW (x y:Nd):Prop where
 k:x.k=y.k
 p:x.p=y.p
 v:x.v=y.v
 r: ∀ j,j<16->x.r j=y.r j
theorem Iq {inl:e_->Bool}{r r':Nat->e_}: ∀ {n:Nat},(∀ j,j<n->r j=r' j)->gJ inl r n=gJ inl r' n/\b8 r n=b8 r' n
 | 0,_=>⟨rfl,rfl⟩
 | n+1,h=>by obtain⟨h1,h2⟩:=Iq (inl:=inl) (n:=n) λj hj=>h j (by omega);simp only[gJ,b8,h1,h2,h n (by omega),and_self]
theorem om (h:x.zW y):aI x=aI y:=by
 obtain⟨h1,h2⟩:=Iq (inl:=bM) h.r;have e0:lZ x=lZ y:=by
  unfold lZ;rw[h.k,h.p,h.v];congr 3;rw[Bool.eq_iff_iff,b_,b_];constructor
  ·intro g j hj;rw[← h.r j (ek.1 hj)];exact g j hj
  ·intro g j hj;rw[h.r j (ek.1 hj)];exact g j hj
 have e1:kW x=kW y:=by unfold kW gO;rw[h.p,h.v,fu h.r]
 have e2:nI bM x=nI bM y:=by unfold nI gO;rw[h.p,h.v,fu h.r,h.r 0 (by decide)]
 have e3:dO bM x=dO bM y:=by unfold dO;rw[h.p,h.v,h1,h2]
 unfold aI fW;rw[h.k,e0,e1,e2,e3]
theorem zO (h:x.zW y):cq x=cq y:=by
 have e1:jz x=jz y:=by unfold jz cJ;rw[h.p,h.v]
 have e2:pY x=pY y:=by unfold pY cJ;rw[h.p,h.r 0 (by decide)]
 have e3:fD x=fD y:=by
  have hb: ∀ j,j<16->bX x.r 16 j=bX y.r 16 j:=λj hj=>by unfold bX;rw[h.r j hj]
  unfold fD;rw[hb 0 (by decide),hb 1 (by decide),hb 2 (by decide),hb 3 (by decide),hb 4 (by decide),hb 5 (by decide),hb 6 (by decide),hb 7 (by decide),hb 8 (by decide),hb 9 (by decide),hb 10 (by decide),hb 11 (by decide),hb 12 (by decide),hb 13 (by decide),hb 14 (by decide),hb 15 (by decide),h.v]
 unfold cq;rw[h.k,e1,e2,e3]
theorem lp (x:Nd):Nd.zW {k:=x.k,p:=x.p,v:=x.v,r:=fun(i:Nat)=>[x.r 0,x.r 1,x.r 2,x.r 3,x.r 4,x.r 5,x.r 6,x.r 7,x.r 8,x.r 9,x.r 10,x.r 11,x.r 12,x.r 13,x.r 14,x.r 15].getD i []} x:=⟨rfl,rfl,rfl,λj hj=>eE x.r j hj⟩
theorem Nd.jZ.same (h:x.zW y)(hf:y.jZ):x.jZ:=⟨by rw[h.p];exact hf.p,by rw[h.v];exact hf.v,λj hj=>by rw[h.r j hj];exact hf.r j hj⟩
def Fits (x:Nd):Prop:=∀ j,j<16->(x.r j).length<9223372036854775808
theorem At (h:Fits x):eO 9223372036854775808 (fun(i:Nat)=>[x.r 0,x.r 1,x.r 2,x.r 3,x.r 4,x.r 5,x.r 6,x.r 7,x.r 8,x.r 9,x.r 10,x.r 11,x.r 12,x.r 13,x.r 14,x.r 15].getD i []):=λj hj=>by show Rel _ ([x.r 0,x.r 1,x.r 2,x.r 3,x.r 4,x.r 5,x.r 6,x.r 7,x.r 8,x.r 9,x.r 10,x.r 11,x.r 12,x.r 13,x.r 14,x.r 15].getD j []);rw[eE x.r j hj];exact⟨.inl (h j hj),h j hj⟩
theorem L4:ax M 105 (bw (mU λx=>C (Fits x,Qp x))):=by
 refine cn (n:=20) (fn:=bl) Tryz.func105 (by kernel_rfl) (by kernel_rfl) ?_;intro args p a h hp;obtain⟨x,hx,hg⟩:=tO h;subst hx;cases hg;refine⟨mJ,wW,rfl,λb=>by cases b<;>exact rfl,av.of_eq (Rr x) ?_⟩
 have e:=om (lp x);have e2:=zO (lp x);refine⟨At hp,λa=> ?_,λa=> ?_⟩
 ·rw[e] at a;have a:aI x=false:=by simpa using a
  rw[a];exact⟨(λh=>by cases h),λ_ _=>rfl⟩
 ·rw[e] at a;have a:aI x=true:=by simpa using a
  have hs:=fQ a;rw[e2,a];exact⟨⟨hs.k,Nd.jZ.same (lp x) hs.KS⟩,λ_ _=>rfl,λh=>by cases h⟩
theorem NK (s:e_):flat [s]=s:=by simp[flat]
theorem abC {s:e_}(h:s.length<1152921504606846976):True/\IQ [s]:=⟨trivial,by rw[NK];exact h,by simp⟩
def Gm:List SV->Option (Prop×SV)
 | [.str A s]=>C (s.length<1152921504606846976,.str A (Jf s))
 | _=>I
theorem L5:ax M 150 (aM Gm):=by
 refine dL wW (n:=20) (fn:=b5) Tryz.func150 (by kernel_rfl) (by kernel_rfl) ?_;intro args p r h hp;unfold Gm at h;split at h
 ·rename_i s;cases h;refine⟨rfl,rfl,av.of_eq (ady s _) ⟨λa=> ?_,λa=>⟨abC hp,by omega,?_⟩⟩⟩
  ·have a:=of_decide_eq_true a;exact cv (by rw[Jf,if_pos (by omega)])
  ·have a:=of_decide_eq_false a;exact cv (by rw[Jf,if_neg (by omega),NK])
 ·cases h
def qk:List SV->Option (Prop×SV)
 | [.str A a,.str A b]=>C (a.length<1152921504606846976/\b.length<1152921504606846976,.bool A (Ag a b))
 | _=>I
theorem KA:ax M 24 (aM qk):=by
 refine dL wW (n:=20) (fn:=b6) Tryz.func24 (by kernel_rfl) (by kernel_rfl) ?_;intro args p r h hp;unfold qk at h;split at h
 ·rename_i a b;cases h;refine⟨rfl,rfl,av.of_eq (Rj a b _) ⟨λc=>⟨abC hp.1,abC hp.2,bp ?_⟩,λc=>bp ?_⟩⟩
  ·rw[NK,NK,Ag,c,Bool.true_and]
  ·rw[Ag,c,Bool.false_and]
 ·cases h
theorem UN (h:zh L x): ∃ K,L=K+1/\∀ j,j<16->x.r j=[]∨((x.r j).length<K/\(x.r j).length<32):=by
 cases L with
 | zero=>exact h.elim
 | succ K=>exact⟨K,rfl,h⟩
theorem Qf (h:zh L x):Fits x:=λj hj=>by
 obtain⟨K,_,h⟩:=UN h;rcases h j hj with h | h
 ·rw[h];simp
 ·omega
theorem N3 {t:e_}(hk:0<=aH t)(h:t.length<L)(h32:t.length<32):zh L (getD t):=by
 cases L with
 | zero=>exact absurd h (S _)
 | succ L =>
   intro j _;by_cases e:(getD t).r j=[]
   ·exact .inl e
   ·have:=Gn hk j e;exact .inr ⟨by omega,by omega⟩
theorem DN (h:x.zW y)(hn:zh L y):zh L x:=by
 cases L with
 | zero=>exact hn.elim
 | succ L=>intro j hj;rw[h.r j hj];exact hn j hj
theorem DO (h:0<L):zh L eZ:=by
 cases L with
 | zero=>omega
 | succ L=>intro j hj;exact .inl (eE (λ_=>[]) j hj)
theorem wZ {t:e_}(h:bM t=G):0<=aH t/\aJ t=G/\(getD t).k≠0:=by
 rw[qy] at h;simp only[O,decide_eq_true_eq,Bool.not_eq_true',decide_eq_false_iff_not] at h;refine⟨?_,h.2.1,h.2.2⟩;by_cases g:0<=aH t
 ·exact g
 ·rw[KV g] at h;exact absurd h.2.1 (by decide)
theorem Qg (hH:ax M 128 (aM (qI L))):ax M 128 (aM (qI (L+1))):=by
 refine yO b9 (by kernel_rfl) (by kernel_rfl) λx p v h hp=> ?_;cases h;have hp:zh (L+1) x:=hp;refine⟨Ns L,[x.sv],.of bz (aQ.cons hH (aG _) rV) aU,λE=>rfl,rfl,rfl,av.gV (ace L x _) (by delta Bk Fk;exact rfl) ?_⟩;refine⟨At (Qf hp),λ_ _=>rfl,λ_ R=>⟨⟨0,by omega,rfl,ah.refl _,ah.refl _,ah.refl _,ah.refl _,trivial⟩,λi hi=>⟨λc=> ?_,λ_ _=>rfl⟩⟩⟩;have c:=of_decide_eq_true c;have ei:i<16:=by omega
 rw[Int.toNat_natCast,n9 x.r ei];refine⟨by omega,λd=> ?_,λd=>⟨by omega,i+1,by omega,by omega,ah.refl _,ah.refl _,ah.refl _,ah.refl _,trivial⟩⟩;have d: ¬ x.r i=[]:=by simpa using d
 obtain⟨hl,h32⟩:(x.r i).length<L/\(x.r i).length<32:=by
  rcases hp i ei with h | h
  ·exact absurd h d
  ·exact h
 have hlp:0<L:=by omega
 refine⟨rfl,by omega,λe=> ?_,λe=>⟨⟨.inl (by omega),by omega⟩,λf=>⟨?_,rfl,by omega,i+1,by omega,by omega,ah.refl _,ah.refl _,ah.refl _,ah.refl _,trivial⟩,λf=>⟨DO hlp,rfl,by omega,i+1,by omega,by omega,ah.refl _,ah.refl _,ah.refl _,ah.refl _,trivial⟩⟩⟩
 ·have:=qu e;omega
 ·exact DN (lp (getD (x.r i))) (N3 (wZ f).1 hl h32)
theorem IC: ∀ L,ax M 128 (aM (qI L))
 | 0=>yO b9 (by kernel_rfl) (by kernel_rfl) λx p v h hp=>by injection h with h;injection h with h1 h2;subst h1;exact hp.elim
 | L+1=>Qg (IC L)
theorem HN (r:Nat->e_): ∀ i,bJ r i<=i
 | 0=>a_ _
 | i+1=>by have:=HN r i;unfold bJ;cases bY (r i)<;>simp only[cond_true,cond_false]<;>omega
theorem aaI (x:Nd):Sx.Good M (Nr x):=.of bz (aQ.cons (IC 64) (aG _) rV) aU
end
end Go.Proofs.YtoibaecagklkaaaGreatDoor
