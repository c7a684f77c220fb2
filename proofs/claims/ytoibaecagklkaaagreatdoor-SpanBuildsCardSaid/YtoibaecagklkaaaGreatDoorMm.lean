/- A part of the proof. -/
import Derived.Test.YtoibaecagklkaaaGreatDoorMl
open Bool renaming and_eq_true->Q,and_false->b!,false->G,false_and->cj,or_eq_true->ag,true->I
open Decidable renaming decide->O
open Go.Proofs.Tryz renaming f152->Z,f153->an,f155->ct,f167->cx,prog->V
open List renaming append_assoc->cy,append_nil->bn,getD_eq_getElem?_getD->a_,getElem?_eq_getElem->b_,getElem?_eq_none->a!,getElem?_eq_some_iff->cB,length->cL,length_append->bf,mem_append->c4,nil->M
open Nat renaming add_assoc->bl,add_mul->c5,blt_eq->c6,not_lt_zero->S,zero_add->Y,zero_le->c7
open Option renaming none->N,some->H
open UInt8 renaming ofNat->J
namespace Go.Proofs.YtoibaecagklkaaaGreatDoor
open Go Sx
variable {z:Bool}{f:FuncId}{s t:h_}{inl:h_->Bool}{ay:List bh}{m:Mem}{c i j n o tot:Nat}{x:Nd}{P:Program}{A C D p:Prop}{v':SV}{ty:TypeId}
namespace Sx
open Go
theorem bh.U5 (c:bh)(i:Nat)(E E':Nat->Nat):(c.at i).val E=(c.at i).val E':=by cases c<;>rfl
structure Seen where
 key:Option Nat
 z:Bool
 o:Nat
 n:Nat
 c:Nat
 ay:List bh
def Seen.B (s:Seen):SB:=.view s.z s.o s.n s.ay
def Seen.sv (j:Nat)(s:Seen):SV:=.cT j s.ay.length s.z s.o 0 s.n s.c
def Seen.JL (m:Mem)(s:Seen):Prop:=∀ Γ E nx w,bp Γ E m nx w->s.B.no=G->∃ key X,s.key=H key/\m.get key=H X/\X.no=G/\∃ ob,w.heap[E key]?=H ob/\∀ E',cq E' s.B ob
def NL (m:Mem)(v:SV)(s:Seen):Prop:=(∀(E E':Nat->Nat) (j:Nat),(∀ key,s.key=H key->E' j=E key)->v.val E=(s.sv j).val E')/\s.JL m
theorem Bj {ce:Array Value}{fr:Nat×Nat}(h: ∀(i k:Nat) (col:bh),i<n->ay[k]?=H col->ce[o+i*ay.length+k]?=H ((col.at i).val (λ_=>0)))(E':Nat->Nat) :
  cq E' (.view z o n ay) (.cells ce ty fr):=⟨ce,ty,fr,rfl,λi k col hi hk=>by rw[bh.U5 col i E' (λ_=>0)];exact h i k col hi hk⟩
theorem asq (m:Mem)(ay:List bh):NL m .bW ⟨N,I,0,0,0,ay⟩:=⟨λ_ _ _ _=>rfl,λ_ _ _ _ _ h=>by cases h⟩
theorem FX (i:Nat)(ay:List bh)(k:Nat)(col:bh)(h:(ku i ay)[k]?=H col): ∃ d,ay[k]?=H d/\∀(j:Nat) (E:Nat->Nat),(col.at j).val E=(d.at (i+j)).val E:=by obtain⟨d,h1,h2⟩:=yQ h;exact⟨d,h1,λj E=>by rw[h2 j]⟩
theorem aln {key n':Nat}{z':Bool}{ro:Bool}(hk:m.get key=H (SB.rows z' n' ay ro tot ty))(hz:z=z'∨0<n')(hn:i+n<=n') :
  NL m (.bY key ay.length z i n c) ⟨H key,z,i*ay.length,n,c,ku i ay⟩:=by
 refine⟨λE E' j h=>by simp[SV.val,Seen.sv,h key rfl],λΓ E nx w hs h=> ?_⟩;have hno:(SB.rows z' n' ay ro tot ty).no=false:=by
  rcases hz with rfl | hz
  ·cases n with
   | zero =>
     have hz:z=false:=by
      cases z with
      | false=>rfl
      | true=>cases h
     subst hz;rfl
   | succ n=>exact SB.o5 (i:=0) (by omega)
  ·exact SB.o5 (i:=0) hz
 obtain⟨ob,ho,ce,fr,rfl,_,_,_,h4⟩:=hs.yZ key _ hk hno;refine⟨key,_,rfl,hk,hno,_,ho,Bj λa b col ha hb=> ?_⟩;obtain⟨d,h1,h2⟩:=FX _ _ _ _ hb;have:=h4 (i+a) b d (by simp only at ha;omega) h1;rw[h2 a,bh.U5 d _ _ E,nC,← this];congr 1;rw[c5]
theorem alo {key n':Nat}(hk:m.get key=H (SB.view z o n' ay))(hn:i+n<=n') :
  NL m (.cT key ay.length z o i n c) ⟨H key,z,o+i*ay.length,n,c,ku i ay⟩:=by
 refine⟨λE E' j h=>by simp[SV.val,Seen.sv,h key rfl],λΓ E nx w hs h=> ?_⟩;have hno:(SB.view z o n' ay).no=false:=by
  cases n with
  | zero =>
    have hz:z=false:=by
     cases z with
     | false=>rfl
     | true=>cases h
    subst hz;rfl
  | succ n=>exact SB.NA (i:=0) (by omega)
 obtain⟨ob,ho,ce,ty,fr,rfl,h4⟩:=hs.yZ key _ hk hno;refine⟨key,_,rfl,hk,hno,_,ho,Bj λa b col ha hb=> ?_⟩;obtain⟨d,h1,h2⟩:=FX _ _ _ _ hb;have:=h4 (i+a) b d (by simp only at ha;omega) h1;rw[h2 a,bh.U5 d _ _ E,nC,← this];congr 1;show o+i*ay.length+a*ay.length+b=o+(i+a)*ay.length+b;rw[c5];omega
def axB:SV->Int
 | .int _ _ n=>n
 | _=>0
def asB:SV->Bool
 | .bool _ b=>b
 | _=>G
def UL:SV->h_
 | .str _ s=>s
 | _=>[]
def X2 (l:List SV)(w j:Nat):Option bh:=match l[j]? with
 | some (.int k _ _)=>H (.int k λi=>axB (l.getD (i*w+j) .eJ))
 | some (.bool _ _)=>H (.bool λi=>asB (l.getD (i*w+j) .eJ))
 | some (.str _ _)=>H (.str λi=>UL (l.getD (i*w+j) .eJ))
 | _=>N
def kindOk:bh->SV->Bool
 | .int k _,.int k' _ _=>decide (k=k')
 | .bool _,.bool _ _=>I
 | .str _,.str _ _=>I
 | _,_=>G
theorem ajG {l:List SV}{w:Nat}{col:bh}(h:X2 l w j=H col)(hk:kindOk col (l.getD (i*w+j) .eJ)=I)(E:Nat->Nat):(l.getD (i*w+j) .eJ).val E=(col.at i).val E:=by
 unfold X2 at h;split at h
 ·cases h;unfold kindOk at hk;split at hk
  ·rename_i e1 e2;injection e1 with e1 _;subst e1;simp only[m_] at hk;rw[e2];simp only[bh.at,e2,axB,SV.val,hk]
  ·cases ‹bh.int _ _=bh.bool _›
  ·cases ‹bh.int _ _=bh.str _›
  ·cases hk
 ·cases h;unfold kindOk at hk;split at hk
  ·cases ‹bh.bool _=bh.int _ _›
  ·rename_i e1 e2;rw[e2];simp only[bh.at,e2,asB,SV.val]
  ·cases ‹bh.bool _=bh.str _›
  ·cases hk
 ·cases h;unfold kindOk at hk;split at hk
  ·cases ‹bh.str _=bh.int _ _›
  ·cases ‹bh.str _=bh.bool _›
  ·rename_i e1 e2;rw[e2];simp only[bh.at,e2,UL,SV.val]
  ·cases hk
 ·cases h
theorem seen_cells {key:Nat}{cl:Bool}{cs:List SV}(hk:m.get key=H (.cells cs tot ty))
  (hc: ∀(i j:Nat) (col:bh),i<n->ay[j]?=H col->∃ v,cs[o+i*ay.length+j]?=H v/\∀ E,v.val E=(col.at i).val E):NL m (.slc key o n cl c) ⟨H key,G,o,n,c,ay⟩:=by
 refine⟨λE E' j h=>by simp[SV.val,Seen.sv,h key rfl],λΓ E nx w hs _=> ?_⟩;obtain⟨ob,ho,ce,fr,rfl,_,h4,_⟩:=hs.yZ key _ hk rfl;refine⟨key,_,rfl,hk,rfl,_,ho,Bj λi j col hi hj=> ?_⟩;obtain⟨v,g1,g2⟩:=hc i j col hi hj;rw[h4 _ _ g1,g2 E,bh.U5 col i E (λ_=>0)]
def N6 (l:List SV)(w:Nat):Nat->Nat->Option (List bh)
 | _,0=>H []
 | j,r+1=>match X2 l w j,N6 l w (j+1) r with
   | some c,H cs=>H (c::cs)
   | _,_=>N
theorem N7 {l:List SV}{w:Nat}: ∀ {r j:Nat} {ay:List bh},N6 l w j r=H ay->ay.length=r/\∀(k:Nat) (c:bh),ay[k]?=H c->X2 l w (j+k)=H c
 | 0,_,_,h=>by cases h;exact⟨rfl,λk c hc=>by simp at hc⟩
 | r+1,j,ay,h=>by
   unfold N6 at h;split at h
   ·rename_i c cs h1 h2;cases h;obtain⟨g1,g2⟩:=N7 h2;refine⟨by simp[g1],λk d hd=> ?_⟩;cases k with
    | zero=>cases hd;exact h1
    | succ k =>have:=g2 k d (by simpa using hd);rw[show j+(k+1)=j+1+k by omega];exact this
   ·cases h
def D9 (l:List SV)(w i j:Nat):List bh->Bool
 | []=>I
 | col::r=>Nat.blt (i*w+j) l.length&&kindOk col (l.getD (i*w+j) .eJ)&&D9 l w i (j+1) r
theorem LA {l:List SV}{w i:Nat}: ∀ {ay:List bh} {j:Nat},D9 l w i j ay=I->∀(k:Nat) (c:bh),ay[k]?=H c->i*w+(j+k)<l.length/\kindOk c (l.getD (i*w+(j+k)) .eJ)=I
 | [],_,_,k,c,hc=>by simp at hc
 | d::r,j,h,k,c,hc=>by
   simp only[D9,Q,c6] at h;obtain⟨⟨h1,h2⟩,h3⟩:=h;cases k with
   | zero=>cases hc;exact⟨h1,h2⟩
   | succ k =>have:=LA h3 k c (by simpa using hc);rw[show j+(k+1)=j+1+k by omega];exact this
def RX (l:List SV)(w:Nat)(ay:List bh):Nat->Bool
 | 0=>I
 | i+1=>D9 l w i 0 ay&&RX l w ay i
theorem RY {l:List SV}{w:Nat}{ay:List bh}: ∀ {n:Nat},RX l w ay n=I->∀ i,i<n->D9 l w i 0 ay=I
 | 0,_,i,hi=>absurd hi (S _)
 | n+1,h,i,hi=>by
   simp only[RX,Q] at h;by_cases e:i=n
   ·subst e;exact h.1
   ·exact RY h.2 i (by omega)
def Li (d:List bh)(m:Mem):SV->Option (Prop×Seen)
 | .bW=>H (True,⟨N,I,0,0,0,d⟩)
 | .bY key w z i n c=>(match m.get key with
   | some (.rows z' n' ay _ _ _)=>if w=ay.length then H ((match z,z' with
     | false,I=>0<n'/\i+n<=n'
     | z,z'=>z=z'/\i+n<=n'),⟨H key,z,i*w,n,c,ku i ay⟩)else N
   | _=>N)
 | .cT key w z o i n c=>(match m.get key with
   | some (.view z' o' n' ay)=>if w=ay.length then H (z=z'/\o'=o/\i+n<=n',⟨H key,z,o+i*w,n,c,ku i ay⟩)else N
   | _=>N)
 | .slc key o n _ c=>(match m.get key with
   | some (.cells cs _ _)=>(match n with
     | 0=>H (True,⟨H key,G,o,0,c,d⟩)
     | n+1=>(match N6 (cs.drop o) d.length 0 d.length with
       | some ay=>if RX (cs.drop o) d.length ay (n+1)=I then H (True,⟨H key,G,o,n+1,c,ay⟩)else N
       | none=>N))
   | _=>N)
 | _=>N
theorem amb {d:List bh}{v:SV}{s:Seen}(h:Li d m v=H (p,s))(hp:p):NL m v s:=by
 unfold Li at h;split at h
 ·injection h with h;injection h with h1 h2;subst h2;exact asq m d
 ·rename_i key w z i n c;split at h
  ·rename_i z' n' ay ro tot ty hk;split at h
   ·rename_i hc;subst hc;cases h;have hp:(z=z'∨0<n')/\i+n<=n':=by cases z<;>cases z'<;>first | exact⟨.inl hp.1,hp.2⟩ | exact⟨.inr hp.1,hp.2⟩
    exact aln hk hp.1 hp.2
   ·cases h
  ·cases h
 ·rename_i key w z o i n c;split at h
  ·rename_i z' o' n' ay hk;split at h
   ·rename_i hc;subst hc;cases h;obtain⟨rfl,rfl,hp⟩:=hp;exact alo hk hp
   ·cases h
  ·cases h
 ·rename_i key o n cl c;split at h
  ·rename_i cs tot ty hk;split at h
   ·injection h with h;injection h with h1 h2;subst h2;exact seen_cells hk λi j col hi=>absurd hi (S _)
   ·rename_i n;split at h
    ·rename_i ay hcols;split at h
     ·rename_i hall;injection h with h;injection h with h1 h2;subst h2;obtain⟨g1,g2⟩:=N7 hcols;refine seen_cells hk λi j col hi hj=> ?_;have h1:=g2 j col hj;obtain⟨h2,h3⟩:=LA (RY hall i hi) j col hj;rw[Y] at h1 h2 h3;have h4:=ajG h1 h3;refine⟨(cs.drop o).getD (i*d.length+j) .eJ,?_,h4⟩;rw[g1,bl,← List.getElem?_drop,a_,b_ h2];rfl
     ·cases h
    ·cases h
  ·cases h
 ·cases h
inductive Sh1 where
 | one
 | slice (d:List bh)
inductive E6 where
 | of (h:Sh1)
 | agg (l:List Sh1)
abbrev Pk (α:Type):=Option (α×Prop×List Seen)
def PB (m:Mem)(j:Nat)(h:Sh1)(v:SV):Pk SV:=match h with
 | .one=>if v.wf 0=I then H (Re v,True,[])else N
 | .slice d=>match Li d m v with
   | some (p,s)=>H (s.sv j,p,[s])
   | none=>N
def KN (m:Mem):Nat->List Sh1->List SV->Pk (List SV)
 | _,[],[]=>H ([],True,[])
 | j,h::hs,v::vs=>(match PB m j h v with
   | some (v',p,l)=>(match KN m (j+l.length) hs vs with
     | some (vs',q,r)=>H (v'::vs',p/\q,l++r)
     | none=>N)
   | none=>N)
 | _,_,_=>N
def Tt (m:Mem)(j:Nat)(h:E6)(v:SV):Pk SV:=match h,v with
 | .of h,v=>PB m j h v
 | .agg hs,.agg vs=>(match KN m j hs vs with
   | some (vs',p,l)=>H (.agg vs',p,l)
   | none=>N)
 | _,_=>N
def wE (m:Mem):Nat->List E6->List SV->Pk (List SV)
 | _,[],[]=>H ([],True,[])
 | j,h::hs,v::vs=>(match Tt m j h v with
   | some (v',p,l)=>(match wE m (j+l.length) hs vs with
     | some (vs',q,r)=>H (v'::vs',p/\q,l++r)
     | none=>N)
   | none=>N)
 | _,_,_=>N
def Names (E E':Nat->Nat)(j:Nat)(l:List Seen):Prop:=∀(i:Nat) (s:Seen),l[i]?=H s->∀ key,s.key=H key->E' (j+i)=E key
theorem Names.left {E E':Nat->Nat}{l r:List Seen}(h:Names E E' j (l++r)):Names E E' j l:=λi s hi=>h i s (by rw[List.getElem?_append_left (cB.1 hi).1];exact hi)
theorem Names.right {E E':Nat->Nat}{l r:List Seen}(h:Names E E' j (l++r)):Names E E' (j+l.length) r:=λi s hi=>by rw[bl];exact h (l.length+i) s (by rw[List.getElem?_append_right (by omega)];rw[Nat.add_sub_cancel_left];exact hi)
theorem ZS {h:Sh1}{v:SV}{l:List Seen}(e:PB m j h v=H (v',p,l))(hp:p):(∀ E E',Names E E' j l->v.val E=v'.val E')/\∀ s∈ l,s.JL m:=by
 unfold PB at e;split at e
 ·split at e
  ·rename_i hw;injection e with e;injection e with e1 e;injection e with e2 e3;subst e1;subst e3;exact⟨λE E' _=>by rw[UQ];exact SV.Jy hw E E',λs hs=>by cases hs⟩
  ·cases e
 ·split at e
  ·rename_i q s hq;cases e;obtain⟨h1,h2⟩:=amb hq hp;exact⟨λE E' hn=>h1 E E' j λkey hk=>hn 0 s rfl key hk,λt ht=>by rw[List.mem_singleton] at ht;subst ht;exact h2⟩
  ·cases e
theorem Tu {m:Mem}: ∀ {hs:List Sh1} {j:Nat} {vs vs':List SV} {p:Prop} {l:List Seen},KN m j hs vs=H (vs',p,l)->p->(∀ E E',Names E E' j l->SV.vals E vs=SV.vals E' vs')/\∀ s∈ l,s.JL m
 | [],_,[],_,_,_,e,_=>by injection e with e;injection e with e1 e;injection e with e2 e3;subst e1;subst e3;exact⟨λ_ _ _=>rfl,λs hs=>by cases hs⟩
 | h::hs,j,v::vs,vs',p,l,e,hp=>by
   simp only[KN] at e;split at e
   ·rename_i v1 p1 l1 h1;split at e
    ·rename_i vs2 p2 l2 h2;cases e;obtain⟨a1,a2⟩:=ZS h1 hp.1;obtain⟨b1,b2⟩:=Tu h2 hp.2;refine⟨λE E' hn=>by simp only[SV.vals];rw[a1 E E' hn.left,b1 E E' hn.right],λs hs=> ?_⟩;rcases c4.1 hs with hs | hs
     ·exact a2 s hs
     ·exact b2 s hs
    ·cases e
   ·cases e
 | [],_,_::_,_,_,_,e,_=>by cases e
 | _::_,_,[],_,_,_,e,_=>by cases e
theorem apY {h:E6}{v:SV}{l:List Seen}(e:Tt m j h v=H (v',p,l))(hp:p):(∀ E E',Names E E' j l->v.val E=v'.val E')/\∀ s∈ l,s.JL m:=by
 unfold Tt at e;split at e
 ·exact ZS e hp
 ·split at e
  ·rename_i vs' p' l' h';cases e;obtain⟨a1,a2⟩:=Tu h' hp;exact⟨λE E' hn=>by simp only[SV.val];rw[a1 E E' hn],a2⟩
  ·cases e
 ·cases e
theorem Tv {m:Mem}: ∀ {hs:List E6} {j:Nat} {vs vs':List SV} {p:Prop} {l:List Seen},wE m j hs vs=H (vs',p,l)->p->(∀ E E',Names E E' j l->SV.vals E vs=SV.vals E' vs')/\∀ s∈ l,s.JL m
 | [],_,[],_,_,_,e,_=>by injection e with e;injection e with e1 e;injection e with e2 e3;subst e1;subst e3;exact⟨λ_ _ _=>rfl,λs hs=>by cases hs⟩
 | h::hs,j,v::vs,vs',p,l,e,hp=>by
   simp only[wE] at e;split at e
   ·rename_i v1 p1 l1 h1;split at e
    ·rename_i vs2 p2 l2 h2;cases e;obtain⟨a1,a2⟩:=apY h1 hp.1;obtain⟨b1,b2⟩:=Tv h2 hp.2;refine⟨λE E' hn=>by simp only[SV.vals];rw[a1 E E' hn.left,b1 E E' hn.right],λs hs=> ?_⟩;rcases c4.1 hs with hs | hs
     ·exact a2 s hs
     ·exact b2 s hs
    ·cases e
   ·cases e
 | [],_,_::_,_,_,_,e,_=>by cases e
 | _::_,_,[],_,_,_,e,_=>by cases e
def an6 (j:Nat)(h:Sh1)(v:SV)(l:List Seen):SV×Nat×List Seen:=match h,l with
 | .slice _,s::r=>(s.sv j,j+1,r)
 | _,l=>(v,j,l)
def Vx:Nat->List Sh1->List SV->List Seen->List SV×Nat×List Seen
 | j,h::hs,v::vs,l=>match an6 j h v l with
   | (v',j',l')=>match Vx j' hs vs l' with
     | (vs',j'',l'')=>(v'::vs',j'',l'')
 | j,_,vs,l=>(vs,j,l)
def an7 (j:Nat)(h:E6)(v:SV)(l:List Seen):SV×Nat×List Seen:=match h,v with
 | .of h,v=>an6 j h v l
 | .agg hs,.agg vs=>(match Vx j hs vs l with
   | (vs',j',l')=>(.agg vs',j',l'))
 | _,v=>(v,j,l)
def Vy:Nat->List E6->List SV->List Seen->List SV×Nat×List Seen
 | j,h::hs,v::vs,l=>match an7 j h v l with
   | (v',j',l')=>match Vy j' hs vs l' with
     | (vs',j'',l'')=>(v'::vs',j'',l'')
 | j,_,vs,l=>(vs,j,l)
theorem Yo {h:Sh1}{v:SV}{l:List Seen}(e:PB m j h v=H (v',p,l))(r:List Seen):an6 j h v' (l++r)=(v',j+l.length,r):=by
 unfold PB at e;split at e
 ·split at e
  ·injection e with e;injection e with e1 e;injection e with e2 e3;subst e1;subst e3;rfl
  ·cases e
 ·split at e
  ·injection e with e;injection e with e1 e;injection e with e2 e3;subst e1;subst e3;rfl
  ·cases e
theorem Sn {m:Mem}: ∀ {hs:List Sh1} {j:Nat} {vs vs':List SV} {p:Prop} {l:List Seen},KN m j hs vs=H (vs',p,l)->∀ r,Vx j hs vs' (l++r)=(vs',j+l.length,r)
 | [],_,[],_,_,_,e,r=>by injection e with e;injection e with e1 e;injection e with e2 e3;subst e1;subst e3;rfl
 | h::hs,j,v::vs,vs',p,l,e,r=>by
   simp only[KN] at e;split at e
   ·rename_i v1 p1 l1 h1;split at e
    ·rename_i vs2 p2 l2 h2;cases e;have a:=Yo h1 (l2++r);have b:=Sn h2 r;rw[cy];simp only[Vx,a,b,bf,bl]
    ·cases e
   ·cases e
 | [],_,_::_,_,_,_,e,_=>by cases e
 | _::_,_,[],_,_,_,e,_=>by cases e
theorem an8 {h:E6}{v:SV}{l:List Seen}(e:Tt m j h v=H (v',p,l))(r:List Seen):an7 j h v' (l++r)=(v',j+l.length,r):=by
 unfold Tt at e;split at e
 ·exact Yo e r
 ·split at e
  ·rename_i vs' p' l' h';cases e;have a:=Sn h' r;simp only[an7,a]
  ·cases e
 ·cases e
theorem So {m:Mem}: ∀ {hs:List E6} {j:Nat} {vs vs':List SV} {p:Prop} {l:List Seen},wE m j hs vs=H (vs',p,l)->∀ r,Vy j hs vs' (l++r)=(vs',j+l.length,r)
 | [],_,[],_,_,_,e,r=>by injection e with e;injection e with e1 e;injection e with e2 e3;subst e1;subst e3;rfl
 | h::hs,j,v::vs,vs',p,l,e,r=>by
   simp only[wE] at e;split at e
   ·rename_i v1 p1 l1 h1;split at e
    ·rename_i vs2 p2 l2 h2;cases e;have a:=an8 h1 (l2++r);have b:=So h2 r;rw[cy];simp only[Vy,a,b,bf,bl]
    ·cases e
   ·cases e
 | [],_,_::_,_,_,_,e,_=>by cases e
 | _::_,_,[],_,_,_,e,_=>by cases e
def filled (sh:List E6)(vs:List SV)(l:List Seen):List SV:=(Vy 0 sh vs l).1
theorem ajT {hs:List E6}{vs vs':List SV}{l:List Seen}(e:wE m 0 hs vs=H (vs',p,l)):filled hs vs' l=vs':=by have:=So e [];rw[bn] at this;unfold filled;rw[this]
def tN:Nat->List Seen->Mem
 | _,[]=>[]
 | j,s::r=>(j,s.B)::tN (j+1) r
theorem jx: ∀ {l:List Seen} {j k:Nat} {B:SB},(tN j l).get k=H B->∃ i s,k=j+i/\l[i]?=H s/\B=s.B
 | [],_,_,_,h=>by cases h
 | s::r,j,k,B,h=>by
   rcases Mem.nq h with ⟨rfl,rfl⟩ | ⟨_,h⟩
   ·exact⟨0,s,rfl,rfl,rfl⟩
   ·obtain⟨i,t,e1,e2,e3⟩:=jx h;exact⟨i+1,t,by omega,by simpa using e2,e3⟩
def Ab (E:Nat->Nat)(l:List Seen)(j:Nat):Nat:=match l[j]? with
 | some s=>(match s.key with
   | some k=>E k
   | none=>0)
 | none=>0
theorem Zu (E:Nat->Nat)(l:List Seen):Names E (Ab E l) 0 l:=λi s hi key hk=>by simp only[Ab,Y,hi,hk]
theorem asr {l:List Seen}(h: ∀ s∈ l,s.JL m){Γ:b5}{E:Nat->Nat}{nx:Nat}{w:World}(hs:bp Γ E m nx w) :
  bp (b5.at w (λ_=>False) hs.adj (λ_ _ h=>h)) (Ab E l) (tN 0 l) l.length w:=by
 refine⟨λj B a hj hn=> ?_,λj j' B B' a hj hn hj' hn' hr=> ?_,λj B hj=> ?_,λj B a hj hn hro=> ?_,Ext.refl _ _,⟨c7 _,λk hk=>absurd hk (S _)⟩,λD hD=>by cases hD⟩
 ·obtain⟨i,s,e1,e2,rfl⟩:=jx hj;rw[Y] at e1;subst e1;obtain⟨hn1,rfl⟩:=(SB.tL (B:=s.B) rfl).1 hn;obtain⟨key,X,g1,g2,g3,ob,g4,g5⟩:=h s (List.mem_of_getElem? e2) Γ E nx w hs hn1;exact⟨ob,by simp only[Ab,e2,g1];exact g4,g5 _⟩
 ·obtain⟨i,s,e1,e2,rfl⟩:=jx hj;obtain⟨i',s',e1',e2',rfl⟩:=jx hj';rcases hr with hr | hr<;>cases hr
 ·obtain⟨i,s,e1,e2,rfl⟩:=jx hj;have:=(cB.1 e2).1;omega
 ·obtain⟨i,s,e1,e2,rfl⟩:=jx hj;cases hro
noncomputable def bV (sh:List E6)(spec:List SV->List Seen->Option (Prop×fC)):PT:=λargs m nx K=>match wE m 0 sh args with
 | some (vs,p,l)=>(match spec vs l with
   | some (q,a)=>.and (.atom (p/\q)) (a.vc m nx K)
   | none=>.fail "arguments that nothing is said of")
 | none=>.fail "a slice that is not known"
theorem bR (sh:List E6)(spec:List SV->List Seen->Option (Prop×fC)):bC (bV sh spec):=by
 intro args m nx K K' hK h;unfold bV at h ⊢;split at h
 ·split at h
  ·exact⟨h.1,fC.Jz hK h.2⟩
  ·exact h
 ·exact h
theorem gi {fn:Func}(hf:P.funcs[f]?=H fn) (hn:(fn.name== "runtime.NumGoroutine")=G) (hb:fn.body.isSome=I)  {sh:List E6}
  {spec:List SV->List Seen->Option (Prop×fC)}
  (h: ∀ vs l q a,spec vs l=H (q,a)->q->∃ cfg,Good P cfg/\SV.lY l.length (filled sh vs l)=I/\a.Ok/\au (lZ P (calling P cfg n) [] Ny (cfg.bU f) cfg.rounds fn (filled sh vs l) (tN 0 l) l.length (λv m _=>a.fit v m))):aq P f (bV sh spec):=by
 intro args m nx K hk hwf hargs Γ E w hs;unfold bV at hk;split at hk
 ·rename_i vs p l hx;split at hk
  ·rename_i q a hq;obtain⟨⟨hxp,hqq⟩,hk⟩:=hk;obtain⟨cfg,hg,h1,h2,h3⟩:=h _ _ _ _ hq hqq;rw[ajT hx] at h1 h3;obtain⟨e1,e2⟩:=Tv hx hxp;have hwm: ∀(j:Nat) (l:List Seen),Mem.wf l.length (tN j l)=true:=by
    intro j l;have: ∀(j n:Nat) (l:List Seen),Mem.wf n (tN j l)=true:=by
     intro j n l;induction l generalizing j with
     | nil=>rfl
     | cons s r ih=>simp only[tN,Mem.wf,Q];exact⟨rfl,ih _⟩
    exact this j _ l
   have hc:=kC hg hf hn hb h3 (hwm 0 l) h1 (asr e2 hs);rw[← e1 E _ (Zu E l)] at hc;refine mY hf hn hb (hc.mono ?_);rintro e w' ⟨v,rfl,E',sv,m',nx',_,_,g3,g4,g5⟩;refine⟨v,rfl,?_⟩;cases sv with
   | none=>exact g5.elim
   | some u=>rw[g3 u rfl];exact fC.told hs hwf g4 h2 g5 hk
  ·exact hk.elim
 ·exact hk.elim
def apn (m:Mem)(h:Sh1)(v:SV):Bool:=match h with
 | .one=>isLit v
 | .slice _=>litCells' m v
where litCells' (m:Mem):SV->Bool
 | .bW=>I
 | .slc key _ _ _ _=>(match m.get key with
   | some (.cells cs _ _)=>NO cs
   | _=>G)
 | _=>G
def agQ (m:Mem):List Sh1->List SV->Bool
 | h::hs,v::vs=>apn m h v&&agQ m hs vs
 | _,_=>I
def azz (m:Mem):E6->SV->Bool
 | .of h,v=>apn m h v
 | .agg hs,.agg vs=>agQ m hs vs
 | _,_=>G
def Wb (m:Mem):List E6->List SV->Bool
 | h::hs,v::vs=>azz m h v&&Wb m hs vs
 | _,_=>I
noncomputable def G4 (sh:List E6)(spec:List SV->List Seen->Option (Prop×fC)):PT:=λargs m nx K=>match Wb m sh args with
 | true=>(match wE m 0 sh args with
   | some (vs,p,l)=>(match spec vs l with
     | some (q,a)=>.and (.atom (p/\q)) (a.vcl m nx K)
     | none=>.fail "arguments that nothing is said of")
   | none=>.fail "a slice that is not known")
 | false=>bV sh spec args m nx K
theorem U3 (sh:List E6)(spec:List SV->List Seen->Option (Prop×fC)):bC (G4 sh spec):=by
 intro args m nx K K' hK h;unfold G4 at h ⊢;split at h
 ·split at h
  ·split at h
   ·exact⟨h.1,fC.Am hK h.2⟩
   ·exact h
  ·exact h
 ·exact bR sh spec _ _ _ _ _ hK h
theorem amy {sh:List E6}{spec:List SV->List Seen->Option (Prop×fC)}(h:aq P f (bV sh spec)):aq P f (G4 sh spec):=by
 intro args m nx K hk hwf hargs Γ E w hs;unfold G4 at hk;split at hk
 ·have:(bV sh spec args m nx (az7 Γ E nx K)).holds:=by
   unfold bV;split at hk
   ·rename_i vs p l hp;split at hk
    ·rename_i q a hq
     first
      | exact⟨hk.1,fC.yo hk.2⟩
      | (rw[hp];simp only[hq];exact⟨hk.1,fC.yo hk.2⟩)
    ·exact hk.elim
   ·exact hk.elim
  refine(h args m nx _ this hwf hargs Γ E w hs).mono (λe w' hh=> ?_) (λ_ _ h=>h);obtain⟨E',sv,m',nx',h1,h2,h3,h4,h5⟩:=hh;cases sv with
  | none=>exact h5.elim
  | some v=>rw[h3 v rfl];exact h5 E' w' h1 h2 h4
 ·exact h args m nx K hk hwf hargs Γ E w hs
end Sx
section
open Go Sx
set_option maxRecDepth 20000
noncomputable def je (cfg:iG)(f:Nat)(fn:Func)(args:List SV)(l:List Seen)(a:fC):VC:=lZ V (calling V cfg 20) [] Ny (cfg.bU f) cfg.rounds fn args (tN 0 l) l.length (λv m _=>a.fit v m)
def akL:PT:=λ_ _ _ _=>.fail "not to be called"
theorem Nz (f:FuncId):aq P f akL:=λ_ _ _ _ h=>h.elim
theorem ED:bC akL:=λ_ _ _ _ _ _ h=>h
def ad1 (m:Mem)(v:SV):Option (List h_):=match v with
 | .slc key o n _ _=>(match m.get key with
   | some (.cells cs _ _)=>strCells ((cs.drop o).take n)
   | _=>N)
 | _=>N
theorem abH {cs:List SV}{l:List h_}(h:strCells (cs.take n)=H l)(hn:n<=cs.length):jw (λi=>UL (cs.getD (i*1+0) .eJ)) 0 n=l:=by
 obtain⟨g1,g2⟩:=Jm h;rw[List.length_take] at g1;apply List.ext_getElem?;intro i;by_cases hi:i<n
 ·have hl:i<l.length:=by omega
  obtain⟨b,hb⟩:=g2 i _ (b_ hl);rw[List.getElem?_take_of_lt hi] at hb;unfold jw;rw[List.getElem?_map,List.getElem?_range hi,b_ hl];simp only[Option.map_some,Y,Nat.mul_one,Nat.add_zero,a_,hb,Option.getD_some,UL]
 ·rw[a! (by rw[xq];omega),a! (by omega)]
theorem ajs {l:List SV}(hc:0<ay.length): ∀ {n:Nat},RX l 1 ay n=I->n<=l.length
 | 0,_=>c7 _
 | i+1,h=>by
   simp only[RX,Q] at h;cases ay with
   | nil=>simp at hc
   | cons c r =>have:=h.1;simp only[D9,Q,c6] at this;omega
theorem aki {v:SV}{s:Seen}{f:Nat->h_}{l:List h_}(h:Li [.str λ_=>[]] m v=H (p,s))(hc:s.ay=[.str f])(hl:ad1 m v=H l):jw f 0 s.n=l:=by
 unfold ad1 at hl;split at hl
 ·rename_i key o n cl c;simp only[Li] at h;split at h
  ·rename_i cs tot ty hk;rw[hk] at hl;simp only at hl;cases n with
   | zero =>injection h with h;injection h with h1 h2;subst h2;simp[strCells] at hl;subst hl;rfl
   | succ n =>
     simp only at h;split at h
     ·rename_i ay hcols;split at h
      ·rename_i hall;injection h with h;injection h with h1 h2;subst h2;simp only at hc;subst hc;simp only[List.length_cons,List.length_nil,Y,N6] at hcols;split at hcols
       ·rename_i a b ha hb;cases hb;injection hcols with e;injection e with e _;subst e;have hlen:=ajs (by simp) hall;unfold X2 at ha;split at ha
        ·cases ha
        ·cases ha
        ·cases ha;exact abH hl hlen
        ·cases ha
       ·cases hcols
      ·cases h
     ·cases h
  ·cases h
 ·cases hl
noncomputable def yS (q:List h_->Prop)(g:List h_->SV):PT:=λargs m nx K=>match args with
 | [v]=>(match Li [.str λ_=>[]] m v with
   | some (p,s)=>(match s.ay with
     | [.str f]=>(match ad1 m v with
       | some l=>.and (.atom (p/\q l)) (K (g l) m nx)
       | none=>.and (.atom (p/\q (jw f 0 s.n))) (K (g (jw f 0 s.n)) m nx))
     | _=>.fail "texts that are not known")
   | none=>.fail "texts that are not known")
 | _=>.fail "arguments"
theorem DU (q:List h_->Prop)(g:List h_->SV):bC (yS q g):=by
 intro args m nx K K' hK h;unfold yS at h ⊢;split at h
 ·split at h
  ·split at h
   ·split at h<;>exact⟨h.1,hK _ _ _ h.2⟩
   ·exact h
  ·exact h
 ·exact h
def shS:List E6:=[.of (.slice [.str λ_=>[]])]
def rowOf (vs:List SV)(l:List Seen):Option (Nat×(Nat->h_)×Bool×Nat×Nat×Option Nat):=match vs,l with
 | [_],[⟨key,z,o,n,c,[.str f]⟩]=>H (n,f,z,o,c,key)
 | _,_=>N
theorem QK {vs:List SV}{l:List Seen}{f:Nat->h_}{key:Option Nat}(h:rowOf vs l=H (n,f,z,o,c,key)):filled shS vs l=[.cT 0 1 z o 0 n c]/\l=[⟨key,z,o,n,c,[.str f]⟩]:=by
 unfold rowOf at h;split at h
 ·injection h with h;injection h with h1 h;injection h with h2 h;injection h with h3 h;injection h with h4 h;injection h with h5 h6;subst h1;subst h2;subst h3;subst h4;subst h5;subst h6;exact⟨rfl,rfl⟩
 ·cases h
def Jo (q:List h_->Prop)(g:List h_->SV)(vs:List SV)(l:List Seen):Option (Prop×fC):=match rowOf vs l with
 | some (n,f,_)=>H (q (jw f 0 n),.ret (g (jw f 0 n)))
 | none=>N
theorem Xe {q:List h_->Prop}{g:List h_->SV}(h:aq P f (bV shS (Jo q g))):aq P f (yS q g):=by
 intro args m nx K hk hwf hargs Γ E w hs;refine h args m nx K ?_ hwf hargs Γ E w hs;unfold yS at hk;split at hk
 ·rename_i v;split at hk
  ·rename_i p s hv;split at hk
   ·rename_i f' hc;have hk:(VC.and (.atom (p/\q (jw f' 0 s.n))) (K (g (jw f' 0 s.n)) m nx)).holds:=by
     split at hk
     ·rename_i l hl;rw[aki hv hc hl];exact hk
     ·exact hk
    obtain⟨key,z,o,n,c,ay⟩:=s;simp only at hc;subst hc;have e:wE m 0 shS [v]=H ([(⟨key,z,o,n,c,[.str f']⟩:Seen).sv 0],(p/\True),[⟨key,z,o,n,c,[.str f']⟩]):=by simp only[shS,wE,Tt,PB,hv,bn]
    unfold bV;rw[e];exact⟨⟨⟨hk.1.1,trivial⟩,hk.1.2⟩,hk.2⟩
   ·exact hk.elim
  ·exact hk.elim
 ·exact hk.elim
noncomputable def runT (cfg:iG)(f:Nat)(fn:Func)(n:Nat)(F:Nat->h_)(z:Bool)(o c:Nat)(key:Option Nat)(g:List h_->SV):VC :=je cfg f fn [.cT 0 1 z o 0 n c] [⟨key,z,o,n,c,[.str F]⟩] (.ret (g (jw F 0 n)))
def UI (n:Int):h_:=[J (n/72057594037927936%256).toNat,J (n/281474976710656%256).toNat,J (n/1099511627776%256).toNat,J (n/4294967296%256).toNat,J (n/16777216%256).toNat,J (n/65536%256).toNat,J (n/256%256).toNat,J (n/1%256).toNat]
def p6 (T:h_):Nat:=(119-T.length%64)%64
def UM (T:h_):h_:=128::(List.replicate (p6 T) 0++UI ((T.length:Int)%18446744073709551616*8%18446744073709551616))
def jt (T:h_):h_:=T++UM T
def aBA (W:Nat->Int):h_:=[J (W 0/16777216%256).toNat,J (W 0/65536%256).toNat,J (W 0/256%256).toNat,J (W 0%256).toNat,J (W 1/16777216%256).toNat,J (W 1/65536%256).toNat,J (W 1/256%256).toNat,J (W 1%256).toNat,J (W 2/16777216%256).toNat,J (W 2/65536%256).toNat,J (W 2/256%256).toNat,J (W 2%256).toNat,J (W 3/16777216%256).toNat,J (W 3/65536%256).toNat,J (W 3/256%256).toNat,J (W 3%256).toNat,J (W 4/16777216%256).toNat,J (W 4/65536%256).toNat,J (W 4/256%256).toNat,J (W 4%256).toNat,J (W 5/16777216%256).toNat,J (W 5/65536%256).toNat,J (W 5/256%256).toNat,J (W 5%256).toNat,J (W 6/16777216%256).toNat,J (W 6/65536%256).toNat,J (W 6/256%256).toNat,J (W 6%256).toNat,J (W 7/16777216%256).toNat,J (W 7/65536%256).toNat,J (W 7/256%256).toNat,J (W 7%256).toNat]
def bg (T:h_):h_:=aBA (dN (jt T) ((jt T).length/64))
noncomputable def ad7:List (FuncId×PT):=(60,Bu M9 Lo)::lM
theorem S6:aR V (λf=>av f ad7):=.cons atN (At _ _) iF
noncomputable def af7:iG:={bQ with cO:=λf=>av f ad7}
theorem ay3:Sx.Good V af7:=.of bI S6 aO
def Xf:List SV->Option (Sh×h_->Prop×(Unit->Prop×SV×(Sh×h_)))
 | [.ptr 0 I 0]=>H λg=>(Xv g.1 g.2/\g.2.length<1152921504606846976,λ_=>(True,.str G (bg g.2),g))
 | _=>N
noncomputable def ape:List (FuncId×PT):=(61,Bu M9 Xf)::ad7
noncomputable def aA4 (n:Nat)(f:Nat->h_):aN :={α:=Nat×Sh,pre:=λ_ x=>x.1<=n/\Xv x.2 (flat (jw f 0 x.1)),nF:=λ_ x=>n-x.1,fresh:=0,slots:=λ_ x=>[(9,.int .i64 G x.1)],mem:=λ_ x=>[(1,x.2.sb)]}
noncomputable def anp (n:Nat)(f:Nat->h_):iG:={bQ with cO:=λf=>av f ape,bU:=λg=>if g=25 then [(3,always (aA4 n f))] else []}
def ofQ (l:List h_):Prop:=(flat l).length<1152921504606846976/\l.length<1152921504606846976
def ofG (l:List h_):SV:=.str G (bg (flat l))
section
variable (n : Nat) (s : h_) (a b c d : Int) (f : Nat-> h_) (x : Sh) (y : Nat × Sh) (z : List h_) (g h : Nat-> Sh × h_-> SV) (A : Sh × h_) (o : Seen)
abbrev qz9:Nat->Sh×h_->SV:=λa=>λb=>kG (b.1.B a) G
abbrev aqe:Nat->Sh×h_->SV:=λa=>λb=>cr (b.1.W a)
abbrev aqy:=SB.cells (g 0 A::g 1 A::aG (g 2 A) (g 3 A) (g 4 A) (g 5 A) (g 6 A) (g 7 A) (h 0 A) (h 1 A) (aG (h 2 A) (h 3 A) (h 4 A) (h 5 A) (h 6 A) (h 7 A) (h 8 A) (h 9 A) (aG (h 10 A) (h 11 A) (h 12 A) (h 13 A) (h 14 A) (h 15 A) (h 16 A) (h 17 A) (aG (h 18 A) (h 19 A) (h 20 A) (h 21 A) (h 22 A) (h 23 A) (h 24 A) (h 25 A) (aG (h 26 A) (h 27 A) (h 28 A) (h 29 A) (h 30 A) (h 31 A) (h 32 A) (h 33 A) (aG (h 34 A) (h 35 A) (h 36 A) (h 37 A) (h 38 A) (h 39 A) (h 40 A) (h 41 A) (aG (h 42 A) (h 43 A) (h 44 A) (h 45 A) (h 46 A) (h 47 A) (h 48 A) (h 49 A) (aG (h 50 A) (h 51 A) (h 52 A) (h 53 A) (h 54 A) (h 55 A) (h 56 A) (h 57 A) (aG (h 58 A) (h 59 A) (h 60 A) (h 61 A) (h 62 A) (h 63 A) (bF A.1.held) (jJ A.1.size) M))))))))) 74 171
abbrev zP:=1+(119-x.held)%64
abbrev Ie:=i7 (x.size*8)
abbrev iw:=zP x+a
abbrev aqK:=b7 (λa=>og a (dR (iw 7 x)) (dQ (Ie x/1)) (og a (dR (iw 6 x)) (dQ (iu (Ie x))) (og a (dR (iw 5 x)) (dQ (Ie x/65536)) (og a (dR (iw 4 x)) (dQ (Ie x/16777216)) (og a (dR (iw 3 x)) (dQ (Ie x/4294967296)) (og a (dR (iw 2 x)) (dQ (Ie x/1099511627776)) (og a (dR (iw 1 x)) (dQ (Ie x/281474976710656)) (og a (dR (iw 0 x)) (dQ (Ie x/72057594037927936)) (og a 0 128 0))))))))) 0 (Int.toNat (iw 8 x))
abbrev zT:=Int.toNat (iw 8 x)
abbrev FR:=NI (zT x)
abbrev nL:=fM (fM (fM (fM s d) (iu c)) (b/65536)) (a/16777216)
abbrev avA:Nat->SV:=λa=>SV.int IntKind.u32 I (NI a)
abbrev FD:=NI y.1
abbrev ahF:=br y.1 n (Xv y.2 (flat (jw f 0 y.1)))
abbrev tg:=Sr (Seen.B o)
abbrev qw:=bg (flat z)
end
theorem aBV (x:Sh)(T:h_):VC.holds (DO af7 61 Tryz.f61 [.ptr 0 I 0] M9 (x,T) (λ_:Unit=>(True,.str G (bg T),(x,T))))=((fun(a:Nat->SV)=>(fun(b:Nat->SV)=>(fun(c:Nat->Sh×h_->SV)=>(fun(d:Nat->Sh×h_->SV)=>aT (iJ 119 x.held) (dU (119-x.held) (fQ (119-x.held)) ((0:Int)<64)) (I6 (zP x)) (dK (zP x) 8) (az (Er (iw 8 x)) (0<=iw 8 x) (A7 (1*iw 8 x)) (fQ (iw 8 x))) (Ix 0 (FR x)) (0<zT x) (I6 (zP x)) (aT (dK (zP x) 0) (Ix (iw 0 x) (FR x)) (fO (zT x) (iw 0 x)) (I6 (zP x)) (dD (zP x)) (Ix (iw 1 x) (FR x)) (fO (zT x) (iw 1 x)) (I6 (zP x)) (aT (dK (zP x) 2) (Ix (iw 2 x) (FR x)) (fO (zT x) (iw 2 x)) (I6 (zP x)) (dK (zP x) 3) (Ix (iw 3 x) (FR x)) (fO (zT x) (iw 3 x)) (I6 (zP x)) (aT (dK (zP x) 4) (Ix (iw 4 x) (FR x)) (fO (zT x) (iw 4 x)) (I6 (zP x)) (dK (zP x) 5) (Ix (iw 5 x) (FR x)) (fO (zT x) (iw 5 x)) (I6 (zP x)) (aT (dK (zP x) 6) (Ix (iw 6 x) (FR x)) (fO (zT x) (iw 6 x)) (I6 (zP x)) (dK (zP x) 7) (Ix (iw 7 x) (FR x)) (fO (zT x) (iw 7 x)) (b8 (zT x) (zT x)) (∃(e:Sh×h_),aj (aa (aqV x a b) (aqy c d e)) (Xv e.1 e.2/\dA (aqK x)) (∀(a:Sh),Xv a (e.2++aqK x)->(∃(_:Unit),dx True (Sr (M9 (x,T))) (SV.str (G&&tc G G (mq G G G G (mq G G G G (mq G G G G (mq G G G G (mq G G G G (mq G G G G Qh))))))) (nL (nL (nL (nL (nL (nL (nL (nL M (a.W 7) (a.W 7) (a.W 7) (a.W 7)) (a.W 6) (a.W 6) (a.W 6) (a.W 6)) (a.W 5) (a.W 5) (a.W 5) (a.W 5)) (a.W 4) (a.W 4) (a.W 4) (a.W 4)) (a.W 3) (a.W 3) (a.W 3) (a.W 3)) (a.W 2) (a.W 2) (a.W 2) (a.W 2)) (a.W 1) (a.W 1) (a.W 1) (a.W 1)) (a.W 0) (a.W 0) (a.W 0) (a.W 0))) (aA (bg T)))))))))) qz9) aqe) (λa=>kG (x.B a) G)) (λa=>cr (x.W a))):=by kernel_rfl
theorem aCt (n:Nat)(f:Nat->h_)(z:Bool)(o c:Nat)(key:Option Nat):VC.holds (je (anp n f) 25 Tryz.f25 [.cT 0 1 z o 0 n c] [⟨key,z,o,n,c,[.str f]⟩] (.ret (.str G (bg (flat (jw f 0 n))))))=((fun(a:Nat->SV)=>(fun(b:Nat->Nat×Sh->SV)=>(fun(d:Nat->Nat×Sh->SV)=>(fun(e:Nat->Nat×Sh->SV)=>(fun(g:Nat->Nat×Sh->SV)=>(fun(h:Nat->Sh×h_->SV)=>(fun(i:Nat->Sh×h_->SV)=>(fun(j:Nat->Sh->SV)=>(fun(k:Nat->Sh->SV)=>(fun(l:Nat->Nat×Sh->SV)=>(fun(m:Nat->Nat×Sh->SV)=>(fun(p:Nat->Sh×h_->SV)=>(fun(q:Nat->Sh×h_->SV)=>(fun(e:Nat×Sh->SB)=>(∃(e:Nat×Sh),aC (ahF n f e) (0=FD e) (bH 74 (RJ e b d) (a 1779033703::a 3144134277::aG (a 1013904242) (a 2773480762) (a 1359893119) (a 2600822924) (a 528734635) (a 1541459225) gH gH (aG gH gH gH gH gH gH gH gH (aG gH gH gH gH gH gH gH gH (aG gH gH gH gH gH gH gH gH (aG gH gH gH gH gH gH gH gH (aG gH gH gH gH gH gH gH gH (aG gH gH gH gH gH gH gH gH (aG gH gH gH gH gH gH gH gH (aG gH gH gH gH gH gH (bq 0) (SV.int IntKind.u64 I 0) M))))))))) 171) (tg (Seen.mk key z o n c (bJ f M))) True)/\(∀(a:Nat×Sh),ahF n f a->lS n (FD a) (aj (cw n (FD a)) (cQ o (fO n (FD a))) (∃(b:Sh×h_),aj (aa (e a) (aqy h i b)) (Xv b.1 b.2/\dA (f (dR (FD a)))) (∀(d:Sh),Xv d (b.2++f (dR (FD a)))->jk (FD a) (∃(b:Nat×Sh),aC (ahF n f b/\aP n b.1 n a.1) (bt (FD a) (FD b)) (aa (Mi d j k) (RJ b l m)) (tg (Seen.mk key z o n c (bJ f M))) True)))) (∃(b:Sh×h_),aj (aa (e a) (aqy p q b)) (Xv b.1 b.2/\dA b.2) (∀(_:Unit),True->ai (ab0 1 (aA (bg b.2))) (aA (qw (jw f 0 n))))))) (λa=>RJ a e g)) qz9) aqe) qz2) qz3) qz4) qz5) qz9) aqe) qz2) qz3) qz2) qz3) avA):=by kernel_rfl
def amj (k:Int)(A B C D E:Prop):Prop:=(O (k=0)=I->A)/\(O (k=0)=G->(O (k=1)=I->B)/\(O (k=1)=G->(O (k=2)=I->C)/\(O (k=2)=G->(O (k=3)=I->D)/\(O (k=3)=G->E))))
theorem aCc {k:Int}{B E:Prop}(h:k=0)(a:A):amj k A B C D E:=by subst h;exact⟨λ_=>a,λh=>absurd h (by decide)⟩
theorem aCd {k:Int}{B E:Prop}(h:k=1)(a:B):amj k A B C D E:=by subst h;exact⟨λh=>absurd h (by decide),λ_=>⟨λ_=>a,λh=>absurd h (by decide)⟩⟩
theorem aCe {k:Int}{B E:Prop}(h:k=2)(a:C):amj k A B C D E:=by subst h;exact⟨λh=>absurd h (by decide),λ_=>⟨λh=>absurd h (by decide),λ_=>⟨λ_=>a,λh=>absurd h (by decide)⟩⟩⟩
theorem aCf {k:Int}{B E:Prop}(h:k=3)(a:D):amj k A B C D E:=by subst h;exact⟨λh=>absurd h (by decide),λ_=>⟨λh=>absurd h (by decide),λ_=>⟨λh=>absurd h (by decide),λ_=>⟨λ_=>a,λh=>absurd h (by decide)⟩⟩⟩⟩
theorem VA {k:Int}{B E:Prop}(h:k= -1)(a:E):amj k A B C D E:=by subst h;exact⟨λh=>absurd h (by decide),λ_=>⟨λh=>absurd h (by decide),λ_=>⟨λh=>absurd h (by decide),λ_=>⟨λh=>absurd h (by decide),λ_=>a⟩⟩⟩⟩
theorem WT {f g:Nat->h_}(h: ∀ j,j<16->f j=g j):aa (.cells [.int .i64 G 3,.str G [],.str G [],.str G (f 0),.str G (f 1),.str G (f 2),.str G (f 3),.str G (f 4),.str G (f 5),.str G (f 6),.str G (f 7),.str G (f 8),.str G (f 9),.str G (f 10),.str G (f 11),.str G (f 12),.str G (f 13),.str G (f 14),.str G (f 15)] tot ty) (.cells [.int .i64 G 3,.str G [],.str G [],.str G (g 0),.str G (g 1),.str G (g 2),.str G (g 3),.str G (g 4),.str G (g 5),.str G (g 6),.str G (g 7),.str G (g 8),.str G (g 9),.str G (g 10),.str G (g 11),.str G (g 12),.str G (g 13),.str G (g 14),.str G (g 15)] tot ty):=by rw[h 0 (by decide),h 1 (by decide),h 2 (by decide),h 3 (by decide),h 4 (by decide),h 5 (by decide),h 6 (by decide),h 7 (by decide),h 8 (by decide),h 9 (by decide),h 10 (by decide),h 11 (by decide),h 12 (by decide),h 13 (by decide),h 14 (by decide),h 15 (by decide)];exact aa.refl _
theorem aa9 (h:ax t i≠[128])(j:Nat):(if i=j then ax t i else Cd t i j)=Cd t (i+1) j:=by
 unfold Cd;by_cases e:i=j
 ·subst e;rw[o_ rfl,o_ (show i<i+1 by omega),fV,p_ h]
 ·rw[p_ e];by_cases e1:j<i
  ·rw[o_ e1,o_ (show j<i+1 by omega)]
  ·rw[p_ e1,p_ (show ¬ j<i+1 by omega)]
theorem aa8 (h:ax t i=[128])(j:Nat):Cd t i j=Cd t (i+1) j:=by
 unfold Cd;by_cases e:i=j
 ·subst e;rw[p_ (show ¬ i<i by omega),o_ (show i<i+1 by omega),fV,o_ h]
 ·by_cases e1:j<i
  ·rw[o_ e1,o_ (show j<i+1 by omega)]
  ·rw[p_ e1,p_ (show ¬ j<i+1 by omega)]
attribute [local irreducible] ax ck ga af c9 aH e9 gk gU fc gM
theorem aeW (hs:s.length<1099511627776):au (jd (ant s) 167 cx [.str G s] (ar3 s)):=by
 refine au.j7 (aAD s) (by delta Fk Bk I6 Ix Sr Er NI fu aJ bF bq kI cP aj aC az cU bE bt aA fR eY fz dy cW aY DE aX gE bN bJ cY gW br cK aP gS fy i5 cR fE dF pZ bS gI nu lu aG pH qN mJ nJ k7 oN jX dB kO tu T5 GI lg sG uc mw pG rN vb vf Di mT BN lI iD Ql arM z6 My ew yF tn;exact rfl) ?_
 try dsimp only
 have hin:=Hl s;have hit:=Kb (af s);have hin2:=λk=>Hl (ax (af s) k);refine⟨by omega,λa=>aCc ?_ (λ_=>rfl),λa=>⟨by omega,λb=>⟨λc=>VA ?_ ⟨iL,λ_=>rfl⟩,λc=>⟨λd=>VA ?_ ⟨iL,λ_=>rfl⟩,λd=>⟨by omega,λe=>λcap hcap=>⟨λf=> ?_,λf=>⟨λg=> ?_,λg=>VA ?_ ⟨iL,λ_=>rfl⟩⟩⟩,λe=>VA ?_ ⟨iL,λ_=>rfl⟩⟩⟩⟩,λb=>VA ?_ ⟨iL,λ_=>rfl⟩⟩⟩
 ·have a:s=[128]:=i_ a;rw[bO,o_ a]
 ·have a: ¬ s=[128]:=j_ a;have c:e9 s=false:=by simpa using c
  rw[bO,p_ a,b,c];rfl
 ·have a: ¬ s=[128]:=j_ a;have c:e9 s=true:=by simpa using c
  have d:O (aH s=[])=false:=by simpa using d
  rw[bO,p_ a,b,c,d];rfl
 ·have a: ¬ s=[128]:=j_ a;have c:e9 s=true:=by simpa using c
  have d:O (aH s=[])=true:=by simpa using d
  have f:=i_ f;have f:ck (af s)=2:=by omega
  have hk:bO s=xY (af s):=by rw[bO,p_ a,b,c,d,u9,e,o_ f];rfl
  have i0:=hit 0;have i1:=hit 1;have i2:=hin2 0;refine⟨by omega,by omega,by omega,by omega,by omega,λg=>⟨by omega,λh=>⟨λk=>aCe ?_ (λ_=>rfl),λk=>⟨by omega,λl=>aCd ?_ (λ_=>rfl),λl=>VA ?_ ⟨⟨1,gM (af (ax (af s) 0)),[],bX⟩,λ_=>rfl⟩⟩⟩,λh=>VA ?_ ⟨iL,λ_=>rfl⟩⟩,λg=>VA ?_ ⟨iL,λ_=>rfl⟩⟩
  ·have k:fc (af (ax (af s) 0))=false:=by simpa using k
   rw[hk,xY,g,h,k];rfl
  ·have k:fc (af (ax (af s) 0))=true:=by simpa using k
   rw[hk,xY,g,h,k,l];rfl
  ·have k:fc (af (ax (af s) 0))=true:=by simpa using k
   rw[hk,xY,g,h,k,l];rfl
  ·rw[hk,xY,g,h];rfl
  ·rw[hk,xY,g];rfl
 ·have a: ¬ s=[128]:=j_ a;have c:e9 s=true:=by simpa using c
  have d:O (aH s=[])=true:=by simpa using d
  have f:=j_ f;have f: ¬ ck (af s)=2:=by omega
  have g:=i_ g;have g:ck (af s)=17:=by omega
  have hk:bO s=bif gk (ax (af s) 16)then 3 else -1:=by rw[bO,p_ a,b,c,d,u9,e,p_ f,o_ g];rfl
  have i16:=hit 16;refine⟨⟨0,by omega,rfl,Sx.aa.cells (λE=>rfl) rfl,aa.refl _,aa.refl _,aa.refl _,trivial⟩,λi hi=>⟨λh=> ?_,λh=> ?_⟩⟩
  ·have h:=i_ h;rw[Int.toNat_natCast,Y];refine⟨by omega,by omega,by omega,rfl,λk=>⟨by omega,by omega,by omega,by omega,by omega,i+1,by omega,by omega,?_,aa.refl _,aa.refl _,aa.refl _,trivial⟩,λk=>⟨by omega,i+1,by omega,by omega,?_,aa.refl _,aa.refl _,aa.refl _,trivial⟩⟩
   ·have k: ¬ ax (af s) i=[128]:=by
     have:O (ax (af s) i=aS [])=false:=by simpa using k
     exact j_ this
    exact WT (f:=λj=>if i=j then ax (af s) i else Cd (af s) i j) λj _=>aa9 k j
   ·have k:ax (af s) i=[128]:=by
     have:O (ax (af s) i=aS [])=true:=by simpa using k
     exact i_ this
    exact WT λj _=>aa8 k j
  ·have h:=j_ h;have ei:i=16:=by omega
   subst ei;refine⟨by omega,by omega,by omega,λk=>aCf ?_ (λ_=>rfl),λk=>VA ?_ ⟨⟨3,[],[],iq (fV (af s))⟩,λ_=>rfl⟩⟩
   ·rw[hk,k];rfl
   ·rw[hk,k];rfl
 ·have a: ¬ s=[128]:=j_ a;have c:e9 s=true:=by simpa using c
  have d:O (aH s=[])=true:=by simpa using d
  have f:=j_ f;have f: ¬ ck (af s)=2:=by omega
  have g:=j_ g;have g: ¬ ck (af s)=17:=by omega
  rw[bO,p_ a,b,c,d,u9,e,p_ f,p_ g];rfl
 ·have a: ¬ s=[128]:=j_ a;have c:e9 s=true:=by simpa using c
  have d:O (aH s=[])=true:=by simpa using d
  rw[bO,p_ a,b,c,d,u9,e];rfl
 ·have a: ¬ s=[128]:=j_ a;rw[bO,p_ a,b];rfl
def Qw:List SV->Option (Prop×fC)
 | [.str G s]=>H (s.length<1099511627776,ar3 s)
 | _=>N
theorem avH:aq V 167 (bZ Qw):=by
 refine ee (n:=20) Tryz.func167 (by kernel_rfl) (by kernel_rfl) ?_;intro args p a h hp;unfold Qw at h;split at h
 ·rename_i s;cases h;refine⟨_,ay0 s,rfl,λb=> ?_,aeW hp⟩;cases b with
  | true=>exact rfl
  | false =>
    intro b;cases b with
    | true=>exact rfl
    | false =>
      intro b;cases b with
      | true=>exact rfl
      | false =>
        intro b;cases b with
        | true=>exact rfl
        | false=>exact λx=>rfl
 ·cases h
end
section
open Go Sx
set_option maxRecDepth 20000
noncomputable def Kv:List (FuncId×PT):=(167,bZ Qw)::V6
theorem zw:aR V (λf=>av f Kv):=.cons avH (bK _) Ku
def Rel (L:Nat)(t:h_):Prop:=(t.length<L∨32<=t.length)/\t.length<9223372036854775808
def aoG (t:h_):fC:=.fork (cS t) λb=>match b with
 | true=>.ret (.dr [(getD t).sv,.bool I I])
 | false=>.ret (.dr [jm,.bool I G])
def jS (L:Nat):List SV->Option (Prop×fC)
 | [.str G t]=>H (Rel L t,aoG t)
 | _=>N
noncomputable def ad2 (L:Nat):List (FuncId×PT):=(155,bZ (jS L))::Kv
noncomputable def ani (L:Nat):iG:={bQ with cO:=λf=>av f (ad2 L)}
noncomputable def aA2 (x:Nd):aN :=
 {α:=Nat,pre:=λ_ i=>i<=16/\rC cS x.r i=I,nF:=λ_ i=>16-i,fresh:=0,slots:=λ_ i=>[(7,.int .i64 G i)],
  mem:=λ_ i=>[(2,.cells [.int .i64 G (min (x.v.length:Int) 1+fH x.r i)] 1 3)]}
noncomputable def am2 (L:Nat)(x:Nd):iG:={bQ with cO:=λf=>av f (ad2 L),bU:=λf=>if f=201 then [(1,always (aA2 x))] else []}
def pN (L:Nat)(r:Nat->h_):Prop:=∀ j,j<16->Rel L (r j)
noncomputable def apb (L:Nat):List (FuncId×PT):=(187,aI (js λx=>H (Rel L (x.r 0),.bool G (yu cS x))))::(188,aI (js λx=>H (pN L x.r,.bool G (iS cS x))))::Kv
noncomputable def Cu (L:Nat):iG:={bQ with cO:=λf=>av f (apb L)}
noncomputable def ad3 (L:Nat):List (FuncId×PT):=(152,aI (js λx=>H (pN L x.r,.bool G (aZ x))))::(153,aI (js λx=>H ((0<=x.k/\x.k<=3)/\x.An,.str G (eM x))))::Kv
noncomputable def anj (L:Nat):iG:={bQ with cO:=λf=>av f (ad3 L)}
def Yy (s:h_):fC:=.fork (bM s) λb=>match b with
 | true=>.ret (.dr [(getD s).sv,.int .i64 I 0])
 | false=>.ret (.dr [jm,.int .i64 I 2])
def wh (L:Nat):List SV->Option (Prop×fC)
 | [.str G s]=>H (s.length<=L/\s.length<1099511627776,Yy s)
 | _=>N
noncomputable def aw1 (L:Nat):iG:={bQ with cO:=λf=>av f ((127,bZ (wh L))::Kv)}
noncomputable def ano:iG:={bQ with cO:=λf=>av f ((127,λ_ _ _ _=>.fail "not to be called")::Kv)}
theorem ayV:Sx.Good V ano:=.of bI (aR.cons (λ_ _ _ _ h=>h.elim) (λ_ _ _ _ _ _ h=>h) zw) aO
section
variable (n m : Nat) (s : h_) (a : Int) (p q : Prop) (v w g : SV) (z : Nat-> h_) (x : Nd) (B D : SB) (f : Nat-> SV) (y : Loop)
abbrev hJ:=p/\False
abbrev WS:List h_:=M::M::M::M::M::M::M::dS M M M M M M M M M
abbrev Xw:Nat->h_:=λa=>aU a (M::WS)
abbrev qz1:Nat->h_:=λa=>aU a (dS (bX 0) (bX 1) (bX 2) (bX 3) (bX 4) (bX 5) (bX 6) (bX 7) (dS (bX 8) (bX 9) (bX 10) (bX 11) (bX 12) (bX 13) (bX 14) (bX 15) M))
abbrev oA:=cV (lg 1 s) n
abbrev ara:Nat->h_:=λa=>aU a (dS (oA 0 s) (oA 1 s) (oA 2 s) (oA 3 s) (oA 4 s) (oA 5 s) (oA 6 s) (oA 7 s) (dS (oA 8 s) (oA 9 s) (oA 10 s) (oA 11 s) (oA 12 s) (oA 13 s) (oA 14 s) (oA 15 s) M))
abbrev nI:=iq (fV (af s)) n
abbrev arl:Nat->h_:=λa=>aU a (dS (nI 0 s) (nI 1 s) (nI 2 s) (nI 3 s) (nI 4 s) (nI 5 s) (nI 6 s) (nI 7 s) (dS (nI 8 s) (nI 9 s) (nI 10 s) (nI 11 s) (nI 12 s) (nI 13 s) (nI 14 s) (nI 15 s) M))
abbrev xG:=bP v w v g (bM s)
abbrev iX:=Nd.mk a M s z
abbrev va:=iX M 0 Xw
abbrev aaT:=cP jm (bq 2) M
abbrev Z3:=min (bx x.v) (1:Int)+fH x.r n
abbrev PN:=br n 16 (aV (rC cS x.r n))
abbrev aaC:=eY 1 (bF (Z3 n x)) M 3
abbrev Ud:=PN n x/\aP 16 n 16 m
abbrev arE:=aj (dD (Z3 n x)) (i5 n) (∃(a:Nat),az (Ud a n x) (gS n a) (bH 1 (aaC a x) [bF (Z3 n x+1)] 3) (MB x B D y))
abbrev FU:=gI (Nd.sv (getD s))
abbrev FE:=bP v (FU s) v (cP jm fR M) (cS s)
abbrev arb:=gI (k7 (bF (getD s).k) (aA (getD s).p::aA (getD s).v::KU f))
abbrev mA:=jj n (getD s)
abbrev k8:=bE x.k a p q
end
theorem awG (x:Nd)(R:SV->Prop):VC.holds (eS Hi 153 an [x.JI I 0] R)=(True/\R (aA (ff 128))):=by kernel_rfl
theorem awH (x:Nd)(R:SV->Prop):VC.holds (eS Hi 153 an [x.JI I 1] R)=(Nd.An (mZ x.v 1 (rR x) x)/\R (aA (sE (mZ x.v 1 (rR x) x)))):=by kernel_rfl
theorem awI (x:Nd)(R:SV->Prop):VC.holds (eS Hi 153 an [x.JI I 2] R)=(Nd.An (mZ x.v 2 (rR x) x)/\R (aA (B8 (mZ x.v 2 (rR x) x)))):=by kernel_rfl
theorem awJ (x:Nd)(R:SV->Prop):VC.holds (eS Hi 153 an [x.JI I 3] R)=(Nd.An (mZ x.v 3 (rR x) x)/\R (aA (mc (mZ x.v 3 (rR x) x)))):=by kernel_rfl
theorem aBL (L:Nat)(x:Nd)(R:SV->Prop):VC.holds (eS (ani L) 187 Tryz.f187 [x.sv] R)=(cE True (ij R) (gE x.v (ij R) (cE True (ij R) (aY (cW (oH x)) (R nM) (aY (Rel L (oH x)) (R (nH (cJ (getD (oH x)).k 3))) (ij R) (cS (oH x))) (cH (oH x))) (cJ (dG (rR x) 16) 1))) (pF (Mh x) 1)):=by kernel_rfl
theorem asZ (L:Nat)(x:Nd)(R:SV->Prop):VC.holds (eS (am2 L x) 188 Tryz.f188 [x.sv] R)=((fun(a:Nat->SV)=>(fun(a:SB)=>(fun(b:SB)=>gE x.p (ij R) (aM 80 (Fu x) (ij R) (∀(c:Loop),cR (∀(d:Nat),PN d x->Fk (qN d) (aY (LY d) (gX (Er c) (cW (qc d x)) (arE d x a b c) (aY (Rel L (qc d x)) (arE d x a b c) (ij R) (cS (qc d x))) (cH (qc d x))) (dF d (λe=>cX (Ud e d x) (gS d e) (MB x a b c) (aaC d x) (aaC e x))) (DH d x)) (R (nH (O (2<=Z3 d x))))) (λd=>az (PN d x) (fy d) (bH 1 (aaC d x) [SV.int IntKind.i64 gO (min (Fu x) (1:Int))] 3) (MB x a b c))))) (gW 1 fR 4)) (Ua x a)) (λa=>jj a x)):=by kernel_rfl
theorem atw (L:Nat)(x:Nd)(R:SV->Prop):VC.holds (eS (Cu L) 152 Z [x.JI I 0] R)=((True/\R (SV.bool G (wA {k:=(0:Int),p:=x.p,v:=x.v,r:=fun(u0:Nat)=>[x.r 0,x.r 1,x.r 2,x.r 3,x.r 4,x.r 5,x.r 6,x.r 7,x.r 8,x.r 9,x.r 10,x.r 11,x.r 12,x.r 13,x.r 14,x.r 15].getD u0 []:Nd})))):=by kernel_rfl
theorem atx (L:Nat)(x:Nd)(R:SV->Prop):VC.holds (eS (Cu L) 152 Z [x.JI I 1] R)=((True/\R (SV.bool G (sD {k:=(1:Int),p:=x.p,v:=x.v,r:=fun(u0:Nat)=>[x.r 0,x.r 1,x.r 2,x.r 3,x.r 4,x.r 5,x.r 6,x.r 7,x.r 8,x.r 9,x.r 10,x.r 11,x.r 12,x.r 13,x.r 14,x.r 15].getD u0 []:Nd})))):=by kernel_rfl
theorem aty (L:Nat)(x:Nd)(R:SV->Prop):VC.holds (eS (Cu L) 152 Z [x.JI I 2] R)=((Rel L ([x.r 0,x.r 1,x.r 2,x.r 3,x.r 4,x.r 5,x.r 6,x.r 7,x.r 8,x.r 9,x.r 10,x.r 11,x.r 12,x.r 13,x.r 14,x.r 15].getD 0 [])/\R (SV.bool G (yu cS {k:=(2:Int),p:=x.p,v:=x.v,r:=fun(u0:Nat)=>[x.r 0,x.r 1,x.r 2,x.r 3,x.r 4,x.r 5,x.r 6,x.r 7,x.r 8,x.r 9,x.r 10,x.r 11,x.r 12,x.r 13,x.r 14,x.r 15].getD u0 []:Nd})))):=by kernel_rfl
theorem atz (L:Nat)(x:Nd)(R:SV->Prop):VC.holds (eS (Cu L) 152 Z [x.JI I 3] R)=(((pN L fun(a:Nat)=>[x.r 0,x.r 1,x.r 2,x.r 3,x.r 4,x.r 5,x.r 6,x.r 7,x.r 8,x.r 9,x.r 10,x.r 11,x.r 12,x.r 13,x.r 14,x.r 15].getD a [])/\R (SV.bool G (iS cS {k:=(3:Int),p:=x.p,v:=x.v,r:=fun(b:Nat)=>[x.r 0,x.r 1,x.r 2,x.r 3,x.r 4,x.r 5,x.r 6,x.r 7,x.r 8,x.r 9,x.r 10,x.r 11,x.r 12,x.r 13,x.r 14,x.r 15].getD b []:Nd})))):=by kernel_rfl
theorem atA (L:Nat)(x:Nd)(R:SV->Prop):VC.holds (eS (Cu L) 152 Z [x.sv] R)=(aM x.k 0 (ij R) (aM 3 x.k (ij R) (hJ (Ix x.k 4)))):=by kernel_rfl
theorem alV (L:Nat)(s:h_):VC.holds (jd (anj L) 127 Tryz.f127 [.str G s] (Yy s))=((fun(a:Nat->SV)=>(fun(b:Nat->SV)=>(fun(c:Nat->SV)=>(fun(d:SV)=>(fun(e:SV)=>(fun(f:SV)=>(fun(g:SV)=>(fun(h:h_)=>bS s/\Fk (bO s=0) (cE (pN L Xw) (xG s d e f) (cE (aD nT ((0:Int)<=3) (Nd.An va)) (xG s d e f) (xG s g e f) (ew (eM va) s)) (aZ va)) (Fk (bO s=1) (cE (pN L qz1) (xG s d e f) (cE (aD uk ((1:Int)<=3) (Nd.An (Nd.mk 1 (gM h) (af (sG s)) qz1))) (xG s d e f) (bP (fU (k7 kI (aA (gM h)::aA (af (sG s))::KU a))) e (fU (k7 kI (aA (gM h)::aA (af (sG s))::KU a))) f (bM s)) (ew (eM (Nd.mk 1 (gM h) (af (sG s)) qz1)) s)) (aZ (Nd.mk 1 (gM h) (af (sG s)) qz1))) (Fk (bO s=2) (cE (pN L (ara s)) (xG s d e f) (cE (aD ((0:Int)<=2) ((2:Int)<=3) (Nd.An (Nd.mk 2 (gM h) M (ara s)))) (xG s d e f) (bP (fU (k7 (bq 2) (aA (gM h)::uc::KU b))) e (fU (k7 (bq 2) (aA (gM h)::uc::KU b))) f (bM s)) (ew (eM (Nd.mk 2 (gM h) M (ara s))) s)) (aZ (Nd.mk 2 (gM h) M (ara s)))) (Fk (bO s=3) (cE (pN L (arl s)) (xG s d e f) (cE (aD ((0:Int)<=3) ((3:Int)<=3) (Nd.An (iX (af (lg 16 s)) 3 (arl s)))) (xG s d e f) (bP (fU (k7 (bq 3) (uc::aA (af (lg 16 s))::KU c))) e (fU (k7 (bq 3) (uc::aA (af (lg 16 s))::KU c))) f (bM s)) (ew (eM (iX (af (lg 16 s)) 3 (arl s))) s)) (aZ (iX (af (lg 16 s)) 3 (arl s)))) (∀(_:Nd),xG s d e f))))) (af (vf s))) (fU lI)) aaT) (fU (Nd.sv (getD s)))) (cP lI (bq 2) M)) (λa=>aA (nI a s))) (λa=>aA (cV (sG s) a))) (λa=>aA (bX a))):=by kernel_rfl
theorem as9 (L:Nat)(t:h_):VC.holds (jd (aw1 L) 155 ct [.str G t] (aoG t))=((fun(a:Nat->SV)=>(fun(b:SV)=>dM 32 (bB t) (FE t b) (aD (fk L t) (bS t) (Bk (bM t) (k8 0 (FE t b) (bP (arb t a) (FU t) (arb t a) (cU jm nu) (cS t)) (getD t)) (FE t b)))) z6) (λa=>mA a t)):=by kernel_rfl
theorem alU (t:h_):VC.holds (jd ano 155 ct [.str G t] (aoG t))=((fun(a:SV)=>dM 32 (bB t) (FE t a) False) z6):=by kernel_rfl
theorem Oy (b:Int)(n:Nat):1<=(di b n).length:=by unfold di;split<;>simp
theorem Wa (h:c9 s=I)(hl:e9 s=I):(af s).length<s.length:=by have:=congrArg cL (Ho h);rw[hl] at this;unfold mb at this;have hp:=Oy 192 (af s).length;simp only[cond_true,bf] at this;omega
theorem ru (h:cH t=I):t.length=33:=by
 obtain⟨⟨h1,h2,h3⟩,h4⟩:=wm.1 h;have:=congrArg cL (Ho h1);rw[h2,h3] at this;unfold mb aS di at this;simp only[cond_false,bn,h4] at this;simp only[show ¬ ((32:Nat)=1/\ah (af t) 0<128)from by omega,if_false,bf,h4] at this
 simpa using this.symm
theorem aoH (h:OD n t=I):t.length<32:=by
 cases n with
 | zero=>simp[OD] at h
 | succ n =>simp only[OD,Q,m_] at h;exact h.1
theorem vt (h:cS t=I):t.length<32:=aoH h
theorem q8 {r:Nat->h_}: ∀ {n j:Nat},dG r n<=(j:Int)->j<n->r j=[]
 | 0,_,_,h=>absurd h (S _)
 | n+1,j,h,hj=>by
   unfold dG at h;by_cases e:r n=[]
   ·rw[o_ e] at h;by_cases ej:j=n
    ·subst ej;exact e
    ·exact q8 h (by omega)
   ·rw[p_ e] at h;omega
theorem CS {inl:h_->Bool}{r:Nat->h_}: ∀ {n j:Nat},rC inl r n=I->j<n->r j=[]∨jN inl (r j)=I
 | 0,_,_,h=>absurd h (S _)
 | n+1,j,h,hj=>by
   simp only[rC,Q,ag,m_] at h;by_cases ej:j=n
   ·subst ej;exact h.2
   ·exact CS h.1 (by omega)
theorem O8 {inl:h_->Bool}{r:Nat->h_}: ∀ {n j:Nat},j<n->r j≠[]->jN inl (r j)=G->rC inl r n=G
 | 0,_,h,_,_=>absurd h (S _)
 | n+1,j,hj,h0,h1=>by
   simp only[rC];by_cases ej:j=n
   ·subst ej;rw[h1,show O (r j=[])=G from l_ h0];simp
   ·rw[O8 (n:=n) (by omega) h0 h1];rfl
theorem AO (h:jN cS t=I):t.length<=33:=by
 simp only[jN,ag] at h;rcases h with h | h
 ·have:=ru h;omega
 ·have:=vt h;omega
theorem ZQ {l:Int}(h:pF x l=I):x.p.length<=12:=by simp only[pF,Q,m_] at h;omega
theorem Gp (h:sD x=I):x.p.length<=12/\x.v≠[]/\x.v.length<=80/\∀ j,j<16->x.r j=[]:=by simp only[sD,Q,Bool.not_eq_true',m_,n_] at h;obtain⟨h1,h2,h3,h4⟩:=h;exact⟨ZQ h1,h2,by omega,λj hj=>q8 (n:=16) (by omega) hj⟩
theorem J5 (h:yu inl x=I):x.p.length<=12/\x.v=[]/\(∀ j,1<=j->j<16->x.r j=[])/\dG x.r 16=1/\(cH (x.r 0)=I∨(inl (x.r 0)=I/\(getD (x.r 0)).k=3)):=by simp only[yu,Q,ag,m_] at h;obtain⟨h1,h2,h3,h4⟩:=h;exact⟨ZQ h1,h2,λj h1 hj=>q8 (n:=16) (by omega) hj,h3,h4⟩
theorem Au (h:iS inl x=I):x.p=[]/\x.v.length<=80/\rC inl x.r 16=I/\2<=min (x.v.length:Int) 1+fH x.r 16:=by simp only[iS,Q,m_] at h;obtain⟨h1,h2,h3,h4⟩:=h;exact⟨h1,by omega,h3,h4⟩
theorem Pn (h:wA x=I):x.k=0/\x.p=[]/\x.v=[]/\∀ j,j<16->x.r j=[]:=by simp only[wA,Q,m_,List.all_eq_true] at h;exact⟨h.1,h.2.1,h.2.2.1,λj hj=>h.2.2.2 j (List.mem_range.2 hj)⟩
theorem yj (h:mN inl x=I):(x.k=0/\wA x=I)∨(x.k=1/\sD x=I)∨(x.k=2/\yu inl x=I)∨(x.k=3/\iS inl x=I):=by
 unfold mN at h;split at h
 ·exact .inl ⟨by assumption,h⟩
 ·split at h
  ·exact .inr (.inl ⟨by assumption,h⟩)
  ·split at h
   ·exact .inr (.inr (.inl ⟨by assumption,h⟩))
   ·split at h
    ·exact .inr (.inr (.inr ⟨by assumption,h⟩))
    ·cases h
structure Nd.xJ (x:Nd):Prop where
 k:0<=x.k/\x.k<=3
 p:x.p.length<=12
 v:x.v.length<=80
 r: ∀ j,j<16->x.r j=[]∨jN cS (x.r j)=I
theorem kj (h:aZ x=I):x.xJ:=by
 rcases yj h with ⟨hk,h⟩ | ⟨hk,h⟩ | ⟨hk,h⟩ | ⟨hk,h⟩
 ·obtain⟨_,h1,h2,h3⟩:=Pn h;exact⟨by omega,by rw[h1];simp,by rw[h2];simp,λj hj=>.inl (h3 j hj)⟩
 ·obtain⟨h1,_,h2,h3⟩:=Gp h;exact⟨by omega,h1,h2,λj hj=>.inl (h3 j hj)⟩
 ·obtain⟨h1,h2,h3,_,h4⟩:=J5 h;refine⟨by omega,h1,by rw[h2];simp,λj hj=> ?_⟩;by_cases e:j=0
  ·subst e;refine .inr ?_;simp only[jN,ag];exact h4.imp id λh=>h.1
  ·exact .inl (h3 j (by omega) hj)
 ·obtain⟨h1,h2,h3,_⟩:=Au h;exact⟨by omega,by rw[h1];simp,h2,λj hj=>CS h3 hj⟩
theorem Nd.xJ.ref (h:x.xJ)(j:Nat)(hj:j<16):(x.r j).length<=33:=by
 rcases h.r j hj with h | h
 ·rw[h];simp
 ·exact AO h
theorem Nd.xJ.few (h:x.xJ):x.An:=⟨by have:=h.p;omega,by have:=h.v;omega,λj hj=>by have:=h.ref j hj;omega⟩
theorem O7 {f g:h_->Bool}{r:Nat->h_}: ∀ {n:Nat},(∀ j,j<n->r j≠[]->f (r j)=g (r j))->rC f r n=rC g r n
 | 0,_=>rfl
 | n+1,h=>by
   simp only[rC];rw[O7 λj hj=>h j (by omega)];by_cases e:r n=[]
   ·simp[e]
   ·simp only[jN,h n (by omega) e]
theorem ab2 {f g:h_->Bool}(h: ∀ j,j<16->x.r j≠[]->f (x.r j)=g (x.r j)):mN f x=mN g x:=by
 have e3:iS f x=iS g x:=by simp only[iS,O7 h]
 have e2:yu f x=yu g x:=by
  by_cases e:x.r 0=[]
  ·have hb:O (dG x.r 16=1)=G∨∃ j,1<=j/\j<16/\x.r j≠[]:=by
    by_cases hb:dG x.r 16=1
    ·exfalso;have hz: ∀ n,n<=16->(∀ j,j<n->x.r j=[])->dG x.r n=0:=by
      intro n;induction n with
      | zero=>intro _ _;rfl
      | succ n ih=>intro hn hj;rw[dG,o_ (hj n (by omega)),ih (by omega) λj hj'=>hj j (by omega)]
     have:=hz 16 (by omega) λj hj=>by
      by_cases e0:j=0
      ·subst e0;exact e
      ·exact q8 (n:=16) (by omega) hj
     omega
    ·exact .inl (l_ hb)
   by_cases hb:dG x.r 16=1
   ·rcases ‹_∨_› with h1 | ⟨j,h1,h2,h3⟩
    ·exact absurd hb (j_ h1)
    ·exact absurd (q8 (n:=16) (by omega) h2) h3
   ·simp only[yu,hb,decide_false,cj,b!]
  ·simp only[yu,h 0 (by decide) e]
 simp only[mN,e2,e3]
theorem QY (h:1<=bO s):c9 s=I/\e9 s=I/\aH s=[]/\bO s=u9 (af s):=by
 unfold bO at h ⊢;split at h
 ·omega
 ·rename_i hs
  cases h1:c9 s<;>cases h2:e9 s<;>cases h3:O (aH s=[])<;>simp only[h1,h2,h3,Bool.and_true,b!,cond_false] at h<;>first
   | omega
   | exact⟨rfl,rfl,i_ h3,by rw[p_ hs];rfl⟩
theorem WV (h:0<=bO s)(j:Nat)(hj:(getD s).r j≠[]):((getD s).r j).length<s.length:=by
 by_cases h1:1<=bO s
 ·obtain⟨g1,g2,_,_⟩:=QY h1;have hl:=Wa g1 g2;have hit:=Kb (af s);have key: ∀(r:Nat->h_),(∀ i,i<16->(r i).length<=(af s).length)->(iq r j).length<=(af s).length:=by
   intro r hr;by_cases h16:j<16
   ·have:iq r j=r j:=jr r j h16;rw[this];exact hr j h16
   ·have:iq r j=[]:=by unfold iq QA;rw[a_,a! (by simp;omega)];rfl
    rw[this];simp
  have e:((getD s).r j).length<=(af s).length:=by
   unfold getD;split
   ·exact key bX λi hi=>by rw[show bX i=(λ_=>[]) i from jr (λ_=>[]) i hi];simp
   ·split
    ·refine key (cV (ax (af s) 1)) λi hi=> ?_;have:cV (ax (af s) 1) i=(λi=>if i=0 then ax (af s) 1 else []) i:=jr (λi=>if i=0 then ax (af s) 1 else []) i hi
     rw[this];show(if i=0 then ax (af s) 1 else []).length<=_
     split
     ·exact hit 1
     ·simp
    ·split
     ·refine key (fV (af s)) λi _=> ?_;unfold fV;split
      ·simp
      ·exact hit i
     ·exact key bX λi hi=>by rw[show bX i=(λ_=>[]) i from jr (λ_=>[]) i hi];simp
  omega
 ·exfalso;apply hj;have h0:bO s=0:=by omega
  unfold getD;rw[p_ (by omega),p_ (by omega),p_ (by omega)];show bX j=[]
  by_cases h16:j<16
  ·exact jr (λ_=>[]) j h16
  ·unfold bX QA;rw[a_,a! (by simp;omega)];rfl
theorem Oq {f g:h_->Bool}(h: ∀ r:h_,r.length<t.length->f r=g r):Oo f t=Oo g t:=by
 unfold Oo;by_cases h0:0<=bO t
 ·rw[ab2 (f:=f) (g:=g) λj _ hr=>h _ (WV h0 j hr)]
 ·rw[l_ h0];rfl
theorem SI: ∀(n m:Nat) (t:h_),t.length<n->t.length<m->OD n t=OD m t
 | 0,_,_,h,_=>absurd h (S _)
 | _,0,_,_,h=>absurd h (S _)
 | n+1,m+1,t,hn,hm=>by simp only[OD];rw[Oq (t:=t) λr hr=>SI n m r (by omega) (by omega)]
theorem AI (t:h_):cS t=(O (t.length<32)&&(bM t&& !decide ((getD t).k=0))):=by
 by_cases h:t.length<32
 ·unfold cS bM;rw[show OD 32 t=(O (t.length<32)&&(Oo (OD 31) t&& !decide ((getD t).k=0)))from rfl]
  rw[Oq (t:=t) (f:=OD 31) (g:=cS) λr hr=>SI 31 32 r (by omega) (by omega)]
 ·rw[l_ h,cj];exact Bool.eq_false_iff.2 λh'=>h (vt h')
end
end Go.Proofs.YtoibaecagklkaaaGreatDoor
