/- A part of the proof. -/
import Derived.Test.YtoibaecagklkaaaGreatDoorMn
import Derived.Test.YtoibaecagklkaaaGreatDoorMm
open Bool renaming and_eq_true->N,false->A,true->F
open Go.LoopState renaming ready->I
open Go.Proofs.Tryz renaming f105->a!,f128->bf,f150->b5,f25->Y,f61->Z,func128->b6,prog->J
open List renaming all_eq_true->b7,append_assoc->b9,append_nil->b_,ext_getElem?->b!,getD_eq_getElem?_getD->ct,getElem?_append_left->cx,getElem?_append_right->cy,getElem?_eq_getElem->ag,getElem?_eq_none->S,getElem?_eq_some_iff->c4,getElem?_map->c5,getElem?_range->c6,length_append->O,length_cons->c7,length_nil->c_,length_replicate->c!,mem_append->dm,mem_range->dQ,replicate->an
open Nat renaming add_assoc->V,add_mul->d_,add_sub_cancel_left->d!,blt_eq->ec,le_refl->aC,not_lt_zero->Q,zero_add->M,zero_le->a_
open Option renaming map_some->ef,none->H,some->C
open UInt8 renaming ofNat->G
namespace Go.Proofs.YtoibaecagklkaaaGreatDoor
open Go Sx
variable {z:Bool}{az:List av}{m:Mem}{L c i j key n o:Nat}{E:Nat->Nat}{x y:Nd}{p:Prop}{v v':SV}{ty:TypeId}
namespace Sx
open Go
theorem av.GX (c:av)(i:Nat)(E E':Nat->Nat):(c.at i).val E=(c.at i).val E':=by cases c<;>rfl
structure Seen where
 key:Option Nat
 z:Bool
 o:Nat
 n:Nat
 c:Nat
 az:List av
def Seen.B (s:Seen):SB:=.view s.z s.o s.n s.az
def Seen.sv (j:Nat)(s:Seen):SV:=.bE j s.az.length s.z s.o 0 s.n s.c
def Seen.yo (m:Mem)(s:Seen):Prop:=∀ Γ E nx w,aJ Γ E m nx w->s.B.no=A->∃ key X,s.key=C key/\m.get key=C X/\X.no=A/\∃ ob,w.heap[E key]?=C ob/\∀ E',bK E' s.B ob
def BH (m:Mem)(v:SV)(s:Seen):Prop:=(∀(E E':Nat->Nat) (j:Nat),(∀ key,s.key=C key->E' j=E key)->v.val E=(s.sv j).val E')/\s.yo m
theorem qT {ce:Array Value}{fr:Nat×Nat}(h: ∀(i k:Nat) (col:av),i<n->az[k]?=C col->ce[o+i*az.length+k]?=C ((col.at i).val (λ_=>0)))(E':Nat->Nat) :
  bK E' (.view z o n az) (.cells ce ty fr):=⟨ce,ty,fr,rfl,λi k col hi hk=>by rw[av.GX col i E' (λ_=>0)];exact h i k col hi hk⟩
theorem Yd (m:Mem)(az:List av):BH m .aO ⟨H,F,0,0,0,az⟩:=⟨λ_ _ _ _=>rfl,λ_ _ _ _ _ h=>by cases h⟩
theorem uV (i:Nat)(az:List av)(k:Nat)(col:av)(h:(fq i az)[k]?=C col): ∃ d,az[k]?=C d/\∀(j:Nat) (E:Nat->Nat),(col.at j).val E=(d.at (i+j)).val E:=by obtain⟨d,h1,h2⟩:=oy h;exact⟨d,h1,λj E=>by rw[h2 j]⟩
theorem Tz {n':Nat}{z':Bool}{ro:Bool}{tot:Nat}(hk:m.get key=C (SB.rows z' n' az ro tot ty))(hz:z=z'∨0<n')(hn:i+n<=n') :
  BH m (.aX key az.length z i n c) ⟨C key,z,i*az.length,n,c,fq i az⟩:=by
 refine⟨λE E' j h=>by simp[SV.val,Seen.sv,h key rfl],λΓ E nx w hs h=> ?_⟩;have hno:(SB.rows z' n' az ro tot ty).no=false:=by
  rcases hz with rfl | hz
  ·cases n with
   | zero =>
     have hz:z=false:=by
      cases z with
      | false=>rfl
      | true=>cases h
     subst hz;rfl
   | succ n=>exact SB.jd (i:=0) (by omega)
  ·exact SB.jd (i:=0) hz
 obtain⟨ob,ho,ce,fr,rfl,_,_,_,h4⟩:=hs.oB key _ hk hno;refine⟨key,_,rfl,hk,hno,_,ho,qT λa b col ha hb=> ?_⟩;obtain⟨d,h1,h2⟩:=uV _ _ _ _ hb;have:=h4 (i+a) b d (by simp only at ha;omega) h1;rw[h2 a,av.GX d _ _ E,gY,← this];congr 1;rw[d_]
theorem TA {n':Nat}(hk:m.get key=C (SB.view z o n' az))(hn:i+n<=n') :
  BH m (.bE key az.length z o i n c) ⟨C key,z,o+i*az.length,n,c,fq i az⟩:=by
 refine⟨λE E' j h=>by simp[SV.val,Seen.sv,h key rfl],λΓ E nx w hs h=> ?_⟩;have hno:(SB.view z o n' az).no=false:=by
  cases n with
  | zero =>
    have hz:z=false:=by
     cases z with
     | false=>rfl
     | true=>cases h
    subst hz;rfl
  | succ n=>exact SB.Bu (i:=0) (by omega)
 obtain⟨ob,ho,ce,ty,fr,rfl,h4⟩:=hs.oB key _ hk hno;refine⟨key,_,rfl,hk,hno,_,ho,qT λa b col ha hb=> ?_⟩;obtain⟨d,h1,h2⟩:=uV _ _ _ _ hb;have:=h4 (i+a) b d (by simp only at ha;omega) h1;rw[h2 a,av.GX d _ _ E,gY,← this];congr 1;show o+i*az.length+a*az.length+b=o+(i+a)*az.length+b;rw[d_];omega
def acr:SV->Int
 | .int _ _ n=>n
 | _=>0
def Yq:SV->Bool
 | .bool _ b=>b
 | _=>A
def Re:SV->f_
 | .str _ s=>s
 | _=>[]
def JI (l:List SV)(w j:Nat):Option av:=match l[j]? with
 | some (.int k _ _)=>C (.int k λi=>acr (l.getD (i*w+j) .cD))
 | some (.bool _ _)=>C (.bool λi=>Yq (l.getD (i*w+j) .cD))
 | some (.str _ _)=>C (.str λi=>Re (l.getD (i*w+j) .cD))
 | _=>H
def kindOk:av->SV->Bool
 | .int k _,.int k' _ _=>decide (k=k')
 | .bool _,.bool _ _=>F
 | .str _,.str _ _=>F
 | _,_=>A
theorem RS {l:List SV}{w:Nat}{col:av}(h:JI l w j=C col)(hk:kindOk col (l.getD (i*w+j) .cD)=F)(E:Nat->Nat):(l.getD (i*w+j) .cD).val E=(col.at i).val E:=by
 unfold JI at h;split at h
 ·cases h;unfold kindOk at hk;split at hk
  ·rename_i e1 e2;injection e1 with e1 _;subst e1;simp only[p_] at hk;rw[e2];simp only[av.at,e2,acr,SV.val,hk]
  ·cases ‹av.int _ _=av.bool _›
  ·cases ‹av.int _ _=av.str _›
  ·cases hk
 ·cases h;unfold kindOk at hk;split at hk
  ·cases ‹av.bool _=av.int _ _›
  ·rename_i e1 e2;rw[e2];simp only[av.at,e2,Yq,SV.val]
  ·cases ‹av.bool _=av.str _›
  ·cases hk
 ·cases h;unfold kindOk at hk;split at hk
  ·cases ‹av.str _=av.int _ _›
  ·cases ‹av.str _=av.bool _›
  ·rename_i e1 e2;rw[e2];simp only[av.at,e2,Re,SV.val]
  ·cases hk
 ·cases h
theorem seen_cells {tot:Nat}{cl:Bool}{cs:List SV}(hk:m.get key=C (.cells cs tot ty))
  (hc: ∀(i j:Nat) (col:av),i<n->az[j]?=C col->∃ v,cs[o+i*az.length+j]?=C v/\∀ E,v.val E=(col.at i).val E):BH m (.slc key o n cl c) ⟨C key,A,o,n,c,az⟩:=by
 refine⟨λE E' j h=>by simp[SV.val,Seen.sv,h key rfl],λΓ E nx w hs _=> ?_⟩;obtain⟨ob,ho,ce,fr,rfl,_,h4,_⟩:=hs.oB key _ hk rfl;refine⟨key,_,rfl,hk,rfl,_,ho,qT λi j col hi hj=> ?_⟩;obtain⟨v,g1,g2⟩:=hc i j col hi hj;rw[h4 _ _ g1,g2 E,av.GX col i E (λ_=>0)]
def BV (l:List SV)(w:Nat):Nat->Nat->Option (List av)
 | _,0=>C []
 | j,r+1=>match JI l w j,BV l w (j+1) r with
   | some c,C cs=>C (c::cs)
   | _,_=>H
theorem BW {l:List SV}{w:Nat}: ∀ {r j:Nat} {az:List av},BV l w j r=C az->az.length=r/\∀(k:Nat) (c:av),az[k]?=C c->JI l w (j+k)=C c
 | 0,_,_,h=>by cases h;exact⟨rfl,λk c hc=>by simp at hc⟩
 | r+1,j,az,h=>by
   unfold BV at h;split at h
   ·rename_i c cs h1 h2;cases h;obtain⟨g1,g2⟩:=BW h2;refine⟨by simp[g1],λk d hd=> ?_⟩;cases k with
    | zero=>cases hd;exact h1
    | succ k =>have:=g2 k d (by simpa using hd);rw[show j+(k+1)=j+1+k by omega];exact this
   ·cases h
def tr (l:List SV)(w i j:Nat):List av->Bool
 | []=>F
 | col::r=>Nat.blt (i*w+j) l.length&&kindOk col (l.getD (i*w+j) .cD)&&tr l w i (j+1) r
theorem Am {l:List SV}{w i:Nat}: ∀ {az:List av} {j:Nat},tr l w i j az=F->∀(k:Nat) (c:av),az[k]?=C c->i*w+(j+k)<l.length/\kindOk c (l.getD (i*w+(j+k)) .cD)=F
 | [],_,_,k,c,hc=>by simp at hc
 | d::r,j,h,k,c,hc=>by
   simp only[tr,N,ec] at h;obtain⟨⟨h1,h2⟩,h3⟩:=h;cases k with
   | zero=>cases hc;exact⟨h1,h2⟩
   | succ k =>have:=Am h3 k c (by simpa using hc);rw[show j+(k+1)=j+1+k by omega];exact this
def ER (l:List SV)(w:Nat)(az:List av):Nat->Bool
 | 0=>F
 | i+1=>tr l w i 0 az&&ER l w az i
theorem ES {l:List SV}{w:Nat}{az:List av}: ∀ {n:Nat},ER l w az n=F->∀ i,i<n->tr l w i 0 az=F
 | 0,_,i,hi=>absurd hi (Q _)
 | n+1,h,i,hi=>by
   simp only[ER,N] at h;by_cases e:i=n
   ·subst e;exact h.1
   ·exact ES h.2 i (by omega)
def zY (d:List av)(m:Mem):SV->Option (Prop×Seen)
 | .aO=>C (True,⟨H,F,0,0,0,d⟩)
 | .aX key w z i n c=>(match m.get key with
   | some (.rows z' n' az _ _ _)=>if w=az.length then C ((match z,z' with
     | false,F=>0<n'/\i+n<=n'
     | z,z'=>z=z'/\i+n<=n'),⟨C key,z,i*w,n,c,fq i az⟩)else H
   | _=>H)
 | .bE key w z o i n c=>(match m.get key with
   | some (.view z' o' n' az)=>if w=az.length then C (z=z'/\o'=o/\i+n<=n',⟨C key,z,o+i*w,n,c,fq i az⟩)else H
   | _=>H)
 | .slc key o n _ c=>(match m.get key with
   | some (.cells cs _ _)=>(match n with
     | 0=>C (True,⟨C key,A,o,0,c,d⟩)
     | n+1=>(match BV (cs.drop o) d.length 0 d.length with
       | some az=>if ER (cs.drop o) d.length az (n+1)=F then C (True,⟨C key,A,o,n+1,c,az⟩)else H
       | none=>H))
   | _=>H)
 | _=>H
theorem Uf {d:List av}{s:Seen}(h:zY d m v=C (p,s))(hp:p):BH m v s:=by
 unfold zY at h;split at h
 ·injection h with h;injection h with h1 h2;subst h2;exact Yd m d
 ·rename_i key w z i n c;split at h
  ·rename_i z' n' az ro tot ty hk;split at h
   ·rename_i hc;subst hc;cases h;have hp:(z=z'∨0<n')/\i+n<=n':=by cases z<;>cases z'<;>first | exact⟨.inl hp.1,hp.2⟩ | exact⟨.inr hp.1,hp.2⟩
    exact Tz hk hp.1 hp.2
   ·cases h
  ·cases h
 ·rename_i key w z o i n c;split at h
  ·rename_i z' o' n' az hk;split at h
   ·rename_i hc;subst hc;cases h;obtain⟨rfl,rfl,hp⟩:=hp;exact TA hk hp
   ·cases h
  ·cases h
 ·rename_i key o n cl c;split at h
  ·rename_i cs tot ty hk;split at h
   ·injection h with h;injection h with h1 h2;subst h2;exact seen_cells hk λi j col hi=>absurd hi (Q _)
   ·rename_i n;split at h
    ·rename_i az hcols;split at h
     ·rename_i hall;injection h with h;injection h with h1 h2;subst h2;obtain⟨g1,g2⟩:=BW hcols;refine seen_cells hk λi j col hi hj=> ?_;have h1:=g2 j col hj;obtain⟨h2,h3⟩:=Am (ES hall i hi) j col hj;rw[M] at h1 h2 h3;have h4:=RS h1 h3;refine⟨(cs.drop o).getD (i*d.length+j) .cD,?_,h4⟩;rw[g1,V,← List.getElem?_drop,ct,ag h2];rfl
     ·cases h
    ·cases h
  ·cases h
 ·cases h
inductive Zv where
 | one
 | slice (d:List av)
inductive AZ where
 | of (h:Zv)
 | agg (l:List Zv)
abbrev Pk (α:Type):=Option (α×Prop×List Seen)
def Dl (m:Mem)(j:Nat)(h:Zv)(v:SV):Pk SV:=match h with
 | .one=>if v.wf 0=F then C (AS v,True,[])else H
 | .slice d=>match zY d m v with
   | some (p,s)=>C (s.sv j,p,[s])
   | none=>H
def zw (m:Mem):Nat->List Zv->List SV->Pk (List SV)
 | _,[],[]=>C ([],True,[])
 | j,h::hs,v::vs=>(match Dl m j h v with
   | some (v',p,l)=>(match zw m (j+l.length) hs vs with
     | some (vs',q,r)=>C (v'::vs',p/\q,l++r)
     | none=>H)
   | none=>H)
 | _,_,_=>H
def Gb (m:Mem)(j:Nat)(h:AZ)(v:SV):Pk SV:=match h,v with
 | .of h,v=>Dl m j h v
 | .agg hs,.agg vs=>(match zw m j hs vs with
   | some (vs',p,l)=>C (.agg vs',p,l)
   | none=>H)
 | _,_=>H
def qA (m:Mem):Nat->List AZ->List SV->Pk (List SV)
 | _,[],[]=>C ([],True,[])
 | j,h::hs,v::vs=>(match Gb m j h v with
   | some (v',p,l)=>(match qA m (j+l.length) hs vs with
     | some (vs',q,r)=>C (v'::vs',p/\q,l++r)
     | none=>H)
   | none=>H)
 | _,_,_=>H
def Names (E E':Nat->Nat)(j:Nat)(l:List Seen):Prop:=∀(i:Nat) (s:Seen),l[i]?=C s->∀ key,s.key=C key->E' (j+i)=E key
theorem Names.left {E':Nat->Nat}{l r:List Seen}(h:Names E E' j (l++r)):Names E E' j l:=λi s hi=>h i s (by rw[cx (c4.1 hi).1];exact hi)
theorem Names.right {E':Nat->Nat}{l r:List Seen}(h:Names E E' j (l++r)):Names E E' (j+l.length) r:=λi s hi=>by rw[V];exact h (l.length+i) s (by rw[cy (by omega)];rw[d!];exact hi)
theorem Lt {h:Zv}{l:List Seen}(e:Dl m j h v=C (v',p,l))(hp:p):(∀ E E',Names E E' j l->v.val E=v'.val E')/\∀ s∈ l,s.yo m:=by
 unfold Dl at e;split at e
 ·split at e
  ·rename_i hw;injection e with e;injection e with e1 e;injection e with e2 e3;subst e1;subst e3;exact⟨λE E' _=>by rw[GC];exact SV.x8 hw E E',λs hs=>by cases hs⟩
  ·cases e
 ·split at e
  ·rename_i q s hq;cases e;obtain⟨h1,h2⟩:=Uf hq hp;exact⟨λE E' hn=>h1 E E' j λkey hk=>hn 0 s rfl key hk,λt ht=>by rw[List.mem_singleton] at ht;subst ht;exact h2⟩
  ·cases e
theorem Gc {m:Mem}: ∀ {hs:List Zv} {j:Nat} {vs vs':List SV} {p:Prop} {l:List Seen},zw m j hs vs=C (vs',p,l)->p->(∀ E E',Names E E' j l->SV.vals E vs=SV.vals E' vs')/\∀ s∈ l,s.yo m
 | [],_,[],_,_,_,e,_=>by injection e with e;injection e with e1 e;injection e with e2 e3;subst e1;subst e3;exact⟨λ_ _ _=>rfl,λs hs=>by cases hs⟩
 | h::hs,j,v::vs,vs',p,l,e,hp=>by
   simp only[zw] at e;split at e
   ·rename_i v1 p1 l1 h1;split at e
    ·rename_i vs2 p2 l2 h2;cases e;obtain⟨a1,a2⟩:=Lt h1 hp.1;obtain⟨b1,b2⟩:=Gc h2 hp.2;refine⟨λE E' hn=>by simp only[SV.vals];rw[a1 E E' hn.left,b1 E E' hn.right],λs hs=> ?_⟩;rcases dm.1 hs with hs | hs
     ·exact a2 s hs
     ·exact b2 s hs
    ·cases e
   ·cases e
 | [],_,_::_,_,_,_,e,_=>by cases e
 | _::_,_,[],_,_,_,e,_=>by cases e
theorem XB {h:AZ}{l:List Seen}(e:Gb m j h v=C (v',p,l))(hp:p):(∀ E E',Names E E' j l->v.val E=v'.val E')/\∀ s∈ l,s.yo m:=by
 unfold Gb at e;split at e
 ·exact Lt e hp
 ·split at e
  ·rename_i vs' p' l' h';cases e;obtain⟨a1,a2⟩:=Gc h' hp;exact⟨λE E' hn=>by simp only[SV.val];rw[a1 E E' hn],a2⟩
  ·cases e
 ·cases e
theorem Gd {m:Mem}: ∀ {hs:List AZ} {j:Nat} {vs vs':List SV} {p:Prop} {l:List Seen},qA m j hs vs=C (vs',p,l)->p->(∀ E E',Names E E' j l->SV.vals E vs=SV.vals E' vs')/\∀ s∈ l,s.yo m
 | [],_,[],_,_,_,e,_=>by injection e with e;injection e with e1 e;injection e with e2 e3;subst e1;subst e3;exact⟨λ_ _ _=>rfl,λs hs=>by cases hs⟩
 | h::hs,j,v::vs,vs',p,l,e,hp=>by
   simp only[qA] at e;split at e
   ·rename_i v1 p1 l1 h1;split at e
    ·rename_i vs2 p2 l2 h2;cases e;obtain⟨a1,a2⟩:=XB h1 hp.1;obtain⟨b1,b2⟩:=Gd h2 hp.2;refine⟨λE E' hn=>by simp only[SV.vals];rw[a1 E E' hn.left,b1 E E' hn.right],λs hs=> ?_⟩;rcases dm.1 hs with hs | hs
     ·exact a2 s hs
     ·exact b2 s hs
    ·cases e
   ·cases e
 | [],_,_::_,_,_,_,e,_=>by cases e
 | _::_,_,[],_,_,_,e,_=>by cases e
def VJ (j:Nat)(h:Zv)(v:SV)(l:List Seen):SV×Nat×List Seen:=match h,l with
 | .slice _,s::r=>(s.sv j,j+1,r)
 | _,l=>(v,j,l)
def Hz:Nat->List Zv->List SV->List Seen->List SV×Nat×List Seen
 | j,h::hs,v::vs,l=>match VJ j h v l with
   | (v',j',l')=>match Hz j' hs vs l' with
     | (vs',j'',l'')=>(v'::vs',j'',l'')
 | j,_,vs,l=>(vs,j,l)
def VK (j:Nat)(h:AZ)(v:SV)(l:List Seen):SV×Nat×List Seen:=match h,v with
 | .of h,v=>VJ j h v l
 | .agg hs,.agg vs=>(match Hz j hs vs l with
   | (vs',j',l')=>(.agg vs',j',l'))
 | _,v=>(v,j,l)
def HA:Nat->List AZ->List SV->List Seen->List SV×Nat×List Seen
 | j,h::hs,v::vs,l=>match VK j h v l with
   | (v',j',l')=>match HA j' hs vs l' with
     | (vs',j'',l'')=>(v'::vs',j'',l'')
 | j,_,vs,l=>(vs,j,l)
theorem J2 {h:Zv}{l:List Seen}(e:Dl m j h v=C (v',p,l))(r:List Seen):VJ j h v' (l++r)=(v',j+l.length,r):=by
 unfold Dl at e;split at e
 ·split at e
  ·injection e with e;injection e with e1 e;injection e with e2 e3;subst e1;subst e3;rfl
  ·cases e
 ·split at e
  ·injection e with e;injection e with e1 e;injection e with e2 e3;subst e1;subst e3;rfl
  ·cases e
theorem Fb {m:Mem}: ∀ {hs:List Zv} {j:Nat} {vs vs':List SV} {p:Prop} {l:List Seen},zw m j hs vs=C (vs',p,l)->∀ r,Hz j hs vs' (l++r)=(vs',j+l.length,r)
 | [],_,[],_,_,_,e,r=>by injection e with e;injection e with e1 e;injection e with e2 e3;subst e1;subst e3;rfl
 | h::hs,j,v::vs,vs',p,l,e,r=>by
   simp only[zw] at e;split at e
   ·rename_i v1 p1 l1 h1;split at e
    ·rename_i vs2 p2 l2 h2;cases e;have a:=J2 h1 (l2++r);have b:=Fb h2 r;rw[b9];simp only[Hz,a,b,O,V]
    ·cases e
   ·cases e
 | [],_,_::_,_,_,_,e,_=>by cases e
 | _::_,_,[],_,_,_,e,_=>by cases e
theorem VL {h:AZ}{l:List Seen}(e:Gb m j h v=C (v',p,l))(r:List Seen):VK j h v' (l++r)=(v',j+l.length,r):=by
 unfold Gb at e;split at e
 ·exact J2 e r
 ·split at e
  ·rename_i vs' p' l' h';cases e;have a:=Fb h' r;simp only[VK,a]
  ·cases e
 ·cases e
theorem Fc {m:Mem}: ∀ {hs:List AZ} {j:Nat} {vs vs':List SV} {p:Prop} {l:List Seen},qA m j hs vs=C (vs',p,l)->∀ r,HA j hs vs' (l++r)=(vs',j+l.length,r)
 | [],_,[],_,_,_,e,r=>by injection e with e;injection e with e1 e;injection e with e2 e3;subst e1;subst e3;rfl
 | h::hs,j,v::vs,vs',p,l,e,r=>by
   simp only[qA] at e;split at e
   ·rename_i v1 p1 l1 h1;split at e
    ·rename_i vs2 p2 l2 h2;cases e;have a:=VL h1 (l2++r);have b:=Fc h2 r;rw[b9];simp only[HA,a,b,O,V]
    ·cases e
   ·cases e
 | [],_,_::_,_,_,_,e,_=>by cases e
 | _::_,_,[],_,_,_,e,_=>by cases e
def filled (sh:List AZ)(vs:List SV)(l:List Seen):List SV:=(HA 0 sh vs l).1
theorem Sb {hs:List AZ}{vs vs':List SV}{l:List Seen}(e:qA m 0 hs vs=C (vs',p,l)):filled hs vs' l=vs':=by have:=Fc e [];rw[b_] at this;unfold filled;rw[this]
def kX:Nat->List Seen->Mem
 | _,[]=>[]
 | j,s::r=>(j,s.B)::kX (j+1) r
theorem eK: ∀ {l:List Seen} {j k:Nat} {B:SB},(kX j l).get k=C B->∃ i s,k=j+i/\l[i]?=C s/\B=s.B
 | [],_,_,_,h=>by cases h
 | s::r,j,k,B,h=>by
   rcases Mem.gu h with ⟨rfl,rfl⟩ | ⟨_,h⟩
   ·exact⟨0,s,rfl,rfl,rfl⟩
   ·obtain⟨i,t,e1,e2,e3⟩:=eK h;exact⟨i+1,t,by omega,by simpa using e2,e3⟩
def xM (E:Nat->Nat)(l:List Seen)(j:Nat):Nat:=match l[j]? with
 | some s=>(match s.key with
   | some k=>E k
   | none=>0)
 | none=>0
theorem K3 (E:Nat->Nat)(l:List Seen):Names E (xM E l) 0 l:=λi s hi key hk=>by simp only[xM,M,hi,hk]
theorem Ye {l:List Seen}(h: ∀ s∈ l,s.yo m){Γ:aT}{nx:Nat}{w:World}(hs:aJ Γ E m nx w) :
  aJ (aT.at w (λ_=>False) hs.Cl (λ_ _ h=>h)) (xM E l) (kX 0 l) l.length w:=by
 refine⟨λj B a hj hn=> ?_,λj j' B B' a hj hn hj' hn' hr=> ?_,λj B hj=> ?_,λj B a hj hn hro=> ?_,Ext.refl _ _,⟨a_ _,λk hk=>absurd hk (Q _)⟩,λD hD=>by cases hD⟩
 ·obtain⟨i,s,e1,e2,rfl⟩:=eK hj;rw[M] at e1;subst e1;obtain⟨hn1,rfl⟩:=(SB.jP (B:=s.B) rfl).1 hn;obtain⟨key,X,g1,g2,g3,ob,g4,g5⟩:=h s (List.mem_of_getElem? e2) Γ E nx w hs hn1;exact⟨ob,by simp only[xM,e2,g1];exact g4,g5 _⟩
 ·obtain⟨i,s,e1,e2,rfl⟩:=eK hj;obtain⟨i',s',e1',e2',rfl⟩:=eK hj';rcases hr with hr | hr<;>cases hr
 ·obtain⟨i,s,e1,e2,rfl⟩:=eK hj;have:=(c4.1 e2).1;omega
 ·obtain⟨i,s,e1,e2,rfl⟩:=eK hj;cases hro
noncomputable def bT (sh:List AZ)(spec:List SV->List Seen->Option (Prop×cK)):PT:=λargs m nx K=>match qA m 0 sh args with
 | some (vs,p,l)=>(match spec vs l with
   | some (q,a)=>.and (.atom (p/\q)) (a.vc m nx K)
   | none=>.fail "arguments that nothing is said of")
 | none=>.fail "a slice that is not known"
theorem bS (sh:List AZ)(spec:List SV->List Seen->Option (Prop×cK)):aQ (bT sh spec):=by
 intro args m nx K K' hK h;unfold bT at h ⊢;split at h
 ·split at h
  ·exact⟨h.1,cK.qS hK h.2⟩
  ·exact h
 ·exact h
theorem gd {P:Program}{f:FuncId}{fn:Func}(hf:P.funcs[f]?=C fn) (hn:(fn.name== "runtime.NumGoroutine")=A) (hb:fn.body.isSome=F)  {sh:List AZ}
  {spec:List SV->List Seen->Option (Prop×cK)}
  (h: ∀ vs l q a,spec vs l=C (q,a)->q->∃ cfg,Good P cfg/\SV.fH l.length (filled sh vs l)=F/\a.Ok/\ay (fE P (calling P cfg n) [] wq (cfg.aW f) cfg.rounds fn (filled sh vs l) (kX 0 l) l.length (λv m _=>a.fit v m))):ax P f (bT sh spec):=by
 intro args m nx K hk hwf hargs Γ E w hs;unfold bT at hk;split at hk
 ·rename_i vs p l hx;split at hk
  ·rename_i q a hq;obtain⟨⟨hxp,hqq⟩,hk⟩:=hk;obtain⟨cfg,hg,h1,h2,h3⟩:=h _ _ _ _ hq hqq;rw[Sb hx] at h1 h3;obtain⟨e1,e2⟩:=Gd hx hxp;have hwm: ∀(j:Nat) (l:List Seen),Mem.wf l.length (kX j l)=true:=by
    intro j l;have: ∀(j n:Nat) (l:List Seen),Mem.wf n (kX j l)=true:=by
     intro j n l;induction l generalizing j with
     | nil=>rfl
     | cons s r ih=>simp only[kX,Mem.wf,N];exact⟨rfl,ih _⟩
    exact this j _ l
   have hc:=fy hg hf hn hb h3 (hwm 0 l) h1 (Ye e2 hs);rw[← e1 E _ (K3 E l)] at hc;refine fN hf hn hb (hc.mono ?_);rintro e w' ⟨v,rfl,E',sv,m',nx',_,_,g3,g4,g5⟩;refine⟨v,rfl,?_⟩;cases sv with
   | none=>exact g5.elim
   | some u=>rw[g3 u rfl];exact cK.told hs hwf g4 h2 g5 hk
  ·exact hk.elim
 ·exact hk.elim
end Sx
section
open Go Sx
set_option maxRecDepth 20000
noncomputable def iX (cfg:fD)(f:Nat)(fn:Func)(args:List SV)(l:List Seen)(a:cK):VC:=fE J (calling J cfg 20) [] wq (cfg.aW f) cfg.rounds fn args (kX 0 l) l.length (λv m _=>a.fit v m)
def NG (m:Mem)(v:SV):Option (List f_):=match v with
 | .slc key o n _ _=>(match m.get key with
   | some (.cells cs _ _)=>strCells ((cs.drop o).take n)
   | _=>H)
 | _=>H
theorem L8 {cs:List SV}{l:List f_}(h:strCells (cs.take n)=C l)(hn:n<=cs.length):dJ (λi=>Re (cs.getD (i*1+0) .cD)) 0 n=l:=by
 obtain⟨g1,g2⟩:=xV h;rw[List.length_take] at g1;apply b!;intro i;by_cases hi:i<n
 ·have hl:i<l.length:=by omega
  obtain⟨b,hb⟩:=g2 i _ (ag hl);rw[List.getElem?_take_of_lt hi] at hb;unfold dJ;rw[c5,c6 hi,ag hl];simp only[ef,M,Nat.mul_one,Nat.add_zero,ct,hb,Option.getD_some,Re]
 ·rw[S (by rw[i6];omega),S (by omega)]
theorem RD {l:List SV}(hc:0<az.length): ∀ {n:Nat},ER l 1 az n=F->n<=l.length
 | 0,_=>a_ _
 | i+1,h=>by
   simp only[ER,N] at h;cases az with
   | nil=>simp at hc
   | cons c r =>have:=h.1;simp only[tr,N,ec] at this;omega
theorem SJ {s:Seen}{f:Nat->f_}{l:List f_}(h:zY [.str λ_=>[]] m v=C (p,s))(hc:s.az=[.str f])(hl:NG m v=C l):dJ f 0 s.n=l:=by
 unfold NG at hl;split at hl
 ·rename_i key o n cl c;simp only[zY] at h;split at h
  ·rename_i cs tot ty hk;rw[hk] at hl;simp only at hl;cases n with
   | zero =>injection h with h;injection h with h1 h2;subst h2;simp[strCells] at hl;subst hl;rfl
   | succ n =>
     simp only at h;split at h
     ·rename_i az hcols;split at h
      ·rename_i hall;injection h with h;injection h with h1 h2;subst h2;simp only at hc;subst hc;simp only[c7,c_,M,BV] at hcols;split at hcols
       ·rename_i a b ha hb;cases hb;injection hcols with e;injection e with e _;subst e;have hlen:=RD (by simp) hall;unfold JI at ha;split at ha
        ·cases ha
        ·cases ha
        ·cases ha;exact L8 hl hlen
        ·cases ha
       ·cases hcols
      ·cases h
     ·cases h
  ·cases h
 ·cases hl
noncomputable def zP (q:List f_->Prop)(g:List f_->SV):PT:=λargs m nx K=>match args with
 | [v]=>(match zY [.str λ_=>[]] m v with
   | some (p,s)=>(match s.az with
     | [.str f]=>(match NG m v with
       | some l=>.and (.atom (p/\q l)) (K (g l) m nx)
       | none=>.and (.atom (p/\q (dJ f 0 s.n))) (K (g (dJ f 0 s.n)) m nx))
     | _=>.fail "texts that are not known")
   | none=>.fail "texts that are not known")
 | _=>.fail "arguments"
theorem Ma (q:List f_->Prop)(g:List f_->SV):aQ (zP q g):=by
 intro args m nx K K' hK h;unfold zP at h ⊢;split at h
 ·split at h
  ·split at h
   ·split at h<;>exact⟨h.1,hK _ _ _ h.2⟩
   ·exact h
  ·exact h
 ·exact h
def shS:List AZ:=[.of (.slice [.str λ_=>[]])]
def rowOf (vs:List SV)(l:List Seen):Option (Nat×(Nat->f_)×Bool×Nat×Nat×Option Nat):=match vs,l with
 | [_],[⟨key,z,o,n,c,[.str f]⟩]=>C (n,f,z,o,c,key)
 | _,_=>H
theorem X5 {vs:List SV}{l:List Seen}{f:Nat->f_}{key:Option Nat}(h:rowOf vs l=C (n,f,z,o,c,key)):filled shS vs l=[.bE 0 1 z o 0 n c]/\l=[⟨key,z,o,n,c,[.str f]⟩]:=by
 unfold rowOf at h;split at h
 ·injection h with h;injection h with h1 h;injection h with h2 h;injection h with h3 h;injection h with h4 h;injection h with h5 h6;subst h1;subst h2;subst h3;subst h4;subst h5;subst h6;exact⟨rfl,rfl⟩
 ·cases h
def Mb (q:List f_->Prop)(g:List f_->SV)(vs:List SV)(l:List Seen):Option (Prop×cK):=match rowOf vs l with
 | some (n,f,_)=>C (q (dJ f 0 n),.ret (g (dJ f 0 n)))
 | none=>H
theorem abg {P:Program}{f:FuncId}{q:List f_->Prop}{g:List f_->SV}(h:ax P f (bT shS (Mb q g))):ax P f (zP q g):=by
 intro args m nx K hk hwf hargs Γ E w hs;refine h args m nx K ?_ hwf hargs Γ E w hs;unfold zP at hk;split at hk
 ·rename_i v;split at hk
  ·rename_i p s hv;split at hk
   ·rename_i f' hc;have hk:(VC.and (.atom (p/\q (dJ f' 0 s.n))) (K (g (dJ f' 0 s.n)) m nx)).holds:=by
     split at hk
     ·rename_i l hl;rw[SJ hv hc hl];exact hk
     ·exact hk
    obtain⟨key,z,o,n,c,az⟩:=s;simp only at hc;subst hc;have e:qA m 0 shS [v]=C ([(⟨key,z,o,n,c,[.str f']⟩:Seen).sv 0],(p/\True),[⟨key,z,o,n,c,[.str f']⟩]):=by simp only[shS,qA,Gb,Dl,hv,b_]
    unfold bT;rw[e];exact⟨⟨⟨hk.1.1,trivial⟩,hk.1.2⟩,hk.2⟩
   ·exact hk.elim
  ·exact hk.elim
 ·exact hk.elim
def LV (n:Int):f_:=[G (n/72057594037927936%256).toNat,G (n/281474976710656%256).toNat,G (n/1099511627776%256).toNat,G (n/4294967296%256).toNat,G (n/16777216%256).toNat,G (n/65536%256).toNat,G (n/256%256).toNat,G (n/1%256).toNat]
def Aa (T:f_):Nat:=(119-T.length%64)%64
def Rf (T:f_):f_:=128::(an (Aa T) 0++LV ((T.length:Int)%18446744073709551616*8%18446744073709551616))
def aes (T:f_):f_:=T++Rf T
def afS (W:Nat->Int):f_:=[G (W 0/16777216%256).toNat,G (W 0/65536%256).toNat,G (W 0/256%256).toNat,G (W 0%256).toNat,G (W 1/16777216%256).toNat,G (W 1/65536%256).toNat,G (W 1/256%256).toNat,G (W 1%256).toNat,G (W 2/16777216%256).toNat,G (W 2/65536%256).toNat,G (W 2/256%256).toNat,G (W 2%256).toNat,G (W 3/16777216%256).toNat,G (W 3/65536%256).toNat,G (W 3/256%256).toNat,G (W 3%256).toNat,G (W 4/16777216%256).toNat,G (W 4/65536%256).toNat,G (W 4/256%256).toNat,G (W 4%256).toNat,G (W 5/16777216%256).toNat,G (W 5/65536%256).toNat,G (W 5/256%256).toNat,G (W 5%256).toNat,G (W 6/16777216%256).toNat,G (W 6/65536%256).toNat,G (W 6/256%256).toNat,G (W 6%256).toNat,G (W 7/16777216%256).toNat,G (W 7/65536%256).toNat,G (W 7/256%256).toNat,G (W 7%256).toNat]
def aK (T:f_):f_:=afS (qW (aes T) ((aes T).length/64))
noncomputable def NM:List (FuncId×PT):=(60,q7 zK z7)::iD
theorem FK:bp J (λf=>aD f NM):=.cons Zr (pW _ _) fo
noncomputable def PJ:fD:={cv with cT:=λf=>aD f NM}
theorem adQ:Sx.Good J PJ:=.of bR FK bq
def I9:List SV->Option (Sh×f_->Prop×(Unit->Prop×SV×(Sh×f_)))
 | [.ptr 0 F 0]=>C λg=>(EO g.1 g.2/\g.2.length<1152921504606846976,λ_=>(True,.str A (aK g.2),g))
 | _=>H
noncomputable def WW:List (FuncId×PT):=(61,q7 zK I9)::NM
noncomputable def afn (n:Nat)(f:Nat->f_):aY :={α:=Nat×Sh,pre:=λ_ x=>x.1<=n/\EO x.2 (flat (dJ f 0 x.1)),kH:=λ_ x=>n-x.1,fresh:=0,slots:=λ_ x=>[(9,.int .i64 A x.1)],mem:=λ_ x=>[(1,x.2.sb)]}
noncomputable def U3 (n:Nat)(f:Nat->f_):fD:={cv with cT:=λf=>aD f WW,aW:=λg=>if g=25 then [(3,always (afn n f))] else []}
def Xu (l:List f_):Prop:=(flat l).length<1152921504606846976/\l.length<1152921504606846976
def ofG (l:List f_):SV:=.str A (aK (flat l))
theorem agb (x:Sh)(T:f_):VC.holds (sQ PJ 61 Z [.ptr 0 F 0] zK (x,T) (λ_:Unit=>(True,.str A (aK T),(x,T))))=((λe:Nat->SV=>((λg:Nat->SV=>((λf:Nat->(Sh×f_)->SV=>((λh:Nat->(Sh×f_)->SV=>((((-9223372036854775808:Int)<=119-x.held/\119-x.held<=9223372036854775807)/\((0:Int)<=119-x.held/\119-x.held<=9223372036854775807/\(0:Int)<(64:Int))/\I6 (1+(119-x.held)%64)/\I6 (1+(119-x.held)%64+(8:Int))/\(1+(119-x.held)%64+(8:Int)=1+(119-x.held)%64+(8:Int)/\(0:Int)<=1+(119-x.held)%64+(8:Int)/\1*(1+(119-x.held)%64+(8:Int))<=140737488355328/\1+(119-x.held)%64+(8:Int)<=(9223372036854775807:Int))/\((0:Int)<=(0:Int)/\0<(↑(1+(119-x.held)%64+(8:Int)).toNat:Int))/\0<(1+(119-x.held)%64+(8:Int)).toNat/\I6 (1+(119-x.held)%64)/\I6 (1+(119-x.held)%64+(0:Int))/\((0:Int)<=1+(119-x.held)%64+(0:Int)/\1+(119-x.held)%64+0<(↑(1+(119-x.held)%64+(8:Int)).toNat:Int))/\0+(1+(119-x.held)%64+(0:Int)).toNat<(1+(119-x.held)%64+(8:Int)).toNat/\I6 (1+(119-x.held)%64)/\I6 (1+(119-x.held)%64+(1:Int))/\((0:Int)<=1+(119-x.held)%64+(1:Int)/\1+(119-x.held)%64+1<(↑(1+(119-x.held)%64+(8:Int)).toNat:Int))/\0+(1+(119-x.held)%64+(1:Int)).toNat<(1+(119-x.held)%64+(8:Int)).toNat/\I6 (1+(119-x.held)%64)/\I6 (1+(119-x.held)%64+(2:Int))/\((0:Int)<=1+(119-x.held)%64+(2:Int)/\1+(119-x.held)%64+2<(↑(1+(119-x.held)%64+(8:Int)).toNat:Int))/\0+(1+(119-x.held)%64+(2:Int)).toNat<(1+(119-x.held)%64+(8:Int)).toNat/\I6 (1+(119-x.held)%64)/\I6 (1+(119-x.held)%64+(3:Int))/\((0:Int)<=1+(119-x.held)%64+(3:Int)/\1+(119-x.held)%64+3<(↑(1+(119-x.held)%64+(8:Int)).toNat:Int))/\0+(1+(119-x.held)%64+(3:Int)).toNat<(1+(119-x.held)%64+(8:Int)).toNat/\I6 (1+(119-x.held)%64)/\I6 (1+(119-x.held)%64+(4:Int))/\((0:Int)<=1+(119-x.held)%64+(4:Int)/\1+(119-x.held)%64+4<(↑(1+(119-x.held)%64+(8:Int)).toNat:Int))/\0+(1+(119-x.held)%64+(4:Int)).toNat<(1+(119-x.held)%64+(8:Int)).toNat/\I6 (1+(119-x.held)%64)/\((-9223372036854775808:Int)<=1+(119-x.held)%64+(5:Int)/\1+(119-x.held)%64+(5:Int)<=(9223372036854775807:Int))/\((0:Int)<=1+(119-x.held)%64+(5:Int)/\1+(119-x.held)%64+5<(↑(1+(119-x.held)%64+(8:Int)).toNat:Int))/\0+(1+(119-x.held)%64+(5:Int)).toNat<(1+(119-x.held)%64+(8:Int)).toNat/\I6 (1+(119-x.held)%64)/\I6 (1+(119-x.held)%64+(6:Int))/\((0:Int)<=1+(119-x.held)%64+(6:Int)/\1+(119-x.held)%64+6<(↑(1+(119-x.held)%64+(8:Int)).toNat:Int))/\0+(1+(119-x.held)%64+(6:Int)).toNat<(1+(119-x.held)%64+(8:Int)).toNat/\I6 (1+(119-x.held)%64)/\I6 (1+(119-x.held)%64+(7:Int))/\((0:Int)<=1+(119-x.held)%64+(7:Int)/\1+(119-x.held)%64+7<(↑(1+(119-x.held)%64+(8:Int)).toNat:Int))/\0+(1+(119-x.held)%64+(7:Int)).toNat<(1+(119-x.held)%64+(8:Int)).toNat/\0+(1+(119-x.held)%64+(8:Int)).toNat<=(1+(119-x.held)%64+(8:Int)).toNat/\∃(b:Sh×f_),aa (SB.cells (e 0::e 1::e 2::e 3::e 4::e 5::e 6::e 7::wm g [SV.int .i64 A x.held,SV.int .u64 A x.size]) 74 171) (SB.cells (f 0 b::f 1 b::f 2 b::f 3 b::f 4 b::f 5 b::f 6 b::f 7 b::wm (λi=>h i b) [SV.int .i64 A b.1.held,SV.int .u64 A b.1.size]) 74 171)/\(EO b.1 b.2/\(dG (fun(c:Nat)=>if c=0+(1+(119-x.held)%64+(7:Int)).toNat then x.size*8%(18446744073709551616:Int)/(1:Int)%(256:Int)else if c=0+(1+(119-x.held)%64+(6:Int)).toNat then x.size*8%(18446744073709551616:Int)/(256:Int)%(256:Int)else if c=0+(1+(119-x.held)%64+(5:Int)).toNat then x.size*8%(18446744073709551616:Int)/(65536:Int)%(256:Int)else if c=0+(1+(119-x.held)%64+(4:Int)).toNat then x.size*8%(18446744073709551616:Int)/(16777216:Int)%(256:Int)else if c=0+(1+(119-x.held)%64+(3:Int)).toNat then x.size*8%(18446744073709551616:Int)/(4294967296:Int)%(256:Int)else if c=0+(1+(119-x.held)%64+(2:Int)).toNat then x.size*8%(18446744073709551616:Int)/(1099511627776:Int)%(256:Int)else if c=0+(1+(119-x.held)%64+(1:Int)).toNat then x.size*8%(18446744073709551616:Int)/(281474976710656:Int)%(256:Int)else if c=0+(1+(119-x.held)%64+(0:Int)).toNat then x.size*8%(18446744073709551616:Int)/(72057594037927936:Int)%(256:Int)else if c=0 then 128 else 0) 0 (1+(119-x.held)%64+(8:Int)).toNat).length<1152921504606846976)/\∀(a:Sh),EO a (b.2++dG (fun(d:Nat)=>if d=0+(1+(119-x.held)%64+(7:Int)).toNat then x.size*8%(18446744073709551616:Int)/(1:Int)%(256:Int)else if d=0+(1+(119-x.held)%64+(6:Int)).toNat then x.size*8%(18446744073709551616:Int)/(256:Int)%(256:Int)else if d=0+(1+(119-x.held)%64+(5:Int)).toNat then x.size*8%(18446744073709551616:Int)/(65536:Int)%(256:Int)else if d=0+(1+(119-x.held)%64+(4:Int)).toNat then x.size*8%(18446744073709551616:Int)/(16777216:Int)%(256:Int)else if d=0+(1+(119-x.held)%64+(3:Int)).toNat then x.size*8%(18446744073709551616:Int)/(4294967296:Int)%(256:Int)else if d=0+(1+(119-x.held)%64+(2:Int)).toNat then x.size*8%(18446744073709551616:Int)/(1099511627776:Int)%(256:Int)else if d=0+(1+(119-x.held)%64+(1:Int)).toNat then x.size*8%(18446744073709551616:Int)/(281474976710656:Int)%(256:Int)else if d=0+(1+(119-x.held)%64+(0:Int)).toNat then x.size*8%(18446744073709551616:Int)/(72057594037927936:Int)%(256:Int)else if d=0 then 128 else 0) 0 (1+(119-x.held)%64+(8:Int)).toNat)->∃(_:Unit),True/\aa (zK (x,T)) (zK (x,T))/\ah (SV.str (A&&(A&&(A&&(A&&(A&&(A&&(A&&(A&&(A&&(A&&(A&&(A&&(A&&(A&&(A&&(A&&(A&&(A&&(A&&(A&&(A&&(A&&(A&&(A&&(A&&(A&&(A&&(A&&(A&&(A&&(A&&(A&&F)))))))))))))))))))))))))))))))) [G (a.W 0/16777216%(256:Int)).toNat,G (a.W 0/65536%(256:Int)).toNat,G (a.W 0/256%(256:Int)).toNat,G (a.W 0%256).toNat,G (a.W 1/16777216%(256:Int)).toNat,G (a.W 1/65536%(256:Int)).toNat,G (a.W 1/256%(256:Int)).toNat,G (a.W 1%256).toNat,G (a.W 2/16777216%(256:Int)).toNat,G (a.W 2/65536%(256:Int)).toNat,G (a.W 2/256%(256:Int)).toNat,G (a.W 2%256).toNat,G (a.W 3/16777216%(256:Int)).toNat,G (a.W 3/65536%(256:Int)).toNat,G (a.W 3/256%(256:Int)).toNat,G (a.W 3%256).toNat,G (a.W 4/16777216%(256:Int)).toNat,G (a.W 4/65536%(256:Int)).toNat,G (a.W 4/256%(256:Int)).toNat,G (a.W 4%256).toNat,G (a.W 5/16777216%(256:Int)).toNat,G (a.W 5/65536%(256:Int)).toNat,G (a.W 5/256%(256:Int)).toNat,G (a.W 5%256).toNat,G (a.W 6/16777216%(256:Int)).toNat,G (a.W 6/65536%(256:Int)).toNat,G (a.W 6/256%(256:Int)).toNat,G (a.W 6%256).toNat,G (a.W 7/16777216%(256:Int)).toNat,G (a.W 7/65536%(256:Int)).toNat,G (a.W 7/256%(256:Int)).toNat,G (a.W 7%256).toNat]) (SV.str A (aK T))))) (fun(n0:Nat) (b:Sh×f_)=>SV.int .u8 A (b.1.B n0)))) (fun(n0:Nat) (b:Sh×f_)=>SV.int .u32 A (b.1.W n0)))) (fun(n0:Nat)=>SV.int .u8 A (x.B n0)))) (fun(n0:Nat)=>SV.int .u32 A (x.W n0))):=by kernel_rfl
theorem agL (n:Nat)(f:Nat->f_)(z:Bool)(o c:Nat)(key:Option Nat):VC.holds (iX (U3 n f) 25 Y [.bE 0 1 z o 0 n c] [⟨key,z,o,n,c,[.str f]⟩] (.ret (.str A (aK (flat (dJ f 0 n))))))=((λj:Nat->SV=>((λk:Nat->(Nat×Sh)->SV=>((λt:Nat->(Nat×Sh)->SV=>((λl:Nat->(Nat×Sh)->SV=>((λu:Nat->(Nat×Sh)->SV=>((λm:Nat->(Sh×f_)->SV=>((λv:Nat->(Sh×f_)->SV=>((λp:Nat->(Sh)->SV=>((λw:Nat->(Sh)->SV=>((λq:Nat->(Nat×Sh)->SV=>((λx:Nat->(Nat×Sh)->SV=>((λr:Nat->(Sh×f_)->SV=>((λy:Nat->(Sh×f_)->SV=>((λs:(Nat×Sh)->SB=>(((∃(d:Nat×Sh),(d.1<=n/\EO d.2 (flat (dJ f 0 d.1)))/\0=(d.1:Int)/\aa (SB.cells (j 1779033703::j 3144134277::j 1013904242::j 2773480762::j 1359893119::j 2600822924::j 528734635::j 1541459225::wm (λ_=>SV.int .u8 F 0) [SV.int .i64 F 0,SV.int .u64 F 0]) 74 171) (SB.cells (k 0 d::k 1 d::k 2 d::k 3 d::k 4 d::k 5 d::k 6 d::k 7 d::wm (λi=>t i d) [SV.int .i64 A d.2.held,SV.int .u64 A d.2.size]) 74 171)/\aa {key:=key,z:=z,o:=o,n:=n,c:=c,az:=[av.str f]:Seen}.B {key:=key,z:=z,o:=o,n:=n,c:=c,az:=[av.str f]:Seen}.B/\True)/\∀(a:Nat×Sh),a.1<=n/\EO a.2 (flat (dJ f 0 a.1))->(decide ((a.1:Int)<(n:Int))=F->(0<=(a.1:Int)/\(a.1:Int)<(n:Int))/\(o=o/\0+(a.1:Int).toNat<n)/\∃(g:Sh×f_),aa (s a) (SB.cells (m 0 g::m 1 g::m 2 g::m 3 g::m 4 g::m 5 g::m 6 g::m 7 g::wm (λi=>v i g) [SV.int .i64 A g.1.held,SV.int .u64 A g.1.size]) 74 171)/\(EO g.1 g.2/\(f (0+(a.1:Int).toNat)).length<1152921504606846976)/\∀(h:Sh),EO h (g.2++f (0+(a.1:Int).toNat))->I6 ((a.1:Int)+1)/\∃(b:Nat×Sh),((b.1<=n/\EO b.2 (flat (dJ f 0 b.1)))/\n-b.1<n-a.1)/\(a.1:Int)+1=(b.1:Int)/\aa (SB.cells (p 0 h::p 1 h::p 2 h::p 3 h::p 4 h::p 5 h::p 6 h::p 7 h::wm (λi=>w i h) [SV.int .i64 A h.held,SV.int .u64 A h.size]) 74 171) (SB.cells (q 0 b::q 1 b::q 2 b::q 3 b::q 4 b::q 5 b::q 6 b::q 7 b::wm (λi=>x i b) [SV.int .i64 A b.2.held,SV.int .u64 A b.2.size]) 74 171)/\aa {key:=key,z:=z,o:=o,n:=n,c:=c,az:=[av.str f]:Seen}.B {key:=key,z:=z,o:=o,n:=n,c:=c,az:=[av.str f]:Seen}.B/\True)/\(decide ((a.1:Int)<(n:Int))=A->∃(e:Sh×f_),aa (s a) (SB.cells (r 0 e::r 1 e::r 2 e::r 3 e::r 4 e::r 5 e::r 6 e::r 7 e::wm (λi=>y i e) [SV.int .i64 A e.1.held,SV.int .u64 A e.1.size]) 74 171)/\(EO e.1 e.2/\e.2.length<1152921504606846976)/\∀(_:Unit),True->ah (Ml 1 (SV.str A (aK e.2))) (SV.str A (aK (flat (dJ f 0 n)))))))) (fun(a:Nat×Sh)=>(SB.cells (l 0 a::l 1 a::l 2 a::l 3 a::l 4 a::l 5 a::l 6 a::l 7 a::wm (λi=>u i a) [SV.int .i64 A a.2.held,SV.int .u64 A a.2.size]) 74 171)))) (fun(n0:Nat) (e:Sh×f_)=>SV.int .u8 A (e.1.B n0)))) (fun(n0:Nat) (e:Sh×f_)=>SV.int .u32 A (e.1.W n0)))) (fun(n0:Nat) (b:Nat×Sh)=>SV.int .u8 A (b.2.B n0)))) (fun(n0:Nat) (b:Nat×Sh)=>SV.int .u32 A (b.2.W n0)))) (fun(n0:Nat) (h:Sh)=>SV.int .u8 A (h.B n0)))) (fun(n0:Nat) (h:Sh)=>SV.int .u32 A (h.W n0)))) (fun(n0:Nat) (g:Sh×f_)=>SV.int .u8 A (g.1.B n0)))) (fun(n0:Nat) (g:Sh×f_)=>SV.int .u32 A (g.1.W n0)))) (fun(n0:Nat) (a:Nat×Sh)=>SV.int .u8 A (a.2.B n0)))) (fun(n0:Nat) (a:Nat×Sh)=>SV.int .u32 A (a.2.W n0)))) (fun(n0:Nat) (d:Nat×Sh)=>SV.int .u8 A (d.2.B n0)))) (fun(n0:Nat) (d:Nat×Sh)=>SV.int .u32 A (d.2.W n0)))) (fun(n0:Nat)=>SV.int .u32 F n0)):=by kernel_rfl
theorem Rg (z:Nat)(n:Int):dG (fun(j:Nat)=>if j=0+(1+(z:Int)+7).toNat then n/1%256 else if j=0+(1+(z:Int)+6).toNat then n/256%256 else if j=0+(1+(z:Int)+5).toNat then n/65536%256 else if j=0+(1+(z:Int)+4).toNat then n/16777216%256 else if j=0+(1+(z:Int)+3).toNat then n/4294967296%256 else if j=0+(1+(z:Int)+2).toNat then n/1099511627776%256 else if j=0+(1+(z:Int)+1).toNat then n/281474976710656%256 else if j=0+(1+(z:Int)+0).toNat then n/72057594037927936%256 else if j=0 then 128 else 0) 0 (1+(z:Int)+8).toNat
  = 128::(an z 0++LV n):=by
 rw[show(1+(z:Int)+8).toNat=z+9 by omega,show 0+(1+(z:Int)+7).toNat=z+8 by omega,show 0+(1+(z:Int)+6).toNat=z+7 by omega,show 0+(1+(z:Int)+5).toNat=z+6 by omega,
  show 0+(1+(z:Int)+4).toNat=z+5 by omega,show 0+(1+(z:Int)+3).toNat=z+4 by omega,show 0+(1+(z:Int)+2).toNat=z+3 by omega,show 0+(1+(z:Int)+1).toNat=z+2 by omega,show 0+(1+(z:Int)+0).toNat=z+1 by omega]
 apply b!;intro i;unfold dG;rw[c5];by_cases hi:i<z+9
 ·rw[c6 hi];simp only[ef,M];cases i with
  | zero =>rw[s_ (by omega),s_ (by omega),s_ (by omega),s_ (by omega),s_ (by omega),s_ (by omega),s_ (by omega),s_ (by omega),r_ rfl];rfl
  | succ i =>
    rw[List.getElem?_cons_succ];by_cases hz:i<z
    ·rw[cx (by simpa using hz),List.getElem?_replicate,r_ hz,s_ (by omega),s_ (by omega),s_ (by omega),s_ (by omega),s_ (by omega),s_ (by omega),s_ (by omega),s_ (by omega),s_ (by omega)];rfl
    ·rw[cy (by simp;omega),c!];obtain⟨k,rfl⟩: ∃ k,i=z+k:=⟨i-z,by omega⟩
     rw[d!];have hk:k=0∨k=1∨k=2∨k=3∨k=4∨k=5∨k=6∨k=7:=by omega
     rcases hk with rfl | rfl | rfl | rfl | rfl | rfl | rfl | rfl
     ·rw[s_ (by omega),s_ (by omega),s_ (by omega),s_ (by omega),s_ (by omega),s_ (by omega),s_ (by omega),r_ (by omega)];rfl
     ·rw[s_ (by omega),s_ (by omega),s_ (by omega),s_ (by omega),s_ (by omega),s_ (by omega),r_ (by omega)];rfl
     ·rw[s_ (by omega),s_ (by omega),s_ (by omega),s_ (by omega),s_ (by omega),r_ (by omega)];rfl
     ·rw[s_ (by omega),s_ (by omega),s_ (by omega),s_ (by omega),r_ (by omega)];rfl
     ·rw[s_ (by omega),s_ (by omega),s_ (by omega),r_ (by omega)];rfl
     ·rw[s_ (by omega),s_ (by omega),r_ (by omega)];rfl
     ·rw[s_ (by omega),r_ (by omega)];rfl
     ·rw[r_ (by omega)];rfl
 ·rw[S (by simpa using hi),S (by simp[LV];omega)];rfl
theorem TO (T:f_):(Rf T).length<100:=by simp only[Rf,LV,c7,O,c!,c_,Aa];omega
theorem TL {x:Sh}{T:f_}(hx:EO x T)(_hT:T.length<1152921504606846976) :
  ay (sQ PJ 61 Z [.ptr 0 F 0] zK (x,T) (λ_:Unit=>(True,.str A (aK T),(x,T)))):=by
 refine ay.of_eq (agb x T) ?_;dsimp only;have hh:=hx.1.h;have hz:(119-x.held)%64=(Aa T:Int):=by rw[hh];unfold Aa;omega
 have hl:Aa T<64:=Nat.mod_lt _ (by decide);have hb:x.held<64/\0<=x.held:=by omega
 have hs:=hx.2;have ht:Rf T=128::(an (Aa T) 0++LV (x.size*8%18446744073709551616)):=by rw[hs];rfl
 rw[hz];refine⟨by omega,by omega,by omega,by omega,by omega,by omega,by omega,by omega,by omega,by omega,by omega,by omega,by omega,by omega,by omega,by omega,by omega,by omega,by omega,by omega,by omega,by omega,by omega,by omega,by omega,by omega,by omega,by omega,by omega,by omega,by omega,by omega,by omega,by omega,by omega,by omega,by omega,by omega,by omega,by omega,(x,T),aa.refl _,⟨hx,?_⟩,λy hy=>⟨(),trivial,aa.refl _,?_⟩⟩
 ·rw[Rg,← ht];have:=TO T;omega
 ·rw[Rg,← ht] at hy;have hy:EO y (aes T):=hy;have w:=hy.1.w;refine iJ ?_;unfold aK afS;rw[← w 0 (by decide),← w 1 (by decide),← w 2 (by decide),← w 3 (by decide),← w 4 (by decide),← w 5 (by decide),← w 6 (by decide),← w 7 (by decide)]
theorem aeJ:ax J 61 (q7 zK I9):=by
 refine G3 (n:=20) Tryz.func61 (by kernel_rfl) (by kernel_rfl) Ra ?_;intro args g x h hp;unfold I9 at h;split at h
 ·cases h;obtain⟨x,T⟩:=x;exact⟨PJ,[.ptr 0 F 0],adQ,λE=>rfl,rfl,λ_=>rfl,TL hp.1 hp.2⟩
 ·cases h
theorem SU:bp J (λf=>aD f WW):=.cons aeJ (pW _ _) FK
theorem adI (n:Nat)(f:Nat->f_):Sx.Good J (U3 n f):=.of bR SU bq
theorem aar:EO ⟨V8,λ_=>0,0,0⟩ []:=by refine⟨⟨⟨by decide,λj _=>by show(0:Int)<=0/\(0:Int)<=255;decide⟩,λj _=>rfl,λj hj=>absurd hj (Q _),rfl⟩,rfl⟩
theorem vq (f:Nat->f_)(i:Nat):flat (dJ f 0 (i+1))=flat (dJ f 0 i)++f i:=by unfold flat dJ;rw[List.range_succ];simp
theorem HD (f:Nat->f_): ∀ {i n:Nat},i<=n->(flat (dJ f 0 i)).length<=(flat (dJ f 0 n)).length:=by
 intro i n h;induction n with
 | zero=>obtain rfl:i=0:=by omega
         exact aC _
 | succ n ih =>
   by_cases e:i=n+1
   ·subst e;exact aC _
   ·have:=ih (by omega);rw[vq,O];omega
theorem Xw (n:Nat)(f:Nat->f_)(z:Bool)(o c:Nat)(key:Option Nat)(h:(flat (dJ f 0 n)).length<1152921504606846976)(hn:n<1152921504606846976) :
  ay (iX (U3 n f) 25 Y [.bE 0 1 z o 0 n c] [⟨key,z,o,n,c,[.str f]⟩] (.ret (.str A (aK (flat (dJ f 0 n)))))):=by
 refine ay.of_eq (agL n f z o c key) ?_;dsimp only;refine⟨⟨(0,⟨V8,λ_=>0,0,0⟩),⟨a_ _,aar⟩,rfl,Sx.aa.cells (λE=>rfl) rfl,aa.refl _,trivial⟩,λg hg=>⟨λa=> ?_,λa=> ?_⟩⟩
 ·have a:=l_ a;have h1:=HD f (i:=g.1+1) (n:=n) (by omega);rw[vq,O] at h1;rw[Int.toNat_natCast,M];refine⟨by omega,⟨rfl,by omega⟩,(g.2,flat (dJ f 0 g.1)),aa.refl _,⟨hg.2,by omega⟩,λy hy=>⟨by omega,(g.1+1,y),⟨⟨by show g.1+1<=n;omega,?_⟩,by show n-(g.1+1)<n-g.1;omega⟩,by show(g.1:Int)+1=((g.1+1:Nat):Int);omega,aa.refl _,aa.refl _,trivial⟩⟩;show EO y (flat (dJ f 0 (g.1+1)));rw[vq];exact hy
 ·have a:=m_ a;have hg1:=hg.1;have e:g.1=n:=by omega
  refine⟨(g.2,flat (dJ f 0 g.1)),aa.refl _,⟨hg.2,by rw[e];exact h⟩,λ_ _=> ?_⟩;rw[e];exact λ_=>rfl
theorem afR:ax J 25 (zP Xu ofG):=by
 refine abg (gd (n:=20) Tryz.func25 (by kernel_rfl) (by kernel_rfl) ?_);intro vs l q a h hq;unfold Mb at h;split at h
 ·rename_i n f r hx;obtain⟨z,o,c,key⟩:=r;cases h;obtain⟨e1,e2⟩:=X5 hx;rw[e1,e2];exact⟨_,adI n f,rfl,rfl,Xw n f z o c key hq.1 (by have:=hq.2;rwa [i6] at this)⟩
 ·cases h
theorem xR (T:f_):(aK T).length=32:=rfl
noncomputable def yW:List (FuncId×PT):=(25,zP Xu ofG)::(155,bY (mb 9223372036854775808))::(127,bY (wS 9223372036854775808))::NI 9223372036854775808
theorem oW:bp J (λf=>aD f yW):=.cons afR (Ma _ _) (.cons (mY _) (bO _) (.cons (vL (mY _)) (bO _) (FH (mY _))))
noncomputable def oJ:fD:={cv with cT:=λf=>aD f yW}
theorem Cm:Sx.Good J oJ:=.of bR oW bq
def aeu (x:Nd):cK:=.fork (aZ x) λb=>match b with
 | true=>.ret (.aN [.str A (cZ x),.int .i64 F 0])
 | false=>.ret (.aN [.str F [],.int .i64 F 1])
def tU (g:Nd->Option (Prop×cK)):List SV->Option (Prop×cK)
 | [.agg l]=>(match Iq l with
   | some x=>g x
   | none=>H)
 | _=>H
theorem C8 {g:Nd->Option (Prop×cK)}{args:List SV}{v:cK}(h:tU g args=C (p,v)): ∃ x,args=[x.sv]/\g x=C (p,v):=by
 unfold tU at h;split at h
 ·split at h
  ·rename_i x hx;exact⟨x,by rw[qq hx],h⟩
  ·cases h
 ·cases h
def eY (s:f_):f_:=if s.length<32 then s else aq (aK s)
def Vs (a b:f_):Bool:=!decide (a=b)&&decide (aK a=aK b)
def aV (r:Nat->f_):Nat->Nat
 | 0=>0
 | i+1=>bif bw (r i)then aV r i+1 else aV r i
def c8 (r:Nat->f_):Nat->Nat->f_
 | 0=>λ_=>[]
 | i+1=>λj=>bif bw (r i)then(if j=aV r i then af (r i)else c8 r i j)else c8 r i j
def AY:Nat->Nd->Prop
 | 0,_=>False
 | L+1,x=>∀ j,j<16->x.r j=[]∨((x.r j).length<L/\(x.r j).length<32)
def sC (L:Nat):List SV->Option (Prop×SV):=fG λx=>C (AY L x,.aO)
noncomputable def ZI:aY :={α:=Nat,pre:=λ_ i=>i<=16,kH:=λ_ i=>16-i,fresh:=0,slots:=λ_ i=>[(7,.int .i64 A i)],mem:=λ_ _=>[]}
noncomputable def PG (L:Nat):fD:={cv with cT:=λf=>aD f ((128,bn (sC L))::yW),aW:=λf=>if f=201 then [(1,always ZI)] else []}
noncomputable def afm (x:Nd):aY :=
 {α:=Nat×Nat,pre:=λ_ g=>g.1<=16/\aV x.r g.1<=g.2,kH:=λ_ g=>16-g.1,fresh:=1,slots:=λ_ g=>[(7,.int .i64 A g.1)],
  mem:=λst g=>[(1,.cells [.aX st.nx 1 F 0 (aV x.r g.1) g.2] 1 29),(st.nx,.rows F (aV x.r g.1) [.str (c8 x.r g.1)] A g.2 9)]}
noncomputable def PF (x:Nd):fD:={cv with cT:=λf=>aD f ((128,bn (sC 64))::yW),aW:=λf=>if f=201 then [(1,always (afm x))] else []}
def Bi (x:Nd):cK:=.fork (aZ x) λb=>match b with
 | true=>.all Nat λc=>.req (aV x.r 16<=c) (.new (λk=>.aX k 1 F 0 (aV x.r 16) c) (.rows F (aV x.r 16) [.str (c8 x.r 16)] A c 9))
 | false=>.ret .aO
theorem TY (x:Nd):VC.holds (gT oJ 105 a! [x.sv] (aeu x))=((pS 9223372036854775808 fun(i:Nat)=>(c9 x.r []).getD i [])/\((!aZ {k:=x.k,p:=x.p,v:=x.v,r:=fun(i:Nat)=>(c9 x.r []).getD i []:Nd})=F->(aZ x=F->ah (SV.aN [SV.str F [],SV.int .i64 F 1]) (SV.aN [SV.str A (cZ x),SV.int .i64 F 0]))/\(aZ x=A->ah (SV.aN [SV.str F [],SV.int .i64 F 1]) (SV.aN [SV.str F [],SV.int .i64 F 1])))/\((!aZ {k:=x.k,p:=x.p,v:=x.v,r:=fun(i:Nat)=>(c9 x.r []).getD i []:Nd})=A->(((0:Int)<=x.k/\x.k<=(3:Int))/\{k:=x.k,p:=x.p,v:=x.v,r:=fun(i:Nat)=>(c9 x.r []).getD i []:Nd}.rB)/\(aZ x=F->ah (SV.aN [SV.str A (cZ {k:=x.k,p:=x.p,v:=x.v,r:=fun(i:Nat)=>(c9 x.r []).getD i []:Nd}),SV.int .i64 F 0]) (SV.aN [SV.str A (cZ x),SV.int .i64 F 0]))/\(aZ x=A->ah (SV.aN [SV.str A (cZ {k:=x.k,p:=x.p,v:=x.v,r:=fun(i:Nat)=>(c9 x.r []).getD i []:Nd}),SV.int .i64 F 0]) (SV.aN [SV.str F [],SV.int .i64 F 1])))):=by kernel_rfl
theorem aga (s:f_)(R:SV->Prop):VC.holds (eZ oJ 150 b5 [.str A s] R)=(Fk ((↑s.length:Int)<(32:Int)) (R (SV.str A s)) ((True/\Xu [s])/\(32:Nat)<(1152921504606846976:Nat)/\R (SV.str A (aq (aK (flat [s])))))):=by kernel_rfl
theorem aeV (L:Nat)(x:Nd)(R:SV->Prop):VC.holds (eZ (PG L) 128 bf [x.sv] R)=((λQ0:SB=>((pS 9223372036854775808 fun(i:Nat)=>(c9 x.r []).getD i [])/\((!aZ {k:=x.k,p:=x.p,v:=x.v,r:=fun(i:Nat)=>(c9 x.r []).getD i []:Nd})=F->R SV.aO)/\((!aZ {k:=x.k,p:=x.p,v:=x.v,r:=fun(i:Nat)=>(c9 x.r []).getD i []:Nd})=A->∀(R_1:Loop),(∃(y:Nat),y<=(16:Nat)/\(0:Int)=(↑y:Int)/\aa (SB.loop I H R_1) (SB.loop I H R_1)/\aa Q0 Q0/\aa (SB.cells SV.aO.cells 1 29) (SB.cells SV.aO.cells 1 29)/\aa (SB.cells x.sv.cells 19 138) (SB.cells x.sv.cells 19 138)/\True)/\∀(x_2:Nat),x_2<=(16:Nat)->Fk ((↑x_2:Int)<(16:Int)) (((0:Int)<=(↑x_2:Int)/\(↑x_2:Int)<(16:Int)/\(↑x_2:Int)<(↑(16:Nat):Int))/\Bk (!decide (ck (c9 x.r []) (↑x_2:Int).toNat=[])) (R_1=R_1/\(ck (c9 x.r []) (↑x_2:Int).toNat).length<(9223372036854775808:Nat)/\Bk (bw (ck (c9 x.r []) (↑x_2:Int).toNat)) (∀(c:Nat),(1:Nat)<=c->((-9223372036854775808:Int)<=(↑x_2:Int)+(1:Int)/\(↑x_2:Int)+(1:Int)<=(9223372036854775807:Int))/\∃(y:Nat),(y<=(16:Nat)/\(16:Nat)-y<(16:Nat)-x_2)/\(↑x_2:Int)+(1:Int)=(↑y:Int)/\aa (SB.loop I H R_1) (SB.loop I H R_1)/\aa Q0 Q0/\aa (SB.cells [SV.slc ((5:Nat)) 0 1 A c] 1 29) (SB.cells [SV.aO] 1 29)/\aa (SB.cells x.sv.cells 19 138) (SB.cells x.sv.cells 19 138)/\True) (Rel 9223372036854775808 (ck (c9 x.r []) (↑x_2:Int).toNat)/\Bk (bH (ck (c9 x.r []) (↑x_2:Int).toNat)) (AY L {k:=(getD (ck (c9 x.r []) (↑x_2:Int).toNat)).k,p:=(getD (ck (c9 x.r []) (↑x_2:Int).toNat)).p,v:=(getD (ck (c9 x.r []) (↑x_2:Int).toNat)).v,r:=fun(i:Nat)=>(c9 (λi=>(getD (ck (c9 x.r []) (↑x_2:Int).toNat)).r i) []).getD i []:Nd}/\C (SB.cells SV.aO.cells 1 29)=C (SB.cells SV.aO.cells 1 29)/\((-9223372036854775808:Int)<=(↑x_2:Int)+(1:Int)/\(↑x_2:Int)+(1:Int)<=(9223372036854775807:Int))/\∃(y:Nat),(y<=(16:Nat)/\(16:Nat)-y<(16:Nat)-x_2)/\(↑x_2:Int)+(1:Int)=(↑y:Int)/\aa (SB.loop I H R_1) (SB.loop I H R_1)/\aa Q0 Q0/\aa (SB.cells [SV.aO] 1 29) (SB.cells [SV.aO] 1 29)/\aa (SB.cells x.sv.cells 19 138) (SB.cells x.sv.cells 19 138)/\True) (AY L {k:=(0:Int),p:=[],v:=[],r:=fun(i:Nat)=>(c9 (λ_=>[]) []).getD i []:Nd}/\C (SB.cells SV.aO.cells 1 29)=C (SB.cells SV.aO.cells 1 29)/\((-9223372036854775808:Int)<=(↑x_2:Int)+(1:Int)/\(↑x_2:Int)+(1:Int)<=(9223372036854775807:Int))/\∃(y:Nat),(y<=(16:Nat)/\(16:Nat)-y<(16:Nat)-x_2)/\(↑x_2:Int)+(1:Int)=(↑y:Int)/\aa (SB.loop I H R_1) (SB.loop I H R_1)/\aa Q0 Q0/\aa (SB.cells [SV.aO] 1 29) (SB.cells [SV.aO] 1 29)/\aa (SB.cells x.sv.cells 19 138) (SB.cells x.sv.cells 19 138)/\True))) (((-9223372036854775808:Int)<=(↑x_2:Int)+(1:Int)/\(↑x_2:Int)+(1:Int)<=(9223372036854775807:Int))/\∃(y:Nat),(y<=(16:Nat)/\(16:Nat)-y<(16:Nat)-x_2)/\(↑x_2:Int)+(1:Int)=(↑y:Int)/\aa (SB.loop I H R_1) (SB.loop I H R_1)/\aa Q0 Q0/\aa (SB.cells SV.aO.cells 1 29) (SB.cells SV.aO.cells 1 29)/\aa (SB.cells x.sv.cells 19 138) (SB.cells x.sv.cells 19 138)/\True)) (R SV.aO)))) (SB.cells (SV.agg (SV.int .i64 A x.k::SV.str A x.p::SV.str A x.v::c9 (λi=>SV.str A (x.r i)) [])).cells 19 238)):=by kernel_rfl
theorem YK (x:Nd):VC.holds (gT (PF x) 128 bf [x.sv] (Bi x))=((λQ0:SB=>((pS 9223372036854775808 fun(i:Nat)=>(c9 x.r []).getD i [])/\((!aZ {k:=x.k,p:=x.p,v:=x.v,r:=fun(i:Nat)=>(c9 x.r []).getD i []:Nd})=F->Bk (aZ x) (∃(x_3:Nat),aV x.r (16:Nat)<=x_3/\False) (ah SV.aO SV.aO))/\((!aZ {k:=x.k,p:=x.p,v:=x.v,r:=fun(i:Nat)=>(c9 x.r []).getD i []:Nd})=A->∀(R:Loop),(∃(y:Nat×Nat),(y.1<=(16:Nat)/\aV x.r y.1<=y.2)/\(0:Int)=(↑y.1:Int)/\(1:Nat)=(1:Nat)/\aV x.r y.1=(0:Nat)/\(SB.rows F (aV x.r y.1) [av.str (c8 x.r y.1)] A y.2 9).no=F/\aa (SB.loop I H R) (SB.loop I H R)/\aa Q0 Q0/\aa (SB.cells x.sv.cells 19 138) (SB.cells x.sv.cells 19 138)/\True)/\∀(x_2:Nat×Nat),x_2.1<=(16:Nat)/\aV x.r x_2.1<=x_2.2->Fk ((↑x_2.1:Int)<(16:Int)) (((0:Int)<=(↑x_2.1:Int)/\(↑x_2.1:Int)<(16:Int)/\(↑x_2.1:Int)<(↑(16:Nat):Int))/\Bk (!decide (ck (c9 x.r []) (↑x_2.1:Int).toNat=[])) (R=R/\(ck (c9 x.r []) (↑x_2.1:Int).toNat).length<(9223372036854775808:Nat)/\Bk (bw (ck (c9 x.r []) (↑x_2.1:Int).toNat)) (((0:Nat)+aV x.r x_2.1<=aV x.r x_2.1/\True/\(2:Nat)*(aV x.r x_2.1+(1:Nat))*(16:Nat)<=(281474976710656:Nat)/\aV x.r x_2.1+(1:Nat)<(9223372036854775808:Nat))/\x_2.2=x_2.2*(1:Nat)/\∀(c:Nat),aV x.r x_2.1+(1:Nat)<=c->((-9223372036854775808:Int)<=(↑x_2.1:Int)+(1:Int)/\(↑x_2.1:Int)+(1:Int)<=(9223372036854775807:Int))/\∃(y:Nat×Nat),((y.1<=(16:Nat)/\aV x.r y.1<=y.2)/\(16:Nat)-y.1<(16:Nat)-x_2.1)/\(↑x_2.1:Int)+(1:Int)=(↑y.1:Int)/\(1:Nat)=(1:Nat)/\((0:Nat)=(0:Nat)/\aV x.r x_2.1+(1:Nat)=aV x.r y.1/\c=y.2)/\True/\aa (SB.rows F (aV x.r x_2.1+(1:Nat)) [av.str fun(j:Nat)=>if j<aV x.r x_2.1 then c8 x.r x_2.1 j else ck [af (ck (c9 x.r []) (↑x_2.1:Int).toNat)] (j-aV x.r x_2.1)] A (c*(1:Nat)) 9) (SB.rows F (aV x.r y.1) [av.str (c8 x.r y.1)] A y.2 9)/\aa (SB.loop I H R) (SB.loop I H R)/\aa Q0 Q0/\aa (SB.cells x.sv.cells 19 138) (SB.cells x.sv.cells 19 138)/\True) (Rel 9223372036854775808 (ck (c9 x.r []) (↑x_2.1:Int).toNat)/\Bk (bH (ck (c9 x.r []) (↑x_2.1:Int).toNat)) (AY 64 {k:=(getD (ck (c9 x.r []) (↑x_2.1:Int).toNat)).k,p:=(getD (ck (c9 x.r []) (↑x_2.1:Int).toNat)).p,v:=(getD (ck (c9 x.r []) (↑x_2.1:Int).toNat)).v,r:=fun(i:Nat)=>(c9 (λi=>(getD (ck (c9 x.r []) (↑x_2.1:Int).toNat)).r i) []).getD i []:Nd}/\C (SB.cells [SV.aX ((4:Nat)) 1 F 0 (aV x.r x_2.1) x_2.2] 1 29)=C (SB.cells [SV.aX ((4:Nat)) 1 F 0 (aV x.r x_2.1) x_2.2] 1 29)/\((0:Nat)+aV x.r x_2.1<=aV x.r x_2.1/\True/\(2:Nat)*(aV x.r x_2.1+(0:Nat))*(16:Nat)<=(281474976710656:Nat)/\aV x.r x_2.1+(0:Nat)<(9223372036854775808:Nat))/\x_2.2=x_2.2*(1:Nat)/\∀(c:Nat),aV x.r x_2.1+(0:Nat)<=c->((-9223372036854775808:Int)<=(↑x_2.1:Int)+(1:Int)/\(↑x_2.1:Int)+(1:Int)<=(9223372036854775807:Int))/\∃(y:Nat×Nat),((y.1<=(16:Nat)/\aV x.r y.1<=y.2)/\(16:Nat)-y.1<(16:Nat)-x_2.1)/\(↑x_2.1:Int)+(1:Int)=(↑y.1:Int)/\(1:Nat)=(1:Nat)/\((0:Nat)=(0:Nat)/\aV x.r x_2.1+(0:Nat)=aV x.r y.1/\c=y.2)/\True/\aa (SB.rows F (aV x.r x_2.1+(0:Nat)) [av.str (c8 x.r x_2.1)] A (c*(1:Nat)) 9) (SB.rows F (aV x.r y.1) [av.str (c8 x.r y.1)] A y.2 9)/\aa (SB.loop I H R) (SB.loop I H R)/\aa Q0 Q0/\aa (SB.cells x.sv.cells 19 138) (SB.cells x.sv.cells 19 138)/\True) (AY 64 {k:=(0:Int),p:=[],v:=[],r:=fun(i:Nat)=>(c9 (λ_=>[]) []).getD i []:Nd}/\C (SB.cells [SV.aX ((4:Nat)) 1 F 0 (aV x.r x_2.1) x_2.2] 1 29)=C (SB.cells [SV.aX ((4:Nat)) 1 F 0 (aV x.r x_2.1) x_2.2] 1 29)/\((0:Nat)+aV x.r x_2.1<=aV x.r x_2.1/\True/\(2:Nat)*(aV x.r x_2.1+(0:Nat))*(16:Nat)<=(281474976710656:Nat)/\aV x.r x_2.1+(0:Nat)<(9223372036854775808:Nat))/\x_2.2=x_2.2*(1:Nat)/\∀(c:Nat),aV x.r x_2.1+(0:Nat)<=c->((-9223372036854775808:Int)<=(↑x_2.1:Int)+(1:Int)/\(↑x_2.1:Int)+(1:Int)<=(9223372036854775807:Int))/\∃(y:Nat×Nat),((y.1<=(16:Nat)/\aV x.r y.1<=y.2)/\(16:Nat)-y.1<(16:Nat)-x_2.1)/\(↑x_2.1:Int)+(1:Int)=(↑y.1:Int)/\(1:Nat)=(1:Nat)/\((0:Nat)=(0:Nat)/\aV x.r x_2.1+(0:Nat)=aV x.r y.1/\c=y.2)/\True/\aa (SB.rows F (aV x.r x_2.1+(0:Nat)) [av.str (c8 x.r x_2.1)] A (c*(1:Nat)) 9) (SB.rows F (aV x.r y.1) [av.str (c8 x.r y.1)] A y.2 9)/\aa (SB.loop I H R) (SB.loop I H R)/\aa Q0 Q0/\aa (SB.cells x.sv.cells 19 138) (SB.cells x.sv.cells 19 138)/\True))) (((-9223372036854775808:Int)<=(↑x_2.1:Int)+(1:Int)/\(↑x_2.1:Int)+(1:Int)<=(9223372036854775807:Int))/\∃(y:Nat×Nat),((y.1<=(16:Nat)/\aV x.r y.1<=y.2)/\(16:Nat)-y.1<(16:Nat)-x_2.1)/\(↑x_2.1:Int)+(1:Int)=(↑y.1:Int)/\(1:Nat)=(1:Nat)/\((0:Nat)=(0:Nat)/\aV x.r x_2.1=aV x.r y.1/\x_2.2=y.2)/\True/\aa (SB.rows F (aV x.r x_2.1) [av.str (c8 x.r x_2.1)] A x_2.2 9) (SB.rows F (aV x.r y.1) [av.str (c8 x.r y.1)] A y.2 9)/\aa (SB.loop I H R) (SB.loop I H R)/\aa Q0 Q0/\aa (SB.cells x.sv.cells 19 138) (SB.cells x.sv.cells 19 138)/\True)) (Bk (aZ x) (∃(x_6:Nat),aV x.r (16:Nat)<=x_6/\aa (SB.rows F (aV x.r x_2.1) [av.str (c8 x.r x_2.1)] A x_2.2 9) (SB.rows F (aV x.r 16) [av.str (c8 x.r 16)] A x_6 9)/\ah (SV.aX ((4:Nat)) 1 F 0 (aV x.r x_2.1) x_2.2) (SV.aX ((4:Nat)) 1 F 0 (aV x.r 16) x_6)) (ah (SV.aX ((4:Nat)) 1 F 0 (aV x.r x_2.1) x_2.2) SV.aO))))) (SB.cells (SV.agg (SV.int .i64 A x.k::SV.str A x.p::SV.str A x.v::c9 (λi=>SV.str A (x.r i)) [])).cells 19 238)):=by kernel_rfl
structure Nd.GR (x y:Nd):Prop where
 k:x.k=y.k
 p:x.p=y.p
 v:x.v=y.v
 r: ∀ j,j<16->x.r j=y.r j
theorem KO {inl:f_->Bool}{r r':Nat->f_}: ∀ {n:Nat},(∀ j,j<n->r j=r' j)->j6 inl r n=j6 inl r' n/\dI r n=dI r' n
 | 0,_=>⟨rfl,rfl⟩
 | n+1,h=>by obtain⟨h1,h2⟩:=KO (inl:=inl) (n:=n) λj hj=>h j (by omega);simp only[j6,dI,h1,h2,h n (by omega),and_self]
theorem uu (h:x.GR y):aZ x=aZ y:=by
 obtain⟨h1,h2⟩:=KO (inl:=bH) h.r;have e0:ri x=ri y:=by
  unfold ri;rw[h.k,h.p,h.v];congr 3;rw[Bool.eq_iff_iff,b7,b7];constructor
  ·intro g j hj;rw[← h.r j (dQ.1 hj)];exact g j hj
  ·intro g j hj;rw[h.r j (dQ.1 hj)];exact g j hj
 have e1:kg x=kg y:=by unfold kg iB;rw[h.p,h.v,fQ h.r]
 have e2:nB bH x=nB bH y:=by unfold nB iB;rw[h.p,h.v,fQ h.r,h.r 0 (by decide)]
 have e3:dX bH x=dX bH y:=by unfold dX;rw[h.p,h.v,h1,h2]
 unfold aZ jq;rw[h.k,e0,e1,e2,e3]
theorem QU (h:x.GR y):cZ x=cZ y:=by
 have e1:ki x=ki y:=by unfold ki cN;rw[h.p,h.v]
 have e2:rA x=rA y:=by unfold rA cN;rw[h.p,h.r 0 (by decide)]
 have e3:gj x=gj y:=by
  have hb: ∀ j,j<16->bZ x.r 16 j=bZ y.r 16 j:=λj hj=>by unfold bZ;rw[h.r j hj]
  unfold gj;rw[hb 0 (by decide),hb 1 (by decide),hb 2 (by decide),hb 3 (by decide),hb 4 (by decide),hb 5 (by decide),hb 6 (by decide),hb 7 (by decide),hb 8 (by decide),hb 9 (by decide),hb 10 (by decide),hb 11 (by decide),hb 12 (by decide),hb 13 (by decide),hb 14 (by decide),hb 15 (by decide),h.v]
 unfold cZ;rw[h.k,e1,e2,e3]
theorem qL (x:Nd):Nd.GR {k:=x.k,p:=x.p,v:=x.v,r:=fun(i:Nat)=>[x.r 0,x.r 1,x.r 2,x.r 3,x.r 4,x.r 5,x.r 6,x.r 7,x.r 8,x.r 9,x.r 10,x.r 11,x.r 12,x.r 13,x.r 14,x.r 15].getD i []} x:=⟨rfl,rfl,rfl,λj hj=>fF x.r j hj⟩
theorem Nd.rB.same (h:x.GR y)(hf:y.rB):x.rB:=⟨by rw[h.p];exact hf.p,by rw[h.v];exact hf.v,λj hj=>by rw[h.r j hj];exact hf.r j hj⟩
def Fits (x:Nd):Prop:=∀ j,j<16->(x.r j).length<9223372036854775808
theorem Cd (h:Fits x):pS 9223372036854775808 (fun(i:Nat)=>[x.r 0,x.r 1,x.r 2,x.r 3,x.r 4,x.r 5,x.r 6,x.r 7,x.r 8,x.r 9,x.r 10,x.r 11,x.r 12,x.r 13,x.r 14,x.r 15].getD i []):=λj hj=>by show Rel _ ([x.r 0,x.r 1,x.r 2,x.r 3,x.r 4,x.r 5,x.r 6,x.r 7,x.r 8,x.r 9,x.r 10,x.r 11,x.r 12,x.r 13,x.r 14,x.r 15].getD j []);rw[fF x.r j hj];exact⟨.inl (h j hj),h j hj⟩
theorem N5:ax J 105 (bY (tU λx=>C (Fits x,aeu x))):=by
 refine ee (n:=20) (fn:=a!) Tryz.func105 (by kernel_rfl) (by kernel_rfl) ?_;intro args p a h hp;obtain⟨x,hx,hg⟩:=C8 h;subst hx;cases hg;refine⟨oJ,Cm,rfl,λb=>by cases b<;>exact rfl,ay.of_eq (TY x) ?_⟩
 have e:=uu (qL x);have e2:=QU (qL x);refine⟨Cd hp,λa=> ?_,λa=> ?_⟩
 ·rw[e] at a;have a:aZ x=false:=by simpa using a
  rw[a];exact⟨(λh=>by cases h),λ_ _=>rfl⟩
 ·rw[e] at a;have a:aZ x=true:=by simpa using a
  have hs:=gE a;rw[e2,a];exact⟨⟨hs.k,Nd.rB.same (qL x) hs.few⟩,λ_ _=>rfl,λh=>by cases h⟩
theorem abZ (s:f_):flat [s]=s:=by simp[flat]
theorem agC {s:f_}(h:s.length<1152921504606846976):True/\Xu [s]:=⟨trivial,by rw[abZ];exact h,by simp⟩
def IS:List SV->Option (Prop×SV)
 | [.str A s]=>C (s.length<1152921504606846976,.str A (eY s))
 | _=>H
theorem N6:ax J 150 (bn IS):=by
 refine je Cm (n:=20) Tryz.func150 (by kernel_rfl) (by kernel_rfl) ?_;intro args p r h hp;unfold IS at h;split at h
 ·rename_i s;cases h;refine⟨rfl,rfl,ay.of_eq (aga s _) ⟨λa=> ?_,λa=>⟨agC hp,by omega,?_⟩⟩⟩
  ·have a:=l_ a;exact iJ (by rw[eY,r_ (by omega)])
  ·have a:=m_ a;exact iJ (by rw[eY,s_ (by omega),abZ])
 ·cases h
theorem K6 (h:AY L x): ∃ K,L=K+1/\∀ j,j<16->x.r j=[]∨((x.r j).length<K/\(x.r j).length<32):=by
 cases L with
 | zero=>exact h.elim
 | succ K=>exact⟨K,rfl,h⟩
theorem Tb (h:AY L x):Fits x:=λj hj=>by
 obtain⟨K,_,h⟩:=K6 h;rcases h j hj with h | h
 ·rw[h];simp
 ·omega
theorem Ir {t:f_}(hk:0<=aH t)(h:t.length<L)(h32:t.length<32):AY L (getD t):=by
 cases L with
 | zero=>exact absurd h (Q _)
 | succ L =>
   intro j _;by_cases e:(getD t).r j=[]
   ·exact .inl e
   ·have:=IT hk j e;exact .inr ⟨by omega,by omega⟩
theorem F1 (h:x.GR y)(hn:AY L y):AY L x:=by
 cases L with
 | zero=>exact hn.elim
 | succ L=>intro j hj;rw[h.r j hj];exact hn j hj
theorem F2 (h:0<L):AY L e9:=by
 cases L with
 | zero=>omega
 | succ L=>intro j hj;exact .inl (fF (λ_=>[]) j hj)
theorem tI {t:f_}(h:bH t=F):0<=aH t/\bG t=F/\(getD t).k≠0:=by
 rw[yK] at h;simp only[N,p_,Bool.not_eq_true',q_] at h;refine⟨?_,h.2.1,h.2.2⟩;by_cases g:0<=aH t
 ·exact g
 ·rw[VY g] at h;exact absurd h.2.1 (by decide)
theorem Tc (hH:ax J 128 (bn (sC L))):ax J 128 (bn (sC (L+1))):=by
 refine F0 b6 (by kernel_rfl) (by kernel_rfl) λx p v h hp=> ?_;cases h;have hp:AY (L+1) x:=hp;refine⟨PG L,[x.sv],.of bR (bp.cons hH (aS _) oW) bq,λE=>rfl,rfl,rfl,ay.mS (aeV L x _) (by delta Bk Fk;exact rfl) ?_⟩;refine⟨Cd (Tb hp),λ_ _=>rfl,λ_ R=>⟨⟨0,by omega,rfl,aa.refl _,aa.refl _,aa.refl _,aa.refl _,trivial⟩,λi hi=>⟨λc=> ?_,λ_ _=>rfl⟩⟩⟩;have c:=l_ c;have ei:i<16:=by omega
 rw[Int.toNat_natCast,uU x.r ei];refine⟨by omega,λd=> ?_,λd=>⟨by omega,i+1,by omega,by omega,aa.refl _,aa.refl _,aa.refl _,aa.refl _,trivial⟩⟩;have d: ¬ x.r i=[]:=by simpa using d
 obtain⟨hl,h32⟩:(x.r i).length<L/\(x.r i).length<32:=by
  rcases hp i ei with h | h
  ·exact absurd h d
  ·exact h
 have hlp:0<L:=by omega
 refine⟨rfl,by omega,λe=> ?_,λe=>⟨⟨.inl (by omega),by omega⟩,λf=>⟨?_,rfl,by omega,i+1,by omega,by omega,aa.refl _,aa.refl _,aa.refl _,aa.refl _,trivial⟩,λf=>⟨F2 hlp,rfl,by omega,i+1,by omega,by omega,aa.refl _,aa.refl _,aa.refl _,aa.refl _,trivial⟩⟩⟩
 ·have:=lg e;omega
 ·exact F1 (qL (getD (x.r i))) (Ir (tI f).1 hl h32)
theorem K5: ∀ L,ax J 128 (bn (sC L))
 | 0=>F0 b6 (by kernel_rfl) (by kernel_rfl) λx p v h hp=>by injection h with h;injection h with h1 h2;subst h1;exact hp.elim
 | L+1=>Tc (K5 L)
theorem wU (r:Nat->f_): ∀ i,aV r i<=i
 | 0=>aC _
 | i+1=>by have:=wU r i;unfold aV;cases bw (r i)<;>simp only[cond_true,cond_false]<;>omega
theorem ady (x:Nd):Sx.Good J (PF x):=.of bR (bp.cons (K5 64) (aS _) oW) bq
end
end Go.Proofs.YtoibaecagklkaaaGreatDoor
