/-
  The framework's part 25: a slice among a call's arguments, as a view: whatever the caller holds it by.
-/
import Derived.Test.YtpaaiebohjjieaaGreatDoorMj
import Derived.Test.YtpaaiebohjjieaaGreatDoorMl
import Derived.Test.YtpaaiebohjjieaaGreatDoorMi
import Derived.Test.YtpaaiebohjjieaaGreatDoorMk
namespace Go.Proofs.YtpaaiebohjjieaaGreatDoor.Sx
open Go
theorem aK.OT (c:aK)(i:Nat)(E E':Nat->Nat):(c.at i).val E=(c.at i).val E':=by cases c<;>rfl
structure Seen where
 key:Option Nat
 z:Bool
 o:Nat
 n:Nat
 c:Nat
 av:List aK
def Seen.B (s:Seen):SB:=.view s.z s.o s.n s.av
def Seen.sv (j:Nat)(s:Seen):SV:=.cC j s.av.length s.z s.o 0 s.n s.c
def Seen.DW (m:Mem)(s:Seen):Prop:=∀ Γ E nx w,aG Γ E m nx w->s.B.no=false->∃ key X,s.key=some key/\m.get key=some X/\X.no=false/\∃ ob,w.heap[E key]?=some ob/\∀ E',bw E' s.B ob
def HN (m:Mem)(v:SV)(s:Seen):Prop:=(∀(E E':Nat->Nat) (j:Nat),(∀ key,s.key=some key->E' j=E key)->v.val E=(s.sv j).val E')/\s.DW m
theorem wg {z:Bool}{o n:Nat}{av:List aK}{ce:Array Value}{ty:TypeId}{fr:Nat×Nat}(h: ∀(i k:Nat) (col:aK),i<n->av[k]?=some col->ce[o+i*av.length+k]?=some ((col.at i).val (fun _=>0)))(E':Nat->Nat) :
  bw E' (.view z o n av) (.cells ce ty fr):=⟨ce,ty,fr,rfl,fun i k col hi hk=>by rw[aK.OT col i E' (fun _=>0)];exact h i k col hi hk⟩
theorem aik (m:Mem)(av:List aK):HN m .aO ⟨none,true,0,0,0,av⟩:=⟨fun _ _ _ _=>rfl,fun _ _ _ _ _ h=>by cases h⟩
theorem AS (i:Nat)(av:List aK)(k:Nat)(col:aK)(h:(gE i av)[k]?=some col): ∃ d,av[k]?=some d/\∀(j:Nat) (E:Nat->Nat),(col.at j).val E=(d.at (i+j)).val E:=by obtain⟨d,h1,h2⟩:=tG h;exact⟨d,h1,fun j E=>by rw[h2 j]⟩
theorem acB {m:Mem}{key i n c n':Nat}{z z':Bool}{av:List aK}{ro:Bool}{tot:Nat}{ty:TypeId}(hk:m.get key=some (SB.rows z' n' av ro tot ty))(hz:z=z'∨0<n')(hn:i+n<=n') :
  HN m (.bI key av.length z i n c) ⟨some key,z,i*av.length,n,c,gE i av⟩:=by
 refine⟨fun E E' j h=>by simp[SV.val,Seen.sv,h key rfl],fun Γ E nx w hs h=> ?_⟩;have hno:(SB.rows z' n' av ro tot ty).no=false:=by
  rcases hz with rfl | hz
  ·cases n with
   | zero =>
     have hz:z=false:=by
      cases z with
      | false=>rfl
      | true=>cases h
     subst hz;rfl
   | succ n=>exact SB.mc (i:=0) (by omega)
  ·exact SB.mc (i:=0) hz
 obtain⟨ob,ho,ce,fr,rfl,_,_,_,h4⟩:=hs.qD key _ hk hno;refine⟨key,_,rfl,hk,hno,_,ho,wg fun a b col ha hb=> ?_⟩;obtain⟨d,h1,h2⟩:=AS _ _ _ _ hb;have:=h4 (i+a) b d (by simp only at ha;omega) h1;rw[h2 a,aK.OT d _ _ E,jI,← this];congr 1;rw[Nat.add_mul]
theorem acC {m:Mem}{key o i n c n':Nat}{z:Bool}{av:List aK}(hk:m.get key=some (SB.view z o n' av))(hn:i+n<=n') :
  HN m (.cC key av.length z o i n c) ⟨some key,z,o+i*av.length,n,c,gE i av⟩:=by
 refine⟨fun E E' j h=>by simp[SV.val,Seen.sv,h key rfl],fun Γ E nx w hs h=> ?_⟩;have hno:(SB.view z o n' av).no=false:=by
  cases n with
  | zero =>
    have hz:z=false:=by
     cases z with
     | false=>rfl
     | true=>cases h
    subst hz;rfl
  | succ n=>exact SB.HD (i:=0) (by omega)
 obtain⟨ob,ho,ce,ty,fr,rfl,h4⟩:=hs.qD key _ hk hno;refine⟨key,_,rfl,hk,hno,_,ho,wg fun a b col ha hb=> ?_⟩;obtain⟨d,h1,h2⟩:=AS _ _ _ _ hb;have:=h4 (i+a) b d (by simp only at ha;omega) h1;rw[h2 a,aK.OT d _ _ E,jI,← this];congr 1;show o+i*av.length+a*av.length+b=o+(i+a)*av.length+b;rw[Nat.add_mul];omega
def amQ:SV->Int
 | .int _ _ n=>n
 | _=>0
def aix:SV->Bool
 | .bool _ b=>b
 | _=>false
def aaD:SV->List UInt8
 | .str _ s=>s
 | _=>[]
def RD (l:List SV)(w j:Nat):Option aK:=match l[j]? with
 | some (.int k _ _)=>some (.int k fun i=>amQ (l.getD (i*w+j) .cc))
 | some (.bool _ _)=>some (.bool fun i=>aix (l.getD (i*w+j) .cc))
 | some (.str _ _)=>some (.str fun i=>aaD (l.getD (i*w+j) .cc))
 | _=>none
def kindOk:aK->SV->Bool
 | .int k _,.int k' _ _=>decide (k=k')
 | .bool _,.bool _ _=>true
 | .str _,.str _ _=>true
 | _,_=>false
theorem aa2 {l:List SV}{w j i:Nat}{col:aK}(h:RD l w j=some col)(hk:kindOk col (l.getD (i*w+j) .cc)=true)(E:Nat->Nat):(l.getD (i*w+j) .cc).val E=(col.at i).val E:=by
 unfold RD at h;split at h
 ·injection h with h;subst h;unfold kindOk at hk;split at hk
  ·rename_i e1 e2;injection e1 with e1 _;subst e1;simp only[decide_eq_true_eq] at hk;rw[e2];simp only[aK.at,e2,amQ,SV.val,hk]
  ·cases ‹aK.int _ _=aK.bool _›
  ·cases ‹aK.int _ _=aK.str _›
  ·cases hk
 ·injection h with h;subst h;unfold kindOk at hk;split at hk
  ·cases ‹aK.bool _=aK.int _ _›
  ·rename_i e1 e2;rw[e2];simp only[aK.at,e2,aix,SV.val]
  ·cases ‹aK.bool _=aK.str _›
  ·cases hk
 ·injection h with h;subst h;unfold kindOk at hk;split at hk
  ·cases ‹aK.str _=aK.int _ _›
  ·cases ‹aK.str _=aK.bool _›
  ·rename_i e1 e2;rw[e2];simp only[aK.at,e2,aaD,SV.val]
  ·cases hk
 ·cases h
theorem seen_cells {m:Mem}{key o n c tot:Nat}{cl:Bool}{ty:TypeId}{cs:List SV}{av:List aK}(hk:m.get key=some (.cells cs tot ty))
  (hc: ∀(i j:Nat) (col:aK),i<n->av[j]?=some col->∃ v,cs[o+i*av.length+j]?=some v/\∀ E,v.val E=(col.at i).val E):HN m (.slc key o n cl c) ⟨some key,false,o,n,c,av⟩:=by
 refine⟨fun E E' j h=>by simp[SV.val,Seen.sv,h key rfl],fun Γ E nx w hs _=> ?_⟩;obtain⟨ob,ho,ce,fr,rfl,_,h4,_⟩:=hs.qD key _ hk rfl;refine⟨key,_,rfl,hk,rfl,_,ho,wg fun i j col hi hj=> ?_⟩;obtain⟨v,g1,g2⟩:=hc i j col hi hj;rw[h4 _ _ g1,g2 E,aK.OT col i E (fun _=>0)]
def Ib (l:List SV)(w:Nat):Nat->Nat->Option (List aK)
 | _,0=>some []
 | j,r+1=>match RD l w j,Ib l w (j+1) r with
   | some c,some cs=>some (c::cs)
   | _,_=>none
theorem Ic {l:List SV}{w:Nat}: ∀ {r j:Nat} {av:List aK},Ib l w j r=some av->av.length=r/\∀(k:Nat) (c:aK),av[k]?=some c->RD l w (j+k)=some c
 | 0,_,_,h=>by injection h with h;subst h;exact⟨rfl,fun k c hc=>by simp at hc⟩
 | r+1,j,av,h=>by
   unfold Ib at h;split at h
   ·rename_i c cs h1 h2;injection h with h;subst h;obtain⟨g1,g2⟩:=Ic h2;refine⟨by simp[g1],fun k d hd=> ?_⟩;cases k with
    | zero=>injection hd with hd;subst hd;exact h1
    | succ k =>have:=g2 k d (by simpa using hd);rw[show j+(k+1)=j+1+k by omega];exact this
   ·cases h
def y6 (l:List SV)(w i j:Nat):List aK->Bool
 | []=>true
 | col::r=>Nat.blt (i*w+j) l.length&&kindOk col (l.getD (i*w+j) .cc)&&y6 l w i (j+1) r
theorem FF {l:List SV}{w i:Nat}: ∀ {av:List aK} {j:Nat},y6 l w i j av=true->∀(k:Nat) (c:aK),av[k]?=some c->i*w+(j+k)<l.length/\kindOk c (l.getD (i*w+(j+k)) .cc)=true
 | [],_,_,k,c,hc=>by simp at hc
 | d::r,j,h,k,c,hc=>by
   simp only[y6,Bool.and_eq_true,Nat.blt_eq] at h;obtain⟨⟨h1,h2⟩,h3⟩:=h;cases k with
   | zero=>injection hc with hc;subst hc;exact⟨h1,h2⟩
   | succ k =>have:=FF h3 k c (by simpa using hc);rw[show j+(k+1)=j+1+k by omega];exact this
def L5 (l:List SV)(w:Nat)(av:List aK):Nat->Bool
 | 0=>true
 | i+1=>y6 l w i 0 av&&L5 l w av i
theorem L6 {l:List SV}{w:Nat}{av:List aK}: ∀ {n:Nat},L5 l w av n=true->∀ i,i<n->y6 l w i 0 av=true
 | 0,_,i,hi=>absurd hi (Nat.not_lt_zero _)
 | n+1,h,i,hi=>by
   simp only[L5,Bool.and_eq_true] at h;by_cases e:i=n
   ·subst e;exact h.1
   ·exact L6 h.2 i (by omega)
def we (d:List aK)(m:Mem):SV->Option (Prop×Seen)
 | .aO=>some (True,⟨none,true,0,0,0,d⟩)
 | .bI key w z i n c=>(match m.get key with
   | some (.rows z' n' av _ _ _)=>if w=av.length then some ((match z,z' with
     | false,true=>0<n'/\i+n<=n'
     | z,z'=>z=z'/\i+n<=n'),⟨some key,z,i*w,n,c,gE i av⟩)else none
   | _=>none)
 | .cC key w z o i n c=>(match m.get key with
   | some (.view z' o' n' av)=>if w=av.length then some (z=z'/\o'=o/\i+n<=n',⟨some key,z,o+i*w,n,c,gE i av⟩)else none
   | _=>none)
 | .slc key o n _ c=>(match m.get key with
   | some (.cells cs _ _)=>(match n with
     | 0=>some (True,⟨some key,false,o,0,c,d⟩)
     | n+1=>(match Ib (cs.drop o) d.length 0 d.length with
       | some av=>if L5 (cs.drop o) d.length av (n+1)=true then some (True,⟨some key,false,o,n+1,c,av⟩)else none
       | none=>none))
   | _=>none)
 | _=>none
theorem adk {d:List aK}{m:Mem}{v:SV}{p:Prop}{s:Seen}(h:we d m v=some (p,s))(hp:p):HN m v s:=by
 unfold we at h;split at h
 ·injection h with h;injection h with h1 h2;subst h2;exact aik m d
 ·rename_i key w z i n c;split at h
  ·rename_i z' n' av ro tot ty hk;split at h
   ·rename_i hc;subst hc;injection h with h;injection h with h1 h2;subst h1;subst h2;have hp:(z=z'∨0<n')/\i+n<=n':=by cases z<;>cases z'<;>first | exact⟨.inl hp.1,hp.2⟩ | exact⟨.inr hp.1,hp.2⟩
    exact acB hk hp.1 hp.2
   ·cases h
  ·cases h
 ·rename_i key w z o i n c;split at h
  ·rename_i z' o' n' av hk;split at h
   ·rename_i hc;subst hc;injection h with h;injection h with h1 h2;subst h1;subst h2;obtain⟨rfl,rfl,hp⟩:=hp;exact acC hk hp
   ·cases h
  ·cases h
 ·rename_i key o n cl c;split at h
  ·rename_i cs tot ty hk;split at h
   ·injection h with h;injection h with h1 h2;subst h2;exact seen_cells hk fun i j col hi=>absurd hi (Nat.not_lt_zero _)
   ·rename_i n;split at h
    ·rename_i av hcols;split at h
     ·rename_i hall;injection h with h;injection h with h1 h2;subst h2;obtain⟨g1,g2⟩:=Ic hcols;refine seen_cells hk fun i j col hi hj=> ?_;have h1:=g2 j col hj;obtain⟨h2,h3⟩:=FF (L6 hall i hi) j col hj;rw[Nat.zero_add] at h1 h2 h3;have h4:=aa2 h1 h3;refine⟨(cs.drop o).getD (i*d.length+j) .cc,?_,h4⟩;rw[g1,Nat.add_assoc,← List.getElem?_drop,List.getD_eq_getElem?_getD,List.getElem?_eq_getElem h2];rfl
     ·cases h
    ·cases h
  ·cases h
 ·cases h
inductive Sh1 where
 | one
 | slice (d:List aK)
inductive AZ where
 | of (h:Sh1)
 | agg (l:List Sh1)
abbrev Pk (α:Type):=Option (α×Prop×List Seen)
def JL (m:Mem)(j:Nat)(h:Sh1)(v:SV):Pk SV:=match h with
 | .one=>if v.wf 0=true then some (yS v,True,[])else none
 | .slice d=>match we d m v with
   | some (p,s)=>some (s.sv j,p,[s])
   | none=>none
def ES (m:Mem):Nat->List Sh1->List SV->Pk (List SV)
 | _,[],[]=>some ([],True,[])
 | j,h::hs,v::vs=>(match JL m j h v with
   | some (v',p,l)=>(match ES m (j+l.length) hs vs with
     | some (vs',q,r)=>some (v'::vs',p/\q,l++r)
     | none=>none)
   | none=>none)
 | _,_,_=>none
def Nt (m:Mem)(j:Nat)(h:AZ)(v:SV):Pk SV:=match h,v with
 | .of h,v=>JL m j h v
 | .agg hs,.agg vs=>(match ES m j hs vs with
   | some (vs',p,l)=>some (.agg vs',p,l)
   | none=>none)
 | _,_=>none
def tv (m:Mem):Nat->List AZ->List SV->Pk (List SV)
 | _,[],[]=>some ([],True,[])
 | j,h::hs,v::vs=>(match Nt m j h v with
   | some (v',p,l)=>(match tv m (j+l.length) hs vs with
     | some (vs',q,r)=>some (v'::vs',p/\q,l++r)
     | none=>none)
   | none=>none)
 | _,_,_=>none
def Names (E E':Nat->Nat)(j:Nat)(l:List Seen):Prop:=∀(i:Nat) (s:Seen),l[i]?=some s->∀ key,s.key=some key->E' (j+i)=E key
theorem Names.left {E E':Nat->Nat}{j:Nat}{l r:List Seen}(h:Names E E' j (l++r)):Names E E' j l:=fun i s hi=>h i s (by rw[List.getElem?_append_left (List.getElem?_eq_some_iff.1 hi).1];exact hi)
theorem Names.right {E E':Nat->Nat}{j:Nat}{l r:List Seen}(h:Names E E' j (l++r)):Names E E' (j+l.length) r:=fun i s hi=>by rw[Nat.add_assoc];exact h (l.length+i) s (by rw[List.getElem?_append_right (by omega)];rw[Nat.add_sub_cancel_left];exact hi)
theorem Tz {m:Mem}{j:Nat}{h:Sh1}{v v':SV}{p:Prop}{l:List Seen}(e:JL m j h v=some (v',p,l))(hp:p):(∀ E E',Names E E' j l->v.val E=v'.val E')/\∀ s∈ l,s.DW m:=by
 unfold JL at e;split at e
 ·split at e
  ·rename_i hw;injection e with e;injection e with e1 e;injection e with e2 e3;subst e1;subst e3;exact⟨fun E E' _=>by rw[OD];exact SV.DP hw E E',fun s hs=>by cases hs⟩
  ·cases e
 ·split at e
  ·rename_i q s hq;injection e with e;injection e with e1 e;injection e with e2 e3;subst e1;subst e2;subst e3;obtain⟨h1,h2⟩:=adk hq hp;exact⟨fun E E' hn=>h1 E E' j fun key hk=>hn 0 s rfl key hk,fun t ht=>by rw[List.mem_singleton] at ht;subst ht;exact h2⟩
  ·cases e
theorem Nu {m:Mem}: ∀ {hs:List Sh1} {j:Nat} {vs vs':List SV} {p:Prop} {l:List Seen},ES m j hs vs=some (vs',p,l)->p->(∀ E E',Names E E' j l->SV.vals E vs=SV.vals E' vs')/\∀ s∈ l,s.DW m
 | [],_,[],_,_,_,e,_=>by injection e with e;injection e with e1 e;injection e with e2 e3;subst e1;subst e3;exact⟨fun _ _ _=>rfl,fun s hs=>by cases hs⟩
 | h::hs,j,v::vs,vs',p,l,e,hp=>by
   simp only[ES] at e;split at e
   ·rename_i v1 p1 l1 h1;split at e
    ·rename_i vs2 p2 l2 h2;injection e with e;injection e with e1 e;injection e with e2 e3;subst e1;subst e2;subst e3;obtain⟨a1,a2⟩:=Tz h1 hp.1;obtain⟨b1,b2⟩:=Nu h2 hp.2;refine⟨fun E E' hn=>by simp only[SV.vals];rw[a1 E E' hn.left,b1 E E' hn.right],fun s hs=> ?_⟩;rcases List.mem_append.1 hs with hs | hs
     ·exact a2 s hs
     ·exact b2 s hs
    ·cases e
   ·cases e
 | [],_,_::_,_,_,_,e,_=>by cases e
 | _::_,_,[],_,_,_,e,_=>by cases e
theorem agw {m:Mem}{j:Nat}{h:AZ}{v v':SV}{p:Prop}{l:List Seen}(e:Nt m j h v=some (v',p,l))(hp:p):(∀ E E',Names E E' j l->v.val E=v'.val E')/\∀ s∈ l,s.DW m:=by
 unfold Nt at e;split at e
 ·exact Tz e hp
 ·split at e
  ·rename_i vs' p' l' h';injection e with e;injection e with e1 e;injection e with e2 e3;subst e1;subst e2;subst e3;obtain⟨a1,a2⟩:=Nu h' hp;exact⟨fun E E' hn=>by simp only[SV.val];rw[a1 E E' hn],a2⟩
  ·cases e
 ·cases e
theorem Nv {m:Mem}: ∀ {hs:List AZ} {j:Nat} {vs vs':List SV} {p:Prop} {l:List Seen},tv m j hs vs=some (vs',p,l)->p->(∀ E E',Names E E' j l->SV.vals E vs=SV.vals E' vs')/\∀ s∈ l,s.DW m
 | [],_,[],_,_,_,e,_=>by injection e with e;injection e with e1 e;injection e with e2 e3;subst e1;subst e3;exact⟨fun _ _ _=>rfl,fun s hs=>by cases hs⟩
 | h::hs,j,v::vs,vs',p,l,e,hp=>by
   simp only[tv] at e;split at e
   ·rename_i v1 p1 l1 h1;split at e
    ·rename_i vs2 p2 l2 h2;injection e with e;injection e with e1 e;injection e with e2 e3;subst e1;subst e2;subst e3;obtain⟨a1,a2⟩:=agw h1 hp.1;obtain⟨b1,b2⟩:=Nv h2 hp.2;refine⟨fun E E' hn=>by simp only[SV.vals];rw[a1 E E' hn.left,b1 E E' hn.right],fun s hs=> ?_⟩;rcases List.mem_append.1 hs with hs | hs
     ·exact a2 s hs
     ·exact b2 s hs
    ·cases e
   ·cases e
 | [],_,_::_,_,_,_,e,_=>by cases e
 | _::_,_,[],_,_,_,e,_=>by cases e
def aeM (j:Nat)(h:Sh1)(v:SV)(l:List Seen):SV×Nat×List Seen:=match h,l with
 | .slice _,s::r=>(s.sv j,j+1,r)
 | _,l=>(v,j,l)
def Pw:Nat->List Sh1->List SV->List Seen->List SV×Nat×List Seen
 | j,h::hs,v::vs,l=>match aeM j h v l with
   | (v',j',l')=>match Pw j' hs vs l' with
     | (vs',j'',l'')=>(v'::vs',j'',l'')
 | j,_,vs,l=>(vs,j,l)
def aeN (j:Nat)(h:AZ)(v:SV)(l:List Seen):SV×Nat×List Seen:=match h,v with
 | .of h,v=>aeM j h v l
 | .agg hs,.agg vs=>(match Pw j hs vs l with
   | (vs',j',l')=>(.agg vs',j',l'))
 | _,v=>(v,j,l)
def Px:Nat->List AZ->List SV->List Seen->List SV×Nat×List Seen
 | j,h::hs,v::vs,l=>match aeN j h v l with
   | (v',j',l')=>match Px j' hs vs l' with
     | (vs',j'',l'')=>(v'::vs',j'',l'')
 | j,_,vs,l=>(vs,j,l)
theorem RZ {m:Mem}{j:Nat}{h:Sh1}{v v':SV}{p:Prop}{l:List Seen}(e:JL m j h v=some (v',p,l))(r:List Seen):aeM j h v' (l++r)=(v',j+l.length,r):=by
 unfold JL at e;split at e
 ·split at e
  ·injection e with e;injection e with e1 e;injection e with e2 e3;subst e1;subst e3;rfl
  ·cases e
 ·split at e
  ·injection e with e;injection e with e1 e;injection e with e2 e3;subst e1;subst e3;rfl
  ·cases e
theorem Mm {m:Mem}: ∀ {hs:List Sh1} {j:Nat} {vs vs':List SV} {p:Prop} {l:List Seen},ES m j hs vs=some (vs',p,l)->∀ r,Pw j hs vs' (l++r)=(vs',j+l.length,r)
 | [],_,[],_,_,_,e,r=>by injection e with e;injection e with e1 e;injection e with e2 e3;subst e1;subst e3;rfl
 | h::hs,j,v::vs,vs',p,l,e,r=>by
   simp only[ES] at e;split at e
   ·rename_i v1 p1 l1 h1;split at e
    ·rename_i vs2 p2 l2 h2;injection e with e;injection e with e1 e;injection e with e2 e3;subst e1;subst e2;subst e3;have a:=RZ h1 (l2++r);have b:=Mm h2 r;rw[List.append_assoc];simp only[Pw,a,b,List.length_append,Nat.add_assoc]
    ·cases e
   ·cases e
 | [],_,_::_,_,_,_,e,_=>by cases e
 | _::_,_,[],_,_,_,e,_=>by cases e
theorem aeO {m:Mem}{j:Nat}{h:AZ}{v v':SV}{p:Prop}{l:List Seen}(e:Nt m j h v=some (v',p,l))(r:List Seen):aeN j h v' (l++r)=(v',j+l.length,r):=by
 unfold Nt at e;split at e
 ·exact RZ e r
 ·split at e
  ·rename_i vs' p' l' h';injection e with e;injection e with e1 e;injection e with e2 e3;subst e1;subst e2;subst e3;have a:=Mm h' r;simp only[aeN,a]
  ·cases e
 ·cases e
theorem Mn {m:Mem}: ∀ {hs:List AZ} {j:Nat} {vs vs':List SV} {p:Prop} {l:List Seen},tv m j hs vs=some (vs',p,l)->∀ r,Px j hs vs' (l++r)=(vs',j+l.length,r)
 | [],_,[],_,_,_,e,r=>by injection e with e;injection e with e1 e;injection e with e2 e3;subst e1;subst e3;rfl
 | h::hs,j,v::vs,vs',p,l,e,r=>by
   simp only[tv] at e;split at e
   ·rename_i v1 p1 l1 h1;split at e
    ·rename_i vs2 p2 l2 h2;injection e with e;injection e with e1 e;injection e with e2 e3;subst e1;subst e2;subst e3;have a:=aeO h1 (l2++r);have b:=Mn h2 r;rw[List.append_assoc];simp only[Px,a,b,List.length_append,Nat.add_assoc]
    ·cases e
   ·cases e
 | [],_,_::_,_,_,_,e,_=>by cases e
 | _::_,_,[],_,_,_,e,_=>by cases e
def filled (sh:List AZ)(vs:List SV)(l:List Seen):List SV:=(Px 0 sh vs l).1
theorem abb {m:Mem}{hs:List AZ}{vs vs':List SV}{p:Prop}{l:List Seen}(e:tv m 0 hs vs=some (vs',p,l)):filled hs vs' l=vs':=by have:=Mn e [];rw[List.append_nil] at this;unfold filled;rw[this]
def nU:Nat->List Seen->Mem
 | _,[]=>[]
 | j,s::r=>(j,s.B)::nU (j+1) r
theorem fP: ∀ {l:List Seen} {j k:Nat} {B:SB},(nU j l).get k=some B->∃ i s,k=j+i/\l[i]?=some s/\B=s.B
 | [],_,_,_,h=>by cases h
 | s::r,j,k,B,h=>by
   rcases Mem.jt h with ⟨rfl,rfl⟩ | ⟨_,h⟩
   ·exact⟨0,s,rfl,rfl,rfl⟩
   ·obtain⟨i,t,e1,e2,e3⟩:=fP h;exact⟨i+1,t,by omega,by simpa using e2,e3⟩
def uT (E:Nat->Nat)(l:List Seen)(j:Nat):Nat:=match l[j]? with
 | some s=>(match s.key with
   | some k=>E k
   | none=>0)
 | none=>0
theorem Tc (E:Nat->Nat)(l:List Seen):Names E (uT E l) 0 l:=fun i s hi key hk=>by simp only[uT,Nat.zero_add,hi,hk]
theorem ail {m:Mem}{l:List Seen}(h: ∀ s∈ l,s.DW m){Γ:aQ}{E:Nat->Nat}{nx:Nat}{w:World}(hs:aG Γ E m nx w) :
  aG (aQ.at w (fun _=>False) hs.G2 (fun _ _ h=>h)) (uT E l) (nU 0 l) l.length w:=by
 refine⟨fun j B a hj hn=> ?_,fun j j' B B' a hj hn hj' hn' hr=> ?_,fun j B hj=> ?_,fun j B a hj hn hro=> ?_,Ext.refl _ _,⟨Nat.zero_le _,fun k hk=>absurd hk (Nat.not_lt_zero _)⟩,fun D hD=>by cases hD⟩
 ·obtain⟨i,s,e1,e2,rfl⟩:=fP hj;rw[Nat.zero_add] at e1;subst e1;obtain⟨hn1,rfl⟩:=(SB.oV (B:=s.B) rfl).1 hn;obtain⟨key,X,g1,g2,g3,ob,g4,g5⟩:=h s (List.mem_of_getElem? e2) Γ E nx w hs hn1;exact⟨ob,by simp only[uT,e2,g1];exact g4,g5 _⟩
 ·obtain⟨i,s,e1,e2,rfl⟩:=fP hj;obtain⟨i',s',e1',e2',rfl⟩:=fP hj';rcases hr with hr | hr<;>cases hr
 ·obtain⟨i,s,e1,e2,rfl⟩:=fP hj;have:=(List.getElem?_eq_some_iff.1 e2).1;omega
 ·obtain⟨i,s,e1,e2,rfl⟩:=fP hj;cases hro
noncomputable def bE (sh:List AZ)(spec:List SV->List Seen->Option (Prop×b7)):PT:=fun args m nx K=>match tv m 0 sh args with
 | some (vs,p,l)=>(match spec vs l with
   | some (q,a)=>.and (.atom (p/\q)) (a.vc m nx K)
   | none=>.fail "arguments that nothing is said of")
 | none=>.fail "a slice that is not known"
theorem bJ (sh:List AZ)(spec:List SV->List Seen->Option (Prop×b7)):aJ (bE sh spec):=by
 intro args m nx K K' hK h;unfold bE at h ⊢;split at h
 ·split at h
  ·exact⟨h.1,b7.td hK h.2⟩
  ·exact h
 ·exact h
theorem gq {P:Program}{f:FuncId}{fn:Func}(hf:P.funcs[f]?=some fn) (hn:(fn.name== "runtime.NumGoroutine")=false) (hb:fn.body.isSome=true) {n:Nat} {sh:List AZ}
  {spec:List SV->List Seen->Option (Prop×b7)}
  (h: ∀ vs l q a,spec vs l=some (q,a)->q->∃ cfg,Good P cfg/\SV.gM l.length (filled sh vs l)=true/\a.Ok/\aq (gR P (calling P cfg n) [] Al (cfg.aR f) cfg.rounds fn (filled sh vs l) (nU 0 l) l.length (fun v m _=>a.fit v m))):au P f (bE sh spec):=by
 intro args m nx K hk hwf hargs Γ E w hs;unfold bE at hk;split at hk
 ·rename_i vs p l hx;split at hk
  ·rename_i q a hq;obtain⟨⟨hxp,hqq⟩,hk⟩:=hk;obtain⟨cfg,hg,h1,h2,h3⟩:=h _ _ _ _ hq hqq;rw[abb hx] at h1 h3;obtain⟨e1,e2⟩:=Nv hx hxp;have hwm: ∀(j:Nat) (l:List Seen),Mem.wf l.length (nU j l)=true:=by
    intro j l;have: ∀(j n:Nat) (l:List Seen),Mem.wf n (nU j l)=true:=by
     intro j n l;induction l generalizing j with
     | nil=>rfl
     | cons s r ih=>simp only[nU,Mem.wf,Bool.and_eq_true];exact⟨rfl,ih _⟩
    exact this j _ l
   have hc:=gG hg hf hn hb h3 (hwm 0 l) h1 (ail e2 hs);rw[← e1 E _ (Tc E l)] at hc;refine ic hf hn hb (hc.mono ?_);rintro e w' ⟨v,rfl,E',sv,m',nx',_,_,g3,g4,g5⟩;refine⟨v,rfl,?_⟩;cases sv with
   | none=>exact g5.elim
   | some u=>rw[g3 u rfl];exact b7.told hs hwf g4 h2 g5 hk
  ·exact hk.elim
 ·exact hk.elim
def afV (m:Mem)(h:Sh1)(v:SV):Bool:=match h with
 | .one=>isLit v
 | .slice _=>litCells' m v
where litCells' (m:Mem):SV->Bool
 | .aO=>true
 | .slc key _ _ _ _=>(match m.get key with
   | some (.cells cs _ _)=>DX cs
   | _=>false)
 | _=>false
def Y1 (m:Mem):List Sh1->List SV->Bool
 | h::hs,v::vs=>afV m h v&&Y1 m hs vs
 | _,_=>true
def aol (m:Mem):AZ->SV->Bool
 | .of h,v=>afV m h v
 | .agg hs,.agg vs=>Y1 m hs vs
 | _,_=>false
def Y2 (m:Mem):List AZ->List SV->Bool
 | h::hs,v::vs=>aol m h v&&Y2 m hs vs
 | _,_=>true
noncomputable def B4 (sh:List AZ)(spec:List SV->List Seen->Option (Prop×b7)):PT:=fun args m nx K=>match Y2 m sh args with
 | true=>(match tv m 0 sh args with
   | some (vs,p,l)=>(match spec vs l with
     | some (q,a)=>.and (.atom (p/\q)) (a.vcl m nx K)
     | none=>.fail "arguments that nothing is said of")
   | none=>.fail "a slice that is not known")
 | false=>bE sh spec args m nx K
theorem OR (sh:List AZ)(spec:List SV->List Seen->Option (Prop×b7)):aJ (B4 sh spec):=by
 intro args m nx K K' hK h;unfold B4 at h ⊢;split at h
 ·split at h
  ·split at h
   ·exact⟨h.1,b7.sq hK h.2⟩
   ·exact h
  ·exact h
 ·exact bJ sh spec _ _ _ _ _ hK h
theorem adG {P:Program}{f:FuncId}{sh:List AZ}{spec:List SV->List Seen->Option (Prop×b7)}(h:au P f (bE sh spec)):au P f (B4 sh spec):=by
 intro args m nx K hk hwf hargs Γ E w hs;unfold B4 at hk;split at hk
 ·have:(bE sh spec args m nx (aoT Γ E nx K)).holds:=by
   unfold bE;split at hk
   ·rename_i vs p l hp;split at hk
    ·rename_i q a hq
     first
      | exact⟨hk.1,b7.tf hk.2⟩
      | (rw[hp];simp only[hq];exact⟨hk.1,b7.tf hk.2⟩)
    ·exact hk.elim
   ·exact hk.elim
  refine(h args m nx _ this hwf hargs Γ E w hs).mono (fun e w' hh=> ?_) (fun _ _ h=>h);obtain⟨E',sv,m',nx',h1,h2,h3,h4,h5⟩:=hh;cases sv with
  | none=>exact h5.elim
  | some v=>rw[h3 v rfl];exact h5 E' w' h1 h2 h4
 ·exact h args m nx K hk hwf hargs Γ E w hs
end Go.Proofs.YtpaaiebohjjieaaGreatDoor.Sx
namespace Go.Proofs.YtpaaiebohjjieaaGreatDoor
open Go Sx
set_option maxRecDepth 20000
noncomputable def i7 (cfg:gF)(f:Nat)(fn:Func)(args:List SV)(l:List Seen)(a:b7):VC:=gR Tryz.prog (calling Tryz.prog cfg 20) [] Al (cfg.aR f) cfg.rounds fn args (nU 0 l) l.length (fun v m _=>a.fit v m)
def Qb (m:Mem)(v:SV):Option (List (List UInt8)):=match v with
 | .slc key o n _ _=>(match m.get key with
   | some (.cells cs _ _)=>strCells ((cs.drop o).take n)
   | _=>none)
 | _=>none
theorem U8 {cs:List SV}{n:Nat}{l:List (List UInt8)}(h:strCells (cs.take n)=some l)(hn:n<=cs.length):j6 (fun i=>aaD (cs.getD (i*1+0) .cc)) 0 n=l:=by
 obtain⟨g1,g2⟩:=DD h;rw[List.length_take] at g1;apply List.ext_getElem?;intro i;by_cases hi:i<n
 ·have hl:i<l.length:=by omega
  obtain⟨b,hb⟩:=g2 i _ (List.getElem?_eq_getElem hl);rw[List.getElem?_take_of_lt hi] at hb;unfold j6;rw[List.getElem?_map,List.getElem?_range hi,List.getElem?_eq_getElem hl];simp only[Option.map_some,Nat.zero_add,Nat.mul_one,Nat.add_zero,List.getD_eq_getElem?_getD,hb,Option.getD_some,aaD]
 ·rw[List.getElem?_eq_none (by rw[nP];omega),List.getElem?_eq_none (by omega)]
theorem aaN {l:List SV}{av:List aK}(hc:0<av.length): ∀ {n:Nat},L5 l 1 av n=true->n<=l.length
 | 0,_=>Nat.zero_le _
 | i+1,h=>by
   simp only[L5,Bool.and_eq_true] at h;cases av with
   | nil=>simp at hc
   | cons c r =>have:=h.1;simp only[y6,Bool.and_eq_true,Nat.blt_eq] at this;omega
theorem abF {m:Mem}{v:SV}{p:Prop}{s:Seen}{f:Nat->List UInt8}{l:List (List UInt8)}(h:we [.str fun _=>[]] m v=some (p,s))(hc:s.av=[.str f])(hl:Qb m v=some l):j6 f 0 s.n=l:=by
 unfold Qb at hl;split at hl
 ·rename_i key o n cl c;simp only[we] at h;split at h
  ·rename_i cs tot ty hk;rw[hk] at hl;simp only at hl;cases n with
   | zero =>injection h with h;injection h with h1 h2;subst h2;simp[strCells] at hl;subst hl;rfl
   | succ n =>
     simp only at h;split at h
     ·rename_i av hcols;split at h
      ·rename_i hall;injection h with h;injection h with h1 h2;subst h2;simp only at hc;subst hc;simp only[List.length_cons,List.length_nil,Nat.zero_add,Ib] at hcols;split at hcols
       ·rename_i a b ha hb;injection hb with hb;subst hb;injection hcols with e;injection e with e _;subst e;have hlen:=aaN (by simp) hall;unfold RD at ha;split at ha
        ·cases ha
        ·cases ha
        ·injection ha with ha;injection ha with ha;subst ha;exact U8 hl hlen
        ·cases ha
       ·cases hcols
      ·cases h
     ·cases h
  ·cases h
 ·cases hl
noncomputable def v7 (q:List (List UInt8)->Prop)(g:List (List UInt8)->SV):PT:=fun args m nx K=>match args with
 | [v]=>(match we [.str fun _=>[]] m v with
   | some (p,s)=>(match s.av with
     | [.str f]=>(match Qb m v with
       | some l=>.and (.atom (p/\q l)) (K (g l) m nx)
       | none=>.and (.atom (p/\q (j6 f 0 s.n))) (K (g (j6 f 0 s.n)) m nx))
     | _=>.fail "texts that are not known")
   | none=>.fail "texts that are not known")
 | _=>.fail "arguments"
theorem GQ (q:List (List UInt8)->Prop)(g:List (List UInt8)->SV):aJ (v7 q g):=by
 intro args m nx K K' hK h;unfold v7 at h ⊢;split at h
 ·split at h
  ·split at h
   ·split at h<;>exact⟨h.1,hK _ _ _ h.2⟩
   ·exact h
  ·exact h
 ·exact h
def shS:List AZ:=[.of (.slice [.str fun _=>[]])]
def rowOf (vs:List SV)(l:List Seen):Option (Nat×(Nat->List UInt8)×Bool×Nat×Nat×Option Nat):=match vs,l with
 | [_],[⟨key,z,o,n,c,[.str f]⟩]=>some (n,f,z,o,c,key)
 | _,_=>none
theorem aid {vs:List SV}{l:List Seen}{n:Nat}{f:Nat->List UInt8}{z:Bool}{o c:Nat}{key:Option Nat}(h:rowOf vs l=some (n,f,z,o,c,key)):filled shS vs l=[.cC 0 1 z o 0 n c]/\l=[⟨key,z,o,n,c,[.str f]⟩]:=by
 unfold rowOf at h;split at h
 ·injection h with h;injection h with h1 h;injection h with h2 h;injection h with h3 h;injection h with h4 h;injection h with h5 h6;subst h1;subst h2;subst h3;subst h4;subst h5;subst h6;exact⟨rfl,rfl⟩
 ·cases h
def U' (q:List (List UInt8)->Prop)(g:List (List UInt8)->SV)(vs:List SV)(l:List Seen):Option (Prop×b7):=match rowOf vs l with
 | some (n,f,_)=>some (q (j6 f 0 n),.ret (g (j6 f 0 n)))
 | none=>none
theorem alv {P:Program}{f:FuncId}{q:List (List UInt8)->Prop}{g:List (List UInt8)->SV}(h:au P f (bE shS (U' q g))):au P f (v7 q g):=by
 intro args m nx K hk hwf hargs Γ E w hs;refine h args m nx K ?_ hwf hargs Γ E w hs;unfold v7 at hk;split at hk
 ·rename_i v;split at hk
  ·rename_i p s hv;split at hk
   ·rename_i f' hc;have hk:(VC.and (.atom (p/\q (j6 f' 0 s.n))) (K (g (j6 f' 0 s.n)) m nx)).holds:=by
     split at hk
     ·rename_i l hl;rw[abF hv hc hl];exact hk
     ·exact hk
    obtain⟨key,z,o,n,c,av⟩:=s;simp only at hc;subst hc;have e:tv m 0 shS [v]=some ([(⟨key,z,o,n,c,[.str f']⟩:Seen).sv 0],(p/\True),[⟨key,z,o,n,c,[.str f']⟩]):=by simp only[shS,tv,Nt,JL,hv,List.append_nil]
    unfold bE;rw[e];exact⟨⟨⟨hk.1.1,trivial⟩,hk.1.2⟩,hk.2⟩
   ·exact hk.elim
  ·exact hk.elim
 ·exact hk.elim
def UZ (n:Int):List UInt8:=[UInt8.ofNat (n / 72057594037927936% 256).toNat,UInt8.ofNat (n / 281474976710656% 256).toNat,UInt8.ofNat (n / 1099511627776% 256).toNat,UInt8.ofNat (n / 4294967296% 256).toNat,UInt8.ofNat (n / 16777216% 256).toNat,UInt8.ofNat (n / 65536% 256).toNat,UInt8.ofNat (n / 256% 256).toNat,UInt8.ofNat (n / 1% 256).toNat]
def Ft (T:List UInt8):Nat:=(119 - T.length% 64)% 64
def aaE (T:List UInt8):List UInt8:=128::(List.replicate (Ft T) 0++UZ ((T.length:Int)% 18446744073709551616*8% 18446744073709551616))
def aoA (T:List UInt8):List UInt8:=T++aaE T
def aqg (W:Nat->Int):List UInt8:=[UInt8.ofNat (W 0 / 16777216% 256).toNat,UInt8.ofNat (W 0 / 65536% 256).toNat,UInt8.ofNat (W 0 / 256% 256).toNat,UInt8.ofNat (W 0% 256).toNat,UInt8.ofNat (W 1 / 16777216% 256).toNat,UInt8.ofNat (W 1 / 65536% 256).toNat,UInt8.ofNat (W 1 / 256% 256).toNat,UInt8.ofNat (W 1% 256).toNat,UInt8.ofNat (W 2 / 16777216% 256).toNat,UInt8.ofNat (W 2 / 65536% 256).toNat,UInt8.ofNat (W 2 / 256% 256).toNat,UInt8.ofNat (W 2% 256).toNat,UInt8.ofNat (W 3 / 16777216% 256).toNat,UInt8.ofNat (W 3 / 65536% 256).toNat,UInt8.ofNat (W 3 / 256% 256).toNat,UInt8.ofNat (W 3% 256).toNat,UInt8.ofNat (W 4 / 16777216% 256).toNat,UInt8.ofNat (W 4 / 65536% 256).toNat,UInt8.ofNat (W 4 / 256% 256).toNat,UInt8.ofNat (W 4% 256).toNat,UInt8.ofNat (W 5 / 16777216% 256).toNat,UInt8.ofNat (W 5 / 65536% 256).toNat,UInt8.ofNat (W 5 / 256% 256).toNat,UInt8.ofNat (W 5% 256).toNat,UInt8.ofNat (W 6 / 16777216% 256).toNat,UInt8.ofNat (W 6 / 65536% 256).toNat,UInt8.ofNat (W 6 / 256% 256).toNat,UInt8.ofNat (W 6% 256).toNat,UInt8.ofNat (W 7 / 16777216% 256).toNat,UInt8.ofNat (W 7 / 65536% 256).toNat,UInt8.ofNat (W 7 / 256% 256).toNat,UInt8.ofNat (W 7% 256).toNat]
def cT (T:List UInt8):List UInt8:=aqg (wk (aoA T) ((aoA T).length / 64))
noncomputable def WM:List (FuncId×PT):=(60,wu G9 Fp)::kK
theorem MZ:aU Tryz.prog (fun f=>aA f WM):=.cons ajy (vh _ _) fO
noncomputable def Yu:gF:={cF with cM:=fun f=>aA f WM}
theorem anZ:Sx.Good Tryz.prog Yu:=.of bO MZ bt
def Ra:List SV->Option (Sh×List UInt8->Prop×(Unit->Prop×SV×(Sh×List UInt8)))
 | [.ptr 0 true 0]=>some fun g=>(Rn g.1 g.2/\g.2.length<1152921504606846976,fun _=>(True,.str false (cT g.2),g))
 | _=>none
noncomputable def afO:List (FuncId×PT):=(61,wu G9 Ra)::WM
noncomputable def apG (n:Nat)(f:Nat->List UInt8):bp :={α:=Nat×Sh,pre:=fun _ x=>x.1<=n/\Rn x.2 (flat (j6 f 0 x.1)),sM:=fun _ x=>n - x.1,fresh:=0,slots:=fun _ x=>[(9,.int .i64 false x.1)],mem:=fun _ x=>[(1,x.2.sb)]}
noncomputable def aea (n:Nat)(f:Nat->List UInt8):gF:={cF with cM:=fun f=>aA f afO,aR:=fun g=>if g=21 then [(3,always (apG n f))] else []}
def Zb (l:List (List UInt8)):Prop:=(flat l).length<1152921504606846976/\l.length<1152921504606846976
def ofG (l:List (List UInt8)):SV:=.str false (cT (flat l))
section
variable (n m k : Nat) (s : List UInt8) (a : Int) (x : Sh) (z : Nat -> List UInt8) (y : Nat × Sh) (o A B C : UInt8) (f g : Nat -> Sh × List UInt8 -> SV) (h : Sh × List UInt8)
abbrev agL:Nat->Sh×List UInt8->SV:=fun a=>fun b=>wU (b.1.B a)
abbrev agM:Nat->Sh×List UInt8->SV:=fun a=>fun b=>fL (b.1.W a)
abbrev ag0:=SB.cells (aF (f 0 h) (f 1 h) (aD (f 2 h) (f 3 h) (f 4 h) (f 5 h) (f 6 h) (f 7 h) (g 0 h) (g 1 h) (aD (g 2 h) (g 3 h) (g 4 h) (g 5 h) (g 6 h) (g 7 h) (g 8 h) (g 9 h) (aD (g 10 h) (g 11 h) (g 12 h) (g 13 h) (g 14 h) (g 15 h) (g 16 h) (g 17 h) (aD (g 18 h) (g 19 h) (g 20 h) (g 21 h) (g 22 h) (g 23 h) (g 24 h) (g 25 h) (aD (g 26 h) (g 27 h) (g 28 h) (g 29 h) (g 30 h) (g 31 h) (g 32 h) (g 33 h) (aD (g 34 h) (g 35 h) (g 36 h) (g 37 h) (g 38 h) (g 39 h) (g 40 h) (g 41 h) (aD (g 42 h) (g 43 h) (g 44 h) (g 45 h) (g 46 h) (g 47 h) (g 48 h) (g 49 h) (aD (g 50 h) (g 51 h) (g 52 h) (g 53 h) (g 54 h) (g 55 h) (g 56 h) (g 57 h) (aD (g 58 h) (g 59 h) (g 60 h) (g 61 h) (g 62 h) (g 63 h) (bC h.1.held) (rV h.1.size) List.nil)))))))))) 74 259
abbrev J4:=1+(119 - x.held)% 64
abbrev QL:=rT (x.size*8)
abbrev jv:=J4 x+a
abbrev pQ:=fM (jv a x)
abbrev AM:=a / 65536
abbrev AH:=a / 16777216
abbrev ag6:=eP (fun a=>sV a (pQ 7 x) (jc (QL x / 1)) (sV a (pQ 6 x) (jc (iF (QL x))) (sV a (pQ 5 x) (jc (AM (QL x))) (sV a (pQ 4 x) (jc (AH (QL x))) (sV a (pQ 3 x) (jc (QL x / 4294967296)) (sV a (pQ 2 x) (jc (QL x / 1099511627776)) (sV a (pQ 1 x) (jc (QL x / 281474976710656)) (sV a (pQ 0 x) (jc (QL x / 72057594037927936)) (sV a 0 128 0))))))))) 0 (Int.toNat (jv 8 x))
abbrev uD:=Int.toNat (jv 8 x)
abbrev AE:=NI (uD x)
abbrev mV:List UInt8:=o::A::B::C::s
abbrev Ay:=NI y.1
abbrev ZL:=bT y.1 n (Rn y.2 (flat (j6 z 0 y.1)))
abbrev eJ:=Er n/\m<k
end
theorem aqy (x:Sh)(T:List UInt8):VC.holds (yC Yu 61 Tryz.f61 [.ptr 0 true 0] G9 (x,T) (fun _:Unit=>(True,.str false (cT T),(x,T))))=((fun(a:Nat->SV)=>(fun(b:Nat->SV)=>(fun(c:Nat->Sh×List UInt8->SV)=>(fun(d:Nat->Sh×List UInt8->SV)=>bl (I6 (119 - x.held)) (ak (0<=119 - x.held) (eI (119 - x.held)) ((0:Int)<64)) (I6 (J4 x)) (I6 (jv 8 x)) (aL (Er (jv 8 x)) (0<=jv 8 x) (1*jv 8 x<=140737488355328) (eI (jv 8 x))) (Ix 0 (AE x)) (0<uD x) (I6 (J4 x)) (bl (I6 (jv 0 x)) (Ix (jv 0 x) (AE x)) (pQ 0 x<uD x) (I6 (J4 x)) (I6 (jv 1 x)) (Ix (jv 1 x) (AE x)) (pQ 1 x<uD x) (I6 (J4 x)) (bl (I6 (jv 2 x)) (Ix (jv 2 x) (AE x)) (pQ 2 x<uD x) (I6 (J4 x)) (I6 (jv 3 x)) (Ix (jv 3 x) (AE x)) (pQ 3 x<uD x) (I6 (J4 x)) (bl (I6 (jv 4 x)) (Ix (jv 4 x) (AE x)) (pQ 4 x<uD x) (I6 (J4 x)) (I6 (jv 5 x)) (Ix (jv 5 x) (AE x)) (pQ 5 x<uD x) (I6 (J4 x)) (bl (I6 (jv 6 x)) (Ix (jv 6 x) (AE x)) (pQ 6 x<uD x) (I6 (J4 x)) (I6 (jv 7 x)) (Ix (jv 7 x) (AE x)) (pQ 7 x<uD x) (cI (uD x) (uD x)) (∃(e:Sh×List UInt8),ak (af (ahe x a b) (ag0 c d e)) (Rn e.1 e.2/\ij (ag6 x)) (∀(a:Sh),Rn a (e.2++ag6 x)->(∃(_:Unit),ak True (Sr (G9 (x,T))) (ah (SV.str (jV (Df (uO (uO (uO (uO (uO (uO (uO fI))))))))) (mV (mV (mV (mV (mV (mV (mV (mV List.nil (eS (AH (a.W 7))) (eS (AM (a.W 7))) (nK (a.W 7)) (eS (a.W 7))) (eS (AH (a.W 6))) (eS (AM (a.W 6))) (nK (a.W 6)) (eS (a.W 6))) (eS (AH (a.W 5))) (eS (AM (a.W 5))) (nK (a.W 5)) (eS (a.W 5))) (eS (AH (a.W 4))) (eS (AM (a.W 4))) (nK (a.W 4)) (eS (a.W 4))) (eS (AH (a.W 3))) (eS (AM (a.W 3))) (nK (a.W 3)) (eS (a.W 3))) (eS (AH (a.W 2))) (eS (AM (a.W 2))) (nK (a.W 2)) (eS (a.W 2))) (eS (AH (a.W 1))) (eS (AM (a.W 1))) (nK (a.W 1)) (eS (a.W 1))) (eS (AH (a.W 0))) (eS (AM (a.W 0))) (nK (a.W 0)) (eS (a.W 0)))) (ax (cT T))))))))))) agL) agM) (fun a=>wU (x.B a))) (fun a=>fL (x.W a))):=by kernel_rfl
theorem ard (n:Nat)(f:Nat->List UInt8)(z:Bool)(o c:Nat)(key:Option Nat):VC.holds (i7 (aea n f) 21 Tryz.f21 [.cC 0 1 z o 0 n c] [⟨key,z,o,n,c,[.str f]⟩] (.ret (.str false (cT (flat (j6 f 0 n))))))=((fun(a:Nat->SV)=>(fun(b:Nat->Nat×Sh->SV)=>(fun(d:Nat->Nat×Sh->SV)=>(fun(e:Nat->Nat×Sh->SV)=>(fun(g:Nat->Nat×Sh->SV)=>(fun(h:Nat->Sh×List UInt8->SV)=>(fun(i:Nat->Sh×List UInt8->SV)=>(fun(j:Nat->Sh->SV)=>(fun(k:Nat->Sh->SV)=>(fun(l:Nat->Nat×Sh->SV)=>(fun(m:Nat->Nat×Sh->SV)=>(fun(p:Nat->Sh×List UInt8->SV)=>(fun(q:Nat->Sh×List UInt8->SV)=>(fun(e:Nat×Sh->SB)=>(∃(e:Nat×Sh),aI (ZL n f e) (0=Ay e) (bH 74 (LL e b d) (aF (a 1779033703) (a 3144134277) (aD (a 1013904242) (a 2773480762) (a 1359893119) (a 2600822924) (a 528734635) (a 1541459225) dz dz (aD dz dz dz dz dz dz dz dz (aD dz dz dz dz dz dz dz dz (aD dz dz dz dz dz dz dz dz (aD dz dz dz dz dz dz dz dz (aD dz dz dz dz dz dz dz dz (aD dz dz dz dz dz dz dz dz (aD dz dz dz dz dz dz dz dz (aD dz dz dz dz dz dz (bx 0) (SV.int IntKind.u64 true 0) List.nil)))))))))) 259) (Sr (Seen.B (Seen.mk key z o n c (bD f)))) True)/\(∀(a:Nat×Sh),ZL n f a->fA n (ak (fo n (Ay a)) (eJ o (fM (Ay a)) n) (∃(b:Sh×List UInt8),ak (af (e a) (ag0 h i b)) (Rn b.1 b.2/\ij (f (fM (Ay a)))) (∀(d:Sh),Rn d (b.2++f (fM (Ay a)))->dG (∃(b:Nat×Sh),aI (cg n b.1 n a.1 (ZL n f b)) (Ay a+1=Ay b) (af (Ge d j k) (LL b l m)) (Sr (Seen.B (Seen.mk key z o n c (bD f)))) True) (Ay a+1)))) (∃(b:Sh×List UInt8),ak (af (e a) (ag0 p q b)) (Rn b.1 b.2/\ij b.2) (∀(_:Unit),True->ah (Vj 1 (ax (cT b.2))) (ax (cT (flat (j6 f 0 n)))))) (Ay a))) (fun a=>LL a e g)) agL) agM) qz3) qz4) qz5) qz6) agL) agM) qz3) qz4) qz3) qz4) (fun a=>SV.int IntKind.u32 true (NI a))):=by kernel_rfl
def adu (k:Int)(A B C D E:Prop):Prop:=(decide (k=0)=true->A)/\(decide (k=0)=false->(decide (k=1)=true->B)/\(decide (k=1)=false->(decide (k=2)=true->C)/\(decide (k=2)=false->(decide (k=3)=true->D)/\(decide (k=3)=false->E))))
theorem aqZ {k:Int}{A B C D E:Prop}(h:k=0)(a:A):adu k A B C D E:=by subst h;exact⟨fun _=>a,fun h=>absurd h (by decide)⟩
theorem aq0 {k:Int}{A B C D E:Prop}(h:k=1)(a:B):adu k A B C D E:=by subst h;exact⟨fun h=>absurd h (by decide),fun _=>⟨fun _=>a,fun h=>absurd h (by decide)⟩⟩
theorem aq1 {k:Int}{A B C D E:Prop}(h:k=2)(a:C):adu k A B C D E:=by subst h;exact⟨fun h=>absurd h (by decide),fun _=>⟨fun h=>absurd h (by decide),fun _=>⟨fun _=>a,fun h=>absurd h (by decide)⟩⟩⟩
theorem aq2 {k:Int}{A B C D E:Prop}(h:k=3)(a:D):adu k A B C D E:=by subst h;exact⟨fun h=>absurd h (by decide),fun _=>⟨fun h=>absurd h (by decide),fun _=>⟨fun h=>absurd h (by decide),fun _=>⟨fun _=>a,fun h=>absurd h (by decide)⟩⟩⟩⟩
theorem PA {k:Int}{A B C D E:Prop}(h:k= -1)(a:E):adu k A B C D E:=by subst h;exact⟨fun h=>absurd h (by decide),fun _=>⟨fun h=>absurd h (by decide),fun _=>⟨fun h=>absurd h (by decide),fun _=>⟨fun h=>absurd h (by decide),fun _=>a⟩⟩⟩⟩
theorem ah1 {f g:Nat->List UInt8}{tot:Nat}{ty:TypeId}(h: ∀ j,j<16->f j=g j):af (.cells [.int .i64 false 3,.str false [],.str false [],.str false (f 0),.str false (f 1),.str false (f 2),.str false (f 3),.str false (f 4),.str false (f 5),.str false (f 6),.str false (f 7),.str false (f 8),.str false (f 9),.str false (f 10),.str false (f 11),.str false (f 12),.str false (f 13),.str false (f 14),.str false (f 15)] tot ty) (.cells [.int .i64 false 3,.str false [],.str false [],.str false (g 0),.str false (g 1),.str false (g 2),.str false (g 3),.str false (g 4),.str false (g 5),.str false (g 6),.str false (g 7),.str false (g 8),.str false (g 9),.str false (g 10),.str false (g 11),.str false (g 12),.str false (g 13),.str false (g 14),.str false (g 15)] tot ty):=by rw[h 0 (by decide),h 1 (by decide),h 2 (by decide),h 3 (by decide),h 4 (by decide),h 5 (by decide),h 6 (by decide),h 7 (by decide),h 8 (by decide),h 9 (by decide),h 10 (by decide),h 11 (by decide),h 12 (by decide),h 13 (by decide),h 14 (by decide),h 15 (by decide)];exact af.refl _
theorem ah3 {t:List UInt8}{i:Nat}(h:aj t i≠[128])(j:Nat):(if i=j then aj t i else G8 t i j)=G8 t (i+1) j:=by
 unfold G8;by_cases e:i=j
 ·subst e;rw[if_pos rfl,if_pos (show i<i+1 by omega),dB,if_neg h]
 ·rw[if_neg e];by_cases e1:j<i
  ·rw[if_pos e1,if_pos (show j<i+1 by omega)]
  ·rw[if_neg e1,if_neg (show ¬ j<i+1 by omega)]
theorem ah2 {t:List UInt8}{i:Nat}(h:aj t i=[128])(j:Nat):G8 t i j=G8 t (i+1) j:=by
 unfold G8;by_cases e:i=j
 ·subst e;rw[if_neg (show ¬ i<i by omega),if_pos (show i<i+1 by omega),dB,if_pos h]
 ·by_cases e1:j<i
  ·rw[if_pos e1,if_pos (show j<i+1 by omega)]
  ·rw[if_neg e1,if_neg (show ¬ j<i+1 by omega)]
attribute [local irreducible] aj aH dU aa cA aC dD fy nu fH gP
theorem Xv {s:List UInt8}(hs:s.length<1099511627776):aq (jy (aee s) 203 Tryz.f203 [.str false s] (ah4 s)):=by
 refine aq.j7 (apg s) (by delta Fk Bk I6 Ix Sr Er NI cn aX aF bC bx ak cR cY aI aL bH cS fK ax vT cr aS dj yq bn cQ dX k8 c8 eC cU bD bT gp mz gU fh jb qq fN i9 pL dS gA lu lF aD sS wP gj iP dW ja zY G6 ak8 dV uz lN c6 wH dA uA TS Gb bS lQ NV rQ Kj ahK eV uJ iY;exact rfl) ?_
 try dsimp only
 have hin:=tR s;have hit:=zg (aa s);have hin2:=fun k=>tR (aj (aa s) k);refine⟨by omega,fun a=>aqZ ?_ (fun _=>rfl),fun a=>⟨by omega,fun b=>⟨fun c=>PA ?_ ⟨gV,fun _=>rfl⟩,fun c=>⟨fun d=>PA ?_ ⟨gV,fun _=>rfl⟩,fun d=>⟨by omega,fun e=>fun cap hcap=>⟨fun f=> ?_,fun f=>⟨fun g=> ?_,fun g=>PA ?_ ⟨gV,fun _=>rfl⟩⟩⟩,fun e=>PA ?_ ⟨gV,fun _=>rfl⟩⟩⟩⟩,fun b=>PA ?_ ⟨gV,fun _=>rfl⟩⟩⟩
 ·have a:s=[128]:=of_decide_eq_true a;rw[aY,if_pos a]
 ·have a: ¬ s=[128]:=of_decide_eq_false a;have c:dD s=false:=by simpa using c
  rw[aY,if_neg a,b,c];rfl
 ·have a: ¬ s=[128]:=of_decide_eq_false a;have c:dD s=true:=by simpa using c
  have d:decide (aC s=[])=false:=by simpa using d
  rw[aY,if_neg a,b,c,d];rfl
 ·have a: ¬ s=[128]:=of_decide_eq_false a;have c:dD s=true:=by simpa using c
  have d:decide (aC s=[])=true:=by simpa using d
  have f:=of_decide_eq_true f;have f:aH (aa s)=2:=by omega
  have hk:aY s=uu (aa s):=by rw[aY,if_neg a,b,c,d,wz,e,if_pos f];rfl
  have i0:=hit 0;have i1:=hit 1;have i2:=hin2 0;refine⟨by omega,by omega,by omega,by omega,by omega,fun g=>⟨by omega,fun h=>⟨fun k=>aq1 ?_ (fun _=>rfl),fun k=>⟨by omega,fun l=>aq0 ?_ (fun _=>rfl),fun l=>PA ?_ ⟨⟨1,gP (aa (aj (aa s) 0)),[],bg⟩,fun _=>rfl⟩⟩⟩,fun h=>PA ?_ ⟨gV,fun _=>rfl⟩⟩,fun g=>PA ?_ ⟨gV,fun _=>rfl⟩⟩
  ·have k:fH (aa (aj (aa s) 0))=false:=by simpa using k
   rw[hk,uu,g,h,k];rfl
  ·have k:fH (aa (aj (aa s) 0))=true:=by simpa using k
   rw[hk,uu,g,h,k,l];rfl
  ·have k:fH (aa (aj (aa s) 0))=true:=by simpa using k
   rw[hk,uu,g,h,k,l];rfl
  ·rw[hk,uu,g,h];rfl
  ·rw[hk,uu,g];rfl
 ·have a: ¬ s=[128]:=of_decide_eq_false a;have c:dD s=true:=by simpa using c
  have d:decide (aC s=[])=true:=by simpa using d
  have f:=of_decide_eq_false f;have f: ¬ aH (aa s)=2:=by omega
  have g:=of_decide_eq_true g;have g:aH (aa s)=17:=by omega
  have hk:aY s=bif fy (aj (aa s) 16)then 3 else -1:=by rw[aY,if_neg a,b,c,d,wz,e,if_neg f,if_pos g];rfl
  have i16:=hit 16;refine⟨⟨0,by omega,rfl,Sx.af.cells (fun E=>rfl) rfl,af.refl _,af.refl _,af.refl _,trivial⟩,fun i hi=>⟨fun h=> ?_,fun h=> ?_⟩⟩
  ·have h:=of_decide_eq_true h;rw[Int.toNat_natCast,Nat.zero_add];refine⟨by omega,by omega,by omega,rfl,fun k=>⟨by omega,by omega,by omega,by omega,by omega,i+1,by omega,by omega,?_,af.refl _,af.refl _,af.refl _,trivial⟩,fun k=>⟨by omega,i+1,by omega,by omega,?_,af.refl _,af.refl _,af.refl _,trivial⟩⟩
   ·have k: ¬ aj (aa s) i=[128]:=by
     have:decide (aj (aa s) i=aB [])=false:=by simpa using k
     exact of_decide_eq_false this
    exact ah1 (f:=fun j=>if i=j then aj (aa s) i else G8 (aa s) i j) fun j _=>ah3 k j
   ·have k:aj (aa s) i=[128]:=by
     have:decide (aj (aa s) i=aB [])=true:=by simpa using k
     exact of_decide_eq_true this
    exact ah1 fun j _=>ah2 k j
  ·have h:=of_decide_eq_false h;have ei:i=16:=by omega
   subst ei;refine⟨by omega,by omega,by omega,fun k=>aq2 ?_ (fun _=>rfl),fun k=>PA ?_ ⟨⟨3,[],[],fu (dB (aa s))⟩,fun _=>rfl⟩⟩
   ·rw[hk,k];rfl
   ·rw[hk,k];rfl
 ·have a: ¬ s=[128]:=of_decide_eq_false a;have c:dD s=true:=by simpa using c
  have d:decide (aC s=[])=true:=by simpa using d
  have f:=of_decide_eq_false f;have f: ¬ aH (aa s)=2:=by omega
  have g:=of_decide_eq_false g;have g: ¬ aH (aa s)=17:=by omega
  rw[aY,if_neg a,b,c,d,wz,e,if_neg f,if_neg g];rfl
 ·have a: ¬ s=[128]:=of_decide_eq_false a;have c:dD s=true:=by simpa using c
  have d:decide (aC s=[])=true:=by simpa using d
  rw[aY,if_neg a,b,c,d,wz,e];rfl
 ·have a: ¬ s=[128]:=of_decide_eq_false a;rw[aY,if_neg a,b];rfl
def KB:List SV->Option (Prop×b7)
 | [.str false s]=>some (s.length<1099511627776,ah4 s)
 | _=>none
theorem alf:au Tryz.prog 203 (bW KB):=by
 refine fE (n:=20) (fn:=Tryz.f203) Tryz.func203 (by kernel_rfl) (by kernel_rfl) ?_;intro args p a h hp;unfold KB at h;split at h
 ·rename_i s;injection h with h;injection h with h1 h2;subst h1;subst h2;refine⟨_,anW s,rfl,fun b=> ?_,Xv hp⟩;cases b with
  | true=>exact rfl
  | false =>
    intro b;cases b with
    | true=>exact rfl
    | false =>
      intro b;cases b with
      | true=>exact rfl
      | false =>
        intro b;cases b with
        | true=>exact rfl
        | false=>exact fun x=>rfl
 ·cases h
end Go.Proofs.YtpaaiebohjjieaaGreatDoor
namespace Go.Proofs.YtpaaiebohjjieaaGreatDoor
open Go Sx
set_option maxRecDepth 20000
noncomputable def Bp:List (FuncId×PT):=(203,bW KB)::Qe
theorem qV:aU Tryz.prog (fun f=>aA f Bp):=.cons alf (bX _) Ez
def Rel (L:Nat)(t:List UInt8):Prop:=(t.length<L∨32<=t.length)/\t.length<9223372036854775808
def an9 (t:List UInt8):b7:=.fork (cG t) fun b=>match b with
 | true=>.ret (.bL [(getD t).sv,.bool true true])
 | false=>.ret (.bL [jB,.bool true false])
def mb (L:Nat):List SV->Option (Prop×b7)
 | [.str false t]=>some (Rel L t,an9 t)
 | _=>none
noncomputable def WE (L:Nat):List (FuncId×PT):=(205,bW (mb L))::Bp
noncomputable def ad3 (L:Nat):gF:={cF with cM:=fun f=>aA f (WE L)}
noncomputable def apB (x:Nd):bp :=
 {α:=Nat,pre:=fun _ i=>i<=16/\qJ cG x.r i=true,sM:=fun _ i=>16 - i,fresh:=0,slots:=fun _ i=>[(7,.int .i64 false i)],
  mem:=fun _ i=>[(2,.cells [.int .i64 false (min (x.v.length:Int) 1+gy x.r i)] 1 3)]}
noncomputable def adV (L:Nat)(x:Nd):gF:={cF with cM:=fun f=>aA f (WE L),aR:=fun f=>if f=259 then [(1,always (apB x))] else []}
def wW (L:Nat)(r:Nat->List UInt8):Prop:=∀ j,j<16->Rel L (r j)
noncomputable def afK (L:Nat):List (FuncId×PT):=(242,aT (gI fun x=>some (Rel L (x.r 0),.bool false (tj cG x))))::(243,aT (gI fun x=>some (wW L x.r,.bool false (fe cG x))))::Bp
noncomputable def xm (L:Nat):gF:={cF with cM:=fun f=>aA f (afK L)}
noncomputable def WG (L:Nat):List (FuncId×PT):=(189,aT (gI fun x=>some (wW L x.r,.bool false (bB x))))::(190,aT (gI fun x=>some ((0<=x.k/\x.k<=3)/\x.th,.str false (dQ x))))::Bp
noncomputable def ad4 (L:Nat):gF:={cF with cM:=fun f=>aA f (WG L)}
def amn (s:List UInt8):b7:=.fork (ey s) fun b=>match b with
 | true=>.ret (.bL [(getD s).sv,.int .i64 true 0])
 | false=>.ret (.bL [jB,.int .i64 true 2])
def rz (L:Nat):List SV->Option (Prop×b7)
 | [.str false s]=>some (s.length<=L/\s.length<1099511627776,amn s)
 | _=>none
noncomputable def amk (L:Nat):gF:={cF with cM:=fun f=>aA f ((146,bW (rz L))::Bp)}
noncomputable def ad9:gF:={cF with cM:=fun f=>aA f ((146,fun _ _ _ _=>.fail "not to be called")::Bp)}
theorem anQ:Sx.Good Tryz.prog ad9:=.of bO (aU.cons (fun _ _ _ _ h=>h.elim) (fun _ _ _ _ _ _ h=>h) qV) bt
section
variable (n : Nat) (s : List UInt8) (v w f : SV) (B D : SB) (x : Nd) (y : Loop) (z : Nat -> SV)
abbrev ahs:=gj (bC (getD s).k) (aF (ax (getD s).p) (ax (getD s).v) (EX z))
abbrev N5:=dY (ah v (lu (Nd.sv (getD s)))) v (cY jB pL) (cG s)
abbrev NH:List (List UInt8):=List.nil::List.nil::List.nil::List.nil::List.nil::List.nil::List.nil::fU List.nil List.nil List.nil List.nil List.nil List.nil List.nil List.nil List.nil
abbrev qz0:Nat->List UInt8:=fun a=>c9 a (List.nil::NH)
abbrev qz2:Nat->List UInt8:=fun a=>c9 a (fU (bg 0) (bg 1) (bg 2) (bg 3) (bg 4) (bg 5) (bg 6) (bg 7) (fU (bg 8) (bg 9) (bg 10) (bg 11) (bg 12) (bg 13) (bg 14) (bg 15) List.nil))
abbrev pP:=bM (dA 1 s) n
abbrev ahx:Nat->List UInt8:=fun a=>c9 a (fU (pP 0 s) (pP 1 s) (pP 2 s) (pP 3 s) (pP 4 s) (pP 5 s) (pP 6 s) (pP 7 s) (fU (pP 8 s) (pP 9 s) (pP 10 s) (pP 11 s) (pP 12 s) (pP 13 s) (pP 14 s) (pP 15 s) List.nil))
abbrev og:=fu (dB (aa s)) n
abbrev ahz:Nat->List UInt8:=fun a=>c9 a (fU (og 0 s) (og 1 s) (og 2 s) (og 3 s) (og 4 s) (og 5 s) (og 6 s) (og 7 s) (fU (og 8 s) (og 9 s) (og 10 s) (og 11 s) (og 12 s) (og 13 s) (og 14 s) (og 15 s) List.nil))
abbrev wK:=Nd.mk 0 List.nil List.nil qz0
abbrev yp:=jx (ah v f) v w (ey s)
abbrev F1:=min (bh x.v) (1:Int)+gy x.r n
abbrev TP:=bT n 16 (dZ (qJ cG x.r n))
abbrev ahh:=ak (I6 (F1 n x+1)) (I6 (NI n+1)) (∃(a:Nat),aL (cg 16 a 16 n (TP a x)) (gU n a) (bH 1 (cR 1 (bC (F1 a x)) List.nil 3) [bC (F1 n x+1)] 3) (Gv B D x y))
end
theorem alY (x:Nd)(R:SV->Prop):VC.holds (fS Cb 190 Tryz.f190 [x.Fh true 0] R)=(True/\R (ax [128])):=by kernel_rfl
theorem alZ (x:Nd)(R:SV->Prop):VC.holds (fS Cb 190 Tryz.f190 [x.Fh true 1] R)=(Nd.th (pT x.v 1 x (oa x))/\R (ax (n8 (pT x.v 1 x (oa x))))):=by kernel_rfl
theorem al0 (x:Nd)(R:SV->Prop):VC.holds (fS Cb 190 Tryz.f190 [x.Fh true 2] R)=(Nd.th (pT x.v 2 x (oa x))/\R (ax (wX (pT x.v 2 x (oa x))))):=by kernel_rfl
theorem al5 (x:Nd)(R:SV->Prop):VC.holds (fS Cb 190 Tryz.f190 [x.Fh true 3] R)=(Nd.th (pT x.v 3 x (oa x))/\R (ax (iI (pT x.v 3 x (oa x))))):=by kernel_rfl
theorem aqt (L:Nat)(x:Nd)(R:SV->Prop):VC.holds (fS (ad3 L) 242 Tryz.f242 [x.sv] R)=(cH True (R fK) (Bk (not (dX x.v)) (R fK) (cH True (R fK) (aS (dj (sR x)) (R mz) (aS (Rel L (sR x)) (R (SV.bool fI (eX (getD (sR x)).k 3))) (R fK) (cG (sR x))) (eA (sR x))) (eX (dg (oa x) 16) 1))) (lJ (uG x) 1)):=by kernel_rfl
theorem aiR (L:Nat)(x:Nd)(R:SV->Prop):VC.holds (fS (adV L x) 243 Tryz.f243 [x.sv] R)=((fun(a:Nat->SV)=>(fun(a:SB)=>(fun(b:SB)=>bn (R fK) (fA (Ar x) (R fK) (∀(c:Loop),(∃(d:Nat),aL (TP d x) (fh d) (bH 1 (cR 1 (bC (F1 d x)) List.nil 3) [SV.int IntKind.i64 fI (min (NI (Ar x)) (1:Int))] 3) (Gv a b x c))/\(∀(d:Nat),TP d x->Fk (wP d) (cH (F5 d) (ak (Er c) (dj (lO d x)) (iH (lO d x) (ahh d a b x c) (aS (Rel L (lO d x)) (ahh d a b x c) (R fK) (cG (lO d x))))) (fN d (fun e=>cZ (cg 16 e 16 d (TP e x)) (gU d e) (Gv a b x c) (cR 1 (bC (F1 d x)) List.nil 3) (cR 1 (bC (F1 e x)) List.nil 3))) (dX (lO d x))) (R (SV.bool fI (decide (2<=F1 d x)))))) 80) (dX x.p)) (c8 1 fK 4)) (NS x a)) (fun a=>je a x)):=by kernel_rfl
theorem ajc (L:Nat)(x:Nd)(R:SV->Prop):VC.holds (fS (xm L) 189 Tryz.f189 [x.Fh true 0] R)=(True/\R (SV.bool false (wA (Nd.mk 0 x.p x.v (fun a=>List.getD [x.r 0,x.r 1,x.r 2,x.r 3,x.r 4,x.r 5,x.r 6,x.r 7,x.r 8,x.r 9,x.r 10,x.r 11,x.r 12,x.r 13,x.r 14,x.r 15] a List.nil))))):=by kernel_rfl
theorem ajd (L:Nat)(x:Nd)(R:SV->Prop):VC.holds (fS (xm L) 189 Tryz.f189 [x.Fh true 1] R)=(True/\R (SV.bool false (pn (Nd.mk 1 x.p x.v (fun a=>List.getD [x.r 0,x.r 1,x.r 2,x.r 3,x.r 4,x.r 5,x.r 6,x.r 7,x.r 8,x.r 9,x.r 10,x.r 11,x.r 12,x.r 13,x.r 14,x.r 15] a List.nil))))):=by kernel_rfl
theorem aje (L:Nat)(x:Nd)(R:SV->Prop):VC.holds (fS (xm L) 189 Tryz.f189 [x.Fh true 2] R)=(Rel L (List.getD [x.r 0,x.r 1,x.r 2,x.r 3,x.r 4,x.r 5,x.r 6,x.r 7,x.r 8,x.r 9,x.r 10,x.r 11,x.r 12,x.r 13,x.r 14,x.r 15] 0 List.nil)/\R (SV.bool false (tj cG (Nd.mk 2 x.p x.v (fun a=>List.getD [x.r 0,x.r 1,x.r 2,x.r 3,x.r 4,x.r 5,x.r 6,x.r 7,x.r 8,x.r 9,x.r 10,x.r 11,x.r 12,x.r 13,x.r 14,x.r 15] a List.nil))))):=by kernel_rfl
theorem ajf (L:Nat)(x:Nd)(R:SV->Prop):VC.holds (fS (xm L) 189 Tryz.f189 [x.Fh true 3] R)=(wW L (fun a=>List.getD [x.r 0,x.r 1,x.r 2,x.r 3,x.r 4,x.r 5,x.r 6,x.r 7,x.r 8,x.r 9,x.r 10,x.r 11,x.r 12,x.r 13,x.r 14,x.r 15] a List.nil)/\R (SV.bool false (fe cG (Nd.mk 3 x.p x.v (fun a=>List.getD [x.r 0,x.r 1,x.r 2,x.r 3,x.r 4,x.r 5,x.r 6,x.r 7,x.r 8,x.r 9,x.r 10,x.r 11,x.r 12,x.r 13,x.r 14,x.r 15] a List.nil))))):=by kernel_rfl
theorem ajg (L:Nat)(x:Nd)(R:SV->Prop):VC.holds (fS (xm L) 189 Tryz.f189 [x.sv] R)=(bf (R fK) (bf (R fK) (Ix x.k 4/\False) 3 x.k) x.k 0):=by kernel_rfl
theorem ac6 (L:Nat)(s:List UInt8):VC.holds (jy (ad4 L) 146 Tryz.f146 [.str false s] (amn s))=((fun(a:Nat->SV)=>(fun(b:Nat->SV)=>(fun(c:Nat->SV)=>(fun(d:SV)=>(fun(e:SV)=>(fun(f:SV)=>(fun(g:SV)=>(fun(h:List UInt8)=>dS s/\gA (cH (wW L qz0) (yp s d e f) (cH (gk ((0:Int)<=3) 0/\Nd.th wK) (yp s d e f) (yp s g e f) (eV (dQ wK) s)) (bB wK)) (cH (wW L qz2) (yp s d e f) (cH (gk ((1:Int)<=3) 1/\Nd.th (Nd.mk 1 (gP h) (aa (dA 1 s)) qz2)) (yp s d e f) (dY (ah (fV (gj (bx 1) (aF (ax (gP h)) (ax (aa (dA 1 s))) (EX a)))) e) (fV (gj (bx 1) (aF (ax (gP h)) (ax (aa (dA 1 s))) (EX a)))) f (ey s)) (eV (dQ (Nd.mk 1 (gP h) (aa (dA 1 s)) qz2)) s)) (bB (Nd.mk 1 (gP h) (aa (dA 1 s)) qz2))) (gA (cH (wW L (ahx s)) (yp s d e f) (cH (gk ((2:Int)<=3) 2/\Nd.th (Nd.mk 2 (gP h) List.nil (ahx s))) (yp s d e f) (Bk (ey s) (jg (gj vT (aF (ax (gP h)) uz (EX b))) e) (jg (gj vT (aF (ax (gP h)) uz (EX b))) f)) (eV (dQ (Nd.mk 2 (gP h) List.nil (ahx s))) s)) (bB (Nd.mk 2 (gP h) List.nil (ahx s)))) (cH (wW L (ahz s)) (yp s d e f) (cH (gk ((3:Int)<=3) 3/\Nd.th (Nd.mk 3 List.nil (Gb s) (ahz s))) (yp s d e f) (Bk (ey s) (jg (gj (bx 3) (aF uz (ax (Gb s)) (EX c))) e) (jg (gj (bx 3) (aF uz (ax (Gb s)) (EX c))) f)) (eV (dQ (Nd.mk 3 List.nil (Gb s) (ahz s))) s)) (bB (Nd.mk 3 List.nil (Gb s) (ahz s)))) (∀(_:Nd),yp s d e f) (aY s) 2 (aY s) 3) (aY s) 0 (aY s) 1) (uA s)) (fV lQ)) (cQ jB vT List.nil)) (fV (Nd.sv (getD s)))) (cQ lQ vT List.nil)) (fun a=>ax (og a s))) (fun a=>ax (bM (dA 1 s) a))) (fun a=>ax (bg a))):=by kernel_rfl
theorem aiW (L:Nat)(t:List UInt8):VC.holds (jy (amk L) 205 Tryz.f205 [.str false t] (an9 t))=((fun(a:Nat->SV)=>(fun(b:SV)=>Fk (32<=bP t) (N5 t b) (aS (List.length t<=L/\dS t) (cS (N5 t b) (Bk (cG t) (gi (ahs t a) (lu (Nd.sv (getD t))) i9) (gi (ahs t a) (cY jB pL) i9)) (getD t).k 0) (N5 t b) (ey t))) (cY lQ pL)) (fun a=>je a (getD t))):=by kernel_rfl
theorem ac5 (t:List UInt8):VC.holds (jy ad9 205 Tryz.f205 [.str false t] (an9 t))=((fun(a:SV)=>Fk (32<=bP t) (N5 t a) False) (cY lQ pL)):=by kernel_rfl
theorem IJ (b:Int)(n:Nat):1<=(cP b n).length:=by unfold cP;split<;>simp
theorem akB {s:List UInt8}(h:cA s=true)(hl:dD s=true):(aa s).length<s.length:=by have:=congrArg List.length (RI h);rw[hl] at this;unfold sy at this;have hp:=IJ 192 (aa s).length;simp only[cond_true,List.length_append] at this;omega
theorem xD {t:List UInt8}(h:eA t=true):t.length=33:=by
 obtain⟨⟨h1,h2,h3⟩,h4⟩:=xC.1 h;have:=congrArg List.length (RI h1);rw[h2,h3] at this;unfold sy aB cP at this;simp only[cond_false,List.append_nil,h4] at this;simp only[show ¬ ((32:Nat)=1/\ai (aa t) 0<128)from by omega,if_false,List.length_append,h4] at this
 simpa using this.symm
theorem afh {n:Nat}{t:List UInt8}(h:IM n t=true):t.length<32:=by
 cases n with
 | zero=>simp[IM] at h
 | succ n =>simp only[IM,Bool.and_eq_true,decide_eq_true_eq] at h;exact h.1
theorem vz {t:List UInt8}(h:cG t=true):t.length<32:=afh h
theorem m8 {r:Nat->List UInt8}: ∀ {n j:Nat},dg r n<=(j:Int)->j<n->r j=[]
 | 0,_,_,h=>absurd h (Nat.not_lt_zero _)
 | n+1,j,h,hj=>by
   unfold dg at h;by_cases e:r n=[]
   ·rw[if_pos e] at h;by_cases ej:j=n
    ·subst ej;exact e
    ·exact m8 h (by omega)
   ·rw[if_neg e] at h;omega
theorem xP {inl:List UInt8->Bool}{r:Nat->List UInt8}: ∀ {n j:Nat},qJ inl r n=true->j<n->r j=[]∨mu inl (r j)=true
 | 0,_,_,h=>absurd h (Nat.not_lt_zero _)
 | n+1,j,h,hj=>by
   simp only[qJ,Bool.and_eq_true,Bool.or_eq_true,decide_eq_true_eq] at h;by_cases ej:j=n
   ·subst ej;exact h.2
   ·exact xP h.1 (by omega)
theorem S1 {inl:List UInt8->Bool}{r:Nat->List UInt8}: ∀ {n j:Nat},j<n->r j≠[]->mu inl (r j)=false->qJ inl r n=false
 | 0,_,h,_,_=>absurd h (Nat.not_lt_zero _)
 | n+1,j,hj,h0,h1=>by
   simp only[qJ];by_cases ej:j=n
   ·subst ej;rw[h1,show decide (r j=[])=false from decide_eq_false h0];simp
   ·rw[S1 (n:=n) (by omega) h0 h1];rfl
theorem zw {t:List UInt8}(h:mu cG t=true):t.length<=33:=by
 simp only[mu,Bool.or_eq_true] at h;rcases h with h | h
 ·have:=xD h;omega
 ·have:=vz h;omega
theorem Tw {x:Nd}{l:Int}(h:lJ x l=true):x.p.length<=12:=by simp only[lJ,Bool.and_eq_true,decide_eq_true_eq] at h;omega
theorem Bn {x:Nd}(h:pn x=true):x.p.length<=12/\x.v≠[]/\x.v.length<=80/\∀ j,j<16->x.r j=[]:=by simp only[pn,Bool.and_eq_true,Bool.not_eq_true',decide_eq_true_eq,decide_eq_false_iff_not] at h;obtain⟨h1,h2,h3,h4⟩:=h;exact⟨Tw h1,h2,by omega,fun j hj=>m8 (n:=16) (by omega) hj⟩
theorem Eb {x:Nd}{inl:List UInt8->Bool}(h:tj inl x=true):x.p.length<=12/\x.v=[]/\(∀ j,1<=j->j<16->x.r j=[])/\dg x.r 16=1/\(eA (x.r 0)=true∨(inl (x.r 0)=true/\(getD (x.r 0)).k=3)):=by simp only[tj,Bool.and_eq_true,Bool.or_eq_true,decide_eq_true_eq] at h;obtain⟨h1,h2,h3,h4⟩:=h;exact⟨Tw h1,h2,fun j h1 hj=>m8 (n:=16) (by omega) hj,h3,h4⟩
theorem vi {x:Nd}{inl:List UInt8->Bool}(h:fe inl x=true):x.p=[]/\x.v.length<=80/\qJ inl x.r 16=true/\2<=min (x.v.length:Int) 1+gy x.r 16:=by simp only[fe,Bool.and_eq_true,decide_eq_true_eq] at h;obtain⟨h1,h2,h3,h4⟩:=h;exact⟨h1,by omega,h3,h4⟩
theorem Jx {x:Nd}(h:wA x=true):x.k=0/\x.p=[]/\x.v=[]/\∀ j,j<16->x.r j=[]:=by simp only[wA,Bool.and_eq_true,decide_eq_true_eq,List.all_eq_true] at h;exact⟨h.1,h.2.1,h.2.2.1,fun j hj=>h.2.2.2 j (List.mem_range.2 hj)⟩
theorem tc {x:Nd}{inl:List UInt8->Bool}(h:mB inl x=true):(x.k=0/\wA x=true)∨(x.k=1/\pn x=true)∨(x.k=2/\tj inl x=true)∨(x.k=3/\fe inl x=true):=by
 unfold mB at h;split at h
 ·exact .inl ⟨by assumption,h⟩
 ·split at h
  ·exact .inr (.inl ⟨by assumption,h⟩)
  ·split at h
   ·exact .inr (.inr (.inl ⟨by assumption,h⟩))
   ·split at h
    ·exact .inr (.inr (.inr ⟨by assumption,h⟩))
    ·cases h
structure Nd.z8 (x:Nd):Prop where
 k:0<=x.k/\x.k<=3
 p:x.p.length<=12
 v:x.v.length<=80
 r: ∀ j,j<16->x.r j=[]∨mu cG (x.r j)=true
theorem p7 {x:Nd}(h:bB x=true):x.z8:=by
 rcases tc h with ⟨hk,h⟩ | ⟨hk,h⟩ | ⟨hk,h⟩ | ⟨hk,h⟩
 ·obtain⟨_,h1,h2,h3⟩:=Jx h;exact⟨by omega,by rw[h1];simp,by rw[h2];simp,fun j hj=>.inl (h3 j hj)⟩
 ·obtain⟨h1,_,h2,h3⟩:=Bn h;exact⟨by omega,h1,h2,fun j hj=>.inl (h3 j hj)⟩
 ·obtain⟨h1,h2,h3,_,h4⟩:=Eb h;refine⟨by omega,h1,by rw[h2];simp,fun j hj=> ?_⟩;by_cases e:j=0
  ·subst e;refine .inr ?_;simp only[mu,Bool.or_eq_true];exact h4.imp id fun h=>h.1
  ·exact .inl (h3 j (by omega) hj)
 ·obtain⟨h1,h2,h3,_⟩:=vi h;exact⟨by omega,by rw[h1];simp,h2,fun j hj=>xP h3 hj⟩
theorem Nd.z8.ref {x:Nd}(h:x.z8)(j:Nat)(hj:j<16):(x.r j).length<=33:=by
 rcases h.r j hj with h | h
 ·rw[h];simp
 ·exact zw h
theorem Nd.z8.few {x:Nd}(h:x.z8):x.th:=⟨by have:=h.p;omega,by have:=h.v;omega,fun j hj=>by have:=h.ref j hj;omega⟩
theorem Jk {f g:List UInt8->Bool}{r:Nat->List UInt8}: ∀ {n:Nat},(∀ j,j<n->r j≠[]->f (r j)=g (r j))->qJ f r n=qJ g r n
 | 0,_=>rfl
 | n+1,h=>by
   simp only[qJ];rw[Jk fun j hj=>h j (by omega)];by_cases e:r n=[]
   ·simp[e]
   ·simp only[mu,h n (by omega) e]
theorem Vk {f g:List UInt8->Bool}{x:Nd}(h: ∀ j,j<16->x.r j≠[]->f (x.r j)=g (x.r j)):mB f x=mB g x:=by
 have e3:fe f x=fe g x:=by simp only[fe,Jk h]
 have e2:tj f x=tj g x:=by
  by_cases e:x.r 0=[]
  ·have hb:decide (dg x.r 16=1)=false∨∃ j,1<=j/\j<16/\x.r j≠[]:=by
    by_cases hb:dg x.r 16=1
    ·exfalso;have hz: ∀ n,n<=16->(∀ j,j<n->x.r j=[])->dg x.r n=0:=by
      intro n;induction n with
      | zero=>intro _ _;rfl
      | succ n ih=>intro hn hj;rw[dg,if_pos (hj n (by omega)),ih (by omega) fun j hj'=>hj j (by omega)]
     have:=hz 16 (by omega) fun j hj=>by
      by_cases e0:j=0
      ·subst e0;exact e
      ·exact m8 (n:=16) (by omega) hj
     omega
    ·exact .inl (decide_eq_false hb)
   by_cases hb:dg x.r 16=1
   ·rcases ‹_∨_› with h1 | ⟨j,h1,h2,h3⟩
    ·exact absurd hb (of_decide_eq_false h1)
    ·exact absurd (m8 (n:=16) (by omega) h2) h3
   ·simp only[tj,hb,decide_false,Bool.false_and,Bool.and_false]
  ·simp only[tj,h 0 (by decide) e]
 simp only[mB,e2,e3]
theorem K2 {s:List UInt8}(h:1<=aY s):cA s=true/\dD s=true/\aC s=[]/\aY s=wz (aa s):=by
 unfold aY at h ⊢;split at h
 ·omega
 ·rename_i hs
  cases h1:cA s<;>cases h2:dD s<;>cases h3:decide (aC s=[])<;>simp only[h1,h2,h3,Bool.and_true,Bool.and_false,cond_false] at h<;>first
   | omega
   | exact⟨rfl,rfl,of_decide_eq_true h3,by rw[if_neg hs];rfl⟩
theorem QO {s:List UInt8}(h:0<=aY s)(j:Nat)(hj:(getD s).r j≠[]):((getD s).r j).length<s.length:=by
 by_cases h1:1<=aY s
 ·obtain⟨g1,g2,_,_⟩:=K2 h1;have hl:=akB g1 g2;have hit:=zg (aa s);have key: ∀(r:Nat->List UInt8),(∀ i,i<16->(r i).length<=(aa s).length)->(fu r j).length<=(aa s).length:=by
   intro r hr;by_cases h16:j<16
   ·have:fu r j=r j:=gT r j h16;rw[this];exact hr j h16
   ·have:fu r j=[]:=by unfold fu KF;rw[List.getD_eq_getElem?_getD,List.getElem?_eq_none (by simp;omega)];rfl
    rw[this];simp
  have e:((getD s).r j).length<=(aa s).length:=by
   unfold getD;split
   ·exact key bg fun i hi=>by rw[show bg i=(fun _=>[]) i from gT (fun _=>[]) i hi];simp
   ·split
    ·refine key (bM (aj (aa s) 1)) fun i hi=> ?_;have:bM (aj (aa s) 1) i=(fun i=>if i=0 then aj (aa s) 1 else []) i:=gT (fun i=>if i=0 then aj (aa s) 1 else []) i hi
     rw[this];show(if i=0 then aj (aa s) 1 else []).length<=_
     split
     ·exact hit 1
     ·simp
    ·split
     ·refine key (dB (aa s)) fun i _=> ?_;unfold dB;split
      ·simp
      ·exact hit i
     ·exact key bg fun i hi=>by rw[show bg i=(fun _=>[]) i from gT (fun _=>[]) i hi];simp
  omega
 ·exfalso;apply hj;have h0:aY s=0:=by omega
  unfold getD;rw[if_neg (by omega),if_neg (by omega),if_neg (by omega)];show bg j=[]
  by_cases h16:j<16
  ·exact gT (fun _=>[]) j h16
  ·unfold bg KF;rw[List.getD_eq_getElem?_getD,List.getElem?_eq_none (by simp;omega)];rfl
theorem ID {f g:List UInt8->Bool}{t:List UInt8}(h: ∀ r:List UInt8,r.length<t.length->f r=g r):Lw f t=Lw g t:=by
 unfold Lw;by_cases h0:0<=aY t
 ·rw[Vk (f:=f) (g:=g) fun j _ hr=>h _ (QO h0 j hr)]
 ·rw[decide_eq_false h0];rfl
theorem ME: ∀(n m:Nat) (t:List UInt8),t.length<n->t.length<m->IM n t=IM m t
 | 0,_,_,h,_=>absurd h (Nat.not_lt_zero _)
 | _,0,_,_,h=>absurd h (Nat.not_lt_zero _)
 | n+1,m+1,t,hn,hm=>by simp only[IM];rw[ID (t:=t) fun r hr=>ME n m r (by omega) (by omega)]
theorem Eh (t:List UInt8):cG t=(decide (t.length<32)&&(ey t&& !decide ((getD t).k=0))):=by
 by_cases h:t.length<32
 ·unfold cG ey;rw[show IM 32 t=(decide (t.length<32)&&(Lw (IM 31) t&& !decide ((getD t).k=0)))from rfl]
  rw[ID (t:=t) (f:=IM 31) (g:=cG) fun r hr=>ME 31 32 r (by omega) (by omega)]
 ·rw[decide_eq_false h,Bool.false_and];exact Bool.eq_false_iff.2 fun h'=>h (vz h')
end Go.Proofs.YtpaaiebohjjieaaGreatDoor
