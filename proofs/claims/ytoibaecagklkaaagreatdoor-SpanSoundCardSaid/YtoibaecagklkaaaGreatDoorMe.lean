/-
  The framework's eleventh part, ahead of calls: append on rows whose length is not known.
-/
import Derived.Test.YtoibaecagklkaaaGreatDoorMd
import Derived.Test.YtoibaecagklkaaaGreatDoorMa
namespace Go.Proofs.YtoibaecagklkaaaGreatDoor.Sx
open Go
noncomputable section
structure iY (E:Nat->Nat)(s:Nat)(av:List au)(n:Nat)(l:List Value):Prop where
 len:l.length=n*s
 wide:av.length=s
 get: ∀ i k col,i<n->av[k]?=some col->l[i*s+k]?=some ((col.at i).val E)
def au.flat:au->Bool
 | .raw _=>false
 | _=>true
def iC:List au->Bool
 | []=>true
 | c::r=>c.flat&&iC r
theorem p6: ∀ {l:List au},iC l=true->∀ {k:Nat} {c:au},l[k]?=some c->c.flat=true
 | [],_,k,c,h=>by simp at h
 | x::r,h,k,c,hk=>by
   simp only[iC,Bool.and_eq_true] at h
   cases k with
   | zero=>simp at hk;subst hk;exact h.1
   | succ k=>exact p6 h.2 (by simpa using hk)
theorem au.mE {c:au}(h:c.flat=true)(E:Nat->Nat)(i:Nat):((c.at i).val E).oneCell'=true:=by
 cases c<;>first | (cases h;done) | rfl
theorem au.Fg {c:au}(h:c.flat=true)(E E':Nat->Nat)(i:Nat):(c.at i).val E=(c.at i).val E':=by
 cases c<;>first | (cases h;done) | rfl
theorem iY.one {E:Nat->Nat}{s:Nat}{av:List au}{n:Nat}{l:List Value}(h:iY E s av n l)(hf:iC av=true): ∀ v∈ l,v.oneCell'=true:=by
 intro v hv
 obtain⟨q,hq⟩:=List.getElem?_of_mem hv
 have hql:=(List.getElem?_eq_some_iff.1 hq).1
 rw[h.len] at hql
 have hs:0<s:=by
  rcases Nat.eq_zero_or_pos s with e | e
  ·subst e;simp at hql
  ·exact e
 have h1:q / s<n:=(Nat.div_lt_iff_lt_mul hs).2 hql
 have h2:q% s<av.length:=by rw[h.wide];exact Nat.mod_lt _ hs
 have h3:=h.get (q / s) (q% s) av[q% s] h1 (List.getElem?_eq_getElem h2)
 rw[show q / s*s+q% s=q by rw[Nat.mul_comm];exact Nat.div_add_mod q s,hq] at h3
 injection h3 with h3
 rw[h3]
 exact au.mE (p6 hf (List.getElem?_eq_getElem h2)) E _
def au.shift (i:Nat):au->au
 | .int k f=>.int k (fun j=>f (i+j))
 | .bool f=>.bool (fun j=>f (i+j))
 | .str f=>.str (fun j=>f (i+j))
 | .raw f=>.raw (fun j=>f (i+j))
 | .ref k f=>.ref k (fun j=>f (i+j))
 | .cn k w z f n c=>.cn k w z (fun j=>f (i+j)) (fun j=>n (i+j)) (fun j=>c (i+j))
theorem au.No (i j:Nat)(c:au):(c.shift i).at j=c.at (i+j):=by cases c<;>rfl
def dF (i:Nat)(av:List au):List au:=match i with
 | 0=>av
 | i+1=>av.map (au.shift (i+1))
theorem lT {i:Nat}{av:List au}{k:Nat}{c:au}(h:(dF i av)[k]?=some c): ∃ d,av[k]?=some d/\∀ j,c.at j=d.at (i+j):=by
 cases i with
 | zero=>exact⟨c,h,fun j=>by rw[Nat.zero_add]⟩
 | succ i =>
   simp only[dF,List.getElem?_map] at h
   cases hc:av[k]? with
   | none=>rw[hc] at h;cases h
   | some d=>rw[hc] at h;injection h with h;subst h;exact⟨d,rfl,fun j=>au.No _ _ _⟩
theorem fh {i:Nat}{av:List au}:(dF i av).length=av.length:=by cases i<;>simp[dF]
theorem IF {i:Nat}{c:au}:(c.shift i).flat=c.flat:=by cases c<;>rfl
theorem iG {i:Nat}{av:List au}:iC (dF i av)=iC av:=by
 cases i with
 | zero=>rfl
 | succ i =>
   simp only[dF]
   induction av with
   | nil=>rfl
   | cons c r ih=>simp only[List.map_cons,iC,IF,ih]
def Qf (w k:Nat):Nat->List SV->Option (List SV)
 | 0,_=>some []
 | n+1,l=>match l[k]?,Qf w k n (l.drop w)with
   | some v,some r=>some (v::r)
   | _,_=>none
theorem F0 {w k:Nat}: ∀ {n:Nat} {l r:List SV},Qf w k n l=some r->r.length=n/\∀(i:Nat),i<n->∃ v,r[i]?=some v/\l[i*w+k]?=some v
 | 0,l,r,h=>by simp[Qf] at h;subst h;exact⟨rfl,fun i hi=>by omega⟩
 | n+1,l,r,h=>by
   simp only[Qf] at h
   split at h
   ·rename_i v r' hv hr
    injection h with h;subst h
    obtain⟨h1,h2⟩:=F0 hr
    refine⟨by simp[h1],fun i hi=> ?_⟩
    cases i with
    | zero=>exact⟨v,rfl,by simpa using hv⟩
    | succ i =>
      obtain⟨u,hu1,hu2⟩:=h2 i (by omega)
      refine⟨u,by simpa using hu1,?_⟩
      rw[List.getElem?_drop] at hu2
      rw[show(i+1)*w+k=w+(i*w+k)by rw[Nat.add_mul];omega];exact hu2
   ·cases h
def wP:List SV->Option (List Bool)
 | []=>some []
 | .bool _ s::r=>(match wP r with
   | some l=>some (s::l)
   | none=>none)
 | _::_=>none
def WW (l:List Bool)(i:Nat):Bool:=l.getD i false
theorem vI: ∀ {cs:List SV} {l:List Bool},wP cs=some l->∀(i:Nat) (v:SV),cs[i]?=some v->∃ b,v=.bool b (WW l i)
 | [],l,h,i,v,hv=>by simp at hv
 | .bool b s::r,l,h,i,v,hv=>by
   simp only[wP] at h
   split at h
   ·rename_i l' hl
    injection h with h;subst h
    cases i with
    | zero=>simp at hv;subst hv;exact⟨b,rfl⟩
    | succ i=>obtain⟨b',hb⟩:=vI hl i v (by simpa using hv);exact⟨b',by rw[hb];rfl⟩
   ·cases h
def wZ:List SV->Option (List Nat)
 | []=>some []
 | .eD _ a 0::r=>(match wZ r with
   | some l=>some (a::l)
   | none=>none)
 | _::_=>none
def Px (l:List Nat)(i:Nat):Nat:=l.getD i 0
theorem vP: ∀ {cs:List SV} {l:List Nat},wZ cs=some l->∀(i:Nat) (v:SV),cs[i]?=some v->∃ k,v=.eD k (Px l i) 0
 | [],l,h,i,v,hv=>by simp at hv
 | .eD k a 0::r,l,h,i,v,hv=>by
   simp only[wZ] at h
   split at h
   ·rename_i l' hl
    injection h with h;subst h
    cases i with
    | zero=>simp at hv;subst hv;exact⟨k,rfl⟩
    | succ i=>obtain⟨b',hb⟩:=vP hl i v (by simpa using hv);exact⟨b',by rw[hb];rfl⟩
   ·cases h
def Pg:List SV->Option au
 | .eD k a 0::r=>(match wZ (.eD k a 0::r)with
   | some l=>some (.ref k (Px l))
   | none=>none)
 | .int k b n::r=>(match rB k (.int k b n::r)with
   | some l=>some (.int k (An l))
   | none=>none)
 | .str b s::r=>(match lR (.str b s::r)with
   | some l=>some (.str (bq l))
   | none=>none)
 | .bool b s::r=>(match wP (.bool b s::r)with
   | some l=>some (.bool (WW l))
   | none=>none)
 | _=>none
theorem KV {l:List SV}{c:au}(h:Pg l=some c):c.flat=true/\∀(E:Nat->Nat) (i:Nat) (v:SV),l[i]?=some v->v.val E=(c.at i).val E:=by
 unfold Pg at h
 split at h
 ·split at h
  ·rename_i hl
   injection h with h;subst h
   refine⟨rfl,fun E i v hv=> ?_⟩
   obtain⟨b,hb⟩:=vP hl i v hv
   rw[hb];rfl
  ·cases h
 ·split at h
  ·rename_i hl
   injection h with h;subst h
   refine⟨rfl,fun E i v hv=> ?_⟩
   obtain⟨b,hb⟩:=(nc hl).2 i v hv
   rw[hb];rfl
  ·cases h
 ·split at h
  ·rename_i hl
   injection h with h;subst h
   refine⟨rfl,fun E i v hv=> ?_⟩
   obtain⟨b,hb⟩:=kE hl i v hv
   rw[hb];rfl
  ·cases h
 ·split at h
  ·rename_i hl
   injection h with h;subst h
   refine⟨rfl,fun E i v hv=> ?_⟩
   obtain⟨b,hb⟩:=vI hl i v hv
   rw[hb];rfl
  ·cases h
 ·cases h
def zx (w n:Nat)(cs:List SV):Nat->Option (List au)
 | 0=>some []
 | r+1=>match Qf w (w - (r+1)) n cs with
   | some l=>(match Pg l,zx w n cs r with
     | some c,some av=>some (c::av)
     | _,_=>none)
   | none=>none
theorem zT {w n:Nat}{cs:List SV}: ∀ {r:Nat} {av:List au},r<=w->zx w n cs r=some av->av.length=r/\iC av=true /\
  ∀(E:Nat->Nat) (i j:Nat) (col:au),i<n->av[j]?=some col->∃ v,cs[i*w+(w - r+j)]?=some v/\v.val E=(col.at i).val E
 | 0,av,_,h=>by simp[zx] at h;subst h;exact⟨rfl,rfl,fun E i j col _ hj=>by simp at hj⟩
 | r+1,av,hw,h=>by
   simp only[zx] at h
   split at h
   ·rename_i l hl
    split at h
    ·rename_i c cols' hc hr
     injection h with h;subst h
     obtain⟨h1,h2,h3⟩:=zT (by omega) hr
     obtain⟨g1,g2⟩:=KV hc
     refine⟨by simp[h1],by simp[iC,g1,h2],fun E i j col hi hj=> ?_⟩
     cases j with
     | zero =>
       simp at hj;subst hj
       obtain⟨v,hv1,hv2⟩:=(F0 hl).2 i hi
       exact⟨v,by simpa using hv2,g2 E i v hv1⟩
     | succ j =>
       obtain⟨v,hv1,hv2⟩:=h3 E i j col hi (by simpa using hj)
       exact⟨v,by rw[show w - (r+1)+(j+1)=w - r+j by omega];exact hv1,hv2⟩
    ·cases h
   ·cases h
def kX (m:Mem)(s:Nat):SV->Option (Prop×Nat×Option (List au))
 | .aO=>some (True,0,none)
 | .slc key o n _ _=>(match n with
   | 0=>some (True,0,none)
   | n+1=>(match m.get key with
     | some (.cells cs _ _)=>(match fu cs o ((n+1)*s)with
       | some l=>(match zx s (n+1) l s with
         | some av=>some (True,n+1,some av)
         | none=>none)
       | none=>none)
     | _=>none))
 | .bw key w _ i n _=>(match m.get key with
   | some (.rows _ nb av _ _ _)=>if w=s/\av.length=s/\iC av=true then some (i+n<=nb,n,some (dF i av))else none
   | _=>none)
 | .cn key w _ a i n _=>(match m.get key with
   | some (.dI D nf av _)=>if w=s/\(av.map (bU.at a)).length=s/\iC (av.map (bU.at a))=true then some (0<n->D a=true/\i+n<=nf a,n,some (dF i (av.map (bU.at a))))else none
   | _=>none)
 | .str _ l=>if s=1 then some (True,l.length,some [.int .u8 (fun j=>((l.getD j 0).toNat:Int))])else none
 | _=>none
theorem Xs {n:Nat}:Nat.beq n 0=true↔n=0:=by cases n<;>simp
theorem wo {P:Program}{Γ E m nx w}(hs:aJ Γ E m nx w){s:Nat}{x:SV}{p:Prop}{n:Nat}{oc:Option (List au)}(h:kX m s x=some (p,n,oc))(hp:p) :
  ∃ l:List Value,(Builtin.lenOf (x.val E)).run P w=.ok n w/\(∀ k,(Builtin.firstCells s n (x.val E)).run P {w with drawn:=k}=.ok l.toArray {w with drawn:=k})/\l.length=n*s /\
    (∀ av,oc=some av->iY E s av n l/\iC av=true)/\(oc=none->n=0):=by
 unfold kX at h
 split at h
 ·injection h with h;injection h with h1 h2;injection h2 with h2 h3;subst h2;subst h3
  exact⟨[],rfl,fun k=>by simp[SV.val,Builtin.firstCells],by simp,(fun _ h=>by cases h),fun _=>rfl⟩
 ·rename_i key o n' cl c
  split at h
  ·injection h with h;injection h with h1 h2;injection h2 with h2 h3;subst h2;subst h3
   refine⟨[],rfl,fun k=> ?_,by simp,(fun _ h=>by cases h),fun _=>rfl⟩
   simp[SV.val,Builtin.firstCells,loadCells,loadCellsFrom]
  ·rename_i n'
   split at h
   ·rename_i cs tot ty hk
    split at h
    ·rename_i l hl
     split at h
     ·rename_i av hc
      injection h with h;injection h with h1 h2;injection h2 with h2 h3;subst h2;subst h3
      have hg:=cc hl
      obtain⟨ob,ho,c0,fr,rfl,_,h2,_⟩:=hs.kO key _ hk rfl
      obtain⟨q1,q2,q3⟩:=zT (Nat.le_refl s) hc
      refine⟨l.map (SV.val E),rfl,fun k=> ?_,by rw[List.length_map,hg.1],fun cols' hc'=> ?_,fun h=>by cases h⟩
      ·have:=run_loadCells (P:=P) (w:={w with drawn:=k}) (b:=E key) (c:=c0) ho o (l.map (SV.val E)) (fun i v hi=>by
        rw[List.getElem?_map] at hi
        cases hil:l[i]? with
        | none=>rw[hil] at hi;cases hi
        | some u=>rw[hil] at hi;injection hi with hi;subst hi;exact h2 _ _ (hg.2 i u hil))
       rw[List.length_map,hg.1] at this
       simp only[SV.val,Builtin.firstCells,this]
      ·injection hc' with hc';subst hc'
       refine⟨⟨by rw[List.length_map,hg.1],q1,fun i k col hi hk=> ?_⟩,q2⟩
       obtain⟨v,hv1,hv2⟩:=q3 E i k col hi hk
       rw[Nat.sub_self,Nat.zero_add] at hv1
       rw[List.getElem?_map,hv1,← hv2];rfl
     ·cases h
    ·cases h
   ·cases h
 ·rename_i key w' z i n' c
  split at h
  ·rename_i zb nb av ro tot ty hk
   split at h
   ·rename_i hc
    obtain⟨rfl,hcl,hf⟩:=hc
    injection h with h;injection h with h1 h2;injection h2 with h2 h3;subst h1;subst h2;subst h3
    rcases Nat.eq_zero_or_pos n' with e | e
    ·subst e
     refine⟨[],rfl,fun k=> ?_,by simp,fun cols' hc'=> ?_,fun h=>by cases h⟩
     ·simp only[SV.val]
      cases z<;>simp[Builtin.firstCells,loadCells,loadCellsFrom]
     ·injection hc' with hc';subst hc'
      exact⟨⟨by simp,by rw[fh];exact hcl,fun i k col hi _=>by omega⟩,by rw[iG];exact hf⟩
    ·have hno:(SB.rows zb nb av ro tot ty).no=false:=SB.ic (i:=0) (by omega)
     obtain⟨ob,ho,c0,fr,rfl,_,h1,_,h2⟩:=hs.kO key _ hk hno
     rw[hcl] at h1 h2
     have hle:i*w'+n'*w'<=c0.size:=by
      rw[← Nat.add_mul]
      exact Nat.le_trans (Nat.mul_le_mul_right w' hp) h1
     have hbeq:Nat.beq n' 0=false:=by cases n' with
      | zero=>omega
      | succ n=>rfl
     have hlen:((c0.toList.drop (i*w')).take (n'*w')).length=n'*w':=by
      rw[List.length_take,List.length_drop,Array.length_toList];omega
     refine⟨(c0.toList.drop (i*w')).take (n'*w'),rfl,fun k=> ?_,hlen,fun cols' hc'=> ?_,fun h=>by cases h⟩
     ·have:=run_loadCells (P:=P) (w:={w with drawn:=k}) (b:=E key) (c:=c0) ho (i*w') ((c0.toList.drop (i*w')).take (n'*w')) (fun j v hj=>by
       rw[List.getElem?_take] at hj
       split at hj
       ·rw[List.getElem?_drop,Array.getElem?_toList] at hj;exact hj
       ·cases hj)
      rw[hlen] at this
      simp only[SV.val,hbeq,Bool.and_false,cond_false,Builtin.firstCells,this]
     ·injection hc' with hc';subst hc'
      refine⟨⟨hlen,by rw[fh];exact hcl,fun j k col hj hk=> ?_⟩,by rw[iG];exact hf⟩
      obtain⟨d,hd1,hd2⟩:=lT hk
      have hkl:k<w':=by have:=(List.getElem?_eq_some_iff.1 hd1).1;omega
      have hlt:j*w'+k<n'*w':=by
       have:(j+1)*w'<=n'*w':=Nat.mul_le_mul_right w' hj
       rw[Nat.add_mul] at this;omega
      rw[hd2,List.getElem?_take,if_pos hlt,List.getElem?_drop,Array.getElem?_toList]
      have:=h2 (i+j) k d (by omega) hd1
      rw[Nat.add_mul] at this
      rw[← Nat.add_assoc];exact this
   ·cases h
  ·cases h
 ·rename_i key w' z a i n' c
  split at h
  ·rename_i D nf av ro hk
   split at h
   ·rename_i hc
    obtain⟨rfl,hcl,hf⟩:=hc
    injection h with h;injection h with h1 h2;injection h2 with h2 h3;subst h1;subst h2;subst h3
    rcases Nat.eq_zero_or_pos n' with e | e
    ·subst e
     refine⟨[],rfl,fun k=> ?_,by simp,fun cols' hc'=> ?_,fun h=>by cases h⟩
     ·simp only[SV.val]
      cases z<;>simp[Builtin.firstCells,loadCells,loadCellsFrom]
     ·injection hc' with hc';subst hc'
      exact⟨⟨by simp,by rw[fh];exact hcl,fun i k col hi _=>by omega⟩,by rw[iG];exact hf⟩
    ·obtain⟨hD,hin⟩:=hp e
     obtain⟨ob,ho,c0,ty,fr,rfl,h2⟩:=hs.gi key _ a hk hD
     rw[hcl] at h2
     have hbeq:Nat.beq n' 0=false:=by cases n' with
      | zero=>omega
      | succ n=>rfl
     have hs0:0<w'∨w'=0:=by omega
     have hlen:((c0.toList.drop (i*w')).take (n'*w')).length=n'*w':=by
      rcases hs0 with hs0 | hs0
      ·have hcol: ∃ col,(av.map (bU.at a))[w' - 1]?=some col:=⟨_,List.getElem?_eq_getElem (by omega)⟩
       obtain⟨col,hcol⟩:=hcol
       have:=(Array.getElem?_eq_some_iff.1 (h2 (i+n' - 1) (w' - 1) col (by omega) hcol)).1
       rw[Nat.zero_add] at this
       have e2:(i+n' - 1)*w'+w'=i*w'+n'*w':=by
        rw[← Nat.add_mul,← Nat.succ_mul];congr 1;omega
       rw[List.length_take,List.length_drop,Array.length_toList];omega
      ·subst hs0;simp
     refine⟨(c0.toList.drop (i*w')).take (n'*w'),rfl,fun k=> ?_,hlen,fun cols' hc'=> ?_,fun h=>by cases h⟩
     ·have:=run_loadCells (P:=P) (w:={w with drawn:=k}) (b:=a) (c:=c0) ho (i*w') ((c0.toList.drop (i*w')).take (n'*w')) (fun j v hj=>by
       rw[List.getElem?_take] at hj
       split at hj
       ·rw[List.getElem?_drop,Array.getElem?_toList] at hj;exact hj
       ·cases hj)
      rw[hlen] at this
      simp only[SV.val,hbeq,Bool.and_false,cond_false,Builtin.firstCells,this]
     ·injection hc' with hc';subst hc'
      refine⟨⟨hlen,by rw[fh];exact hcl,fun j k col hj hk=> ?_⟩,by rw[iG];exact hf⟩
      obtain⟨d,hd1,hd2⟩:=lT hk
      have hkl:k<w':=by have:=(List.getElem?_eq_some_iff.1 hd1).1;omega
      have hlt:j*w'+k<n'*w':=by
       have:(j+1)*w'<=n'*w':=Nat.mul_le_mul_right w' hj
       rw[Nat.add_mul] at this;omega
      rw[hd2,List.getElem?_take,if_pos hlt,List.getElem?_drop,Array.getElem?_toList]
      have:=h2 (i+j) k d (by omega) hd1
      rw[Nat.add_mul,Nat.zero_add] at this
      rw[← Nat.add_assoc];exact this
   ·cases h
  ·cases h
 ·rename_i l s'
  split at h
  ·rename_i e;subst e
   injection h with h;injection h with h1 h2;injection h2 with h2 h3;subst h2;subst h3
   refine⟨s'.map fun b=>Value.int .u8 b.toNat,by simp[SV.val,Builtin.lenOf,ByteArray.size],fun k=> ?_,by simp,fun cols' hc'=> ?_,fun h=>by cases h⟩
   ·simp only[SV.val,Builtin.firstCells,Sem.run_pure]
    congr 1
    have:(ByteArray.mk s'.toArray).extract 0 s'.length=ByteArray.mk s'.toArray:=by
     rw[show s'.length=(ByteArray.mk s'.toArray).size by simp[ByteArray.size]]
     exact ByteArray.extract_zero_size
    rw[this];simp
   ·injection hc' with hc';subst hc'
    refine⟨⟨by simp,rfl,fun i k col hi hk=> ?_⟩,rfl⟩
    cases k with
    | succ k=>simp at hk
    | zero =>
      simp at hk;subst hk
      simp[au.at,SV.val,hi]
  ·cases h
 ·cases h
def au.cat (n:Nat):au->au->Option au
 | .int k f,.int k' g=>if k=k' then some (.int k (fun j=>if j<n then f j else g (j - n)))else none
 | .str f,.str g=>some (.str (fun j=>if j<n then f j else g (j - n)))
 | .bool f,.bool g=>some (.bool (fun j=>if j<n then f j else g (j - n)))
 | .ref k f,.ref _ g=>some (.ref k (fun j=>if j<n then f j else g (j - n)))
 | _,_=>none
theorem au.VG {n:Nat}{c d e:au}(h:au.cat n c d=some e):e.flat=true/\∀(E:Nat->Nat) (j:Nat),(e.at j).val E=if j<n then(c.at j).val E else(d.at (j - n)).val E:=by
 unfold au.cat at h
 split at h
 ·split at h
  ·rename_i hk;subst hk;injection h with h;subst h
   exact⟨rfl,fun E j=>by simp only[au.at];split<;>rfl⟩
  ·cases h
 ·injection h with h;subst h;exact⟨rfl,fun E j=>by simp only[au.at];split<;>rfl⟩
 ·injection h with h;subst h;exact⟨rfl,fun E j=>by simp only[au.at];split<;>rfl⟩
 ·injection h with h;subst h;exact⟨rfl,fun E j=>by simp only[au.at,SV.val];split<;>rfl⟩
 ·cases h
def pM (n:Nat):List au->List au->Option (List au)
 | [],[]=>some []
 | c::cs,d::ds=>(match au.cat n c d,pM n cs ds with
   | some e,some es=>some (e::es)
   | _,_=>none)
 | _,_=>none
theorem oQ {n:Nat}: ∀ {c d e:List au},pM n c d=some e->e.length=c.length/\e.length=d.length/\iC e=true /\
  ∀(k:Nat) (col:au),e[k]?=some col->∃ a b,c[k]?=some a/\d[k]?=some b/\∀(E:Nat->Nat) (j:Nat),(col.at j).val E=if j<n then(a.at j).val E else(b.at (j - n)).val E
 | [],[],e,h=>by simp[pM] at h;subst h;exact⟨rfl,rfl,rfl,fun k col hk=>by simp at hk⟩
 | c::cs,d::ds,e,h=>by
   simp only[pM] at h
   split at h
   ·rename_i x es hx hes
    injection h with h;subst h
    obtain⟨h1,h2,h3,h4⟩:=oQ hes
    obtain⟨g1,g2⟩:=au.VG hx
    refine⟨by simp[h1],by simp[h2],by simp[iC,g1,h3],fun k col hk=> ?_⟩
    cases k with
    | zero=>simp at hk;subst hk;exact⟨c,d,rfl,rfl,g2⟩
    | succ k=>exact h4 k col (by simpa using hk)
   ·cases h
 | [],_::_,_,h=>by cases h
 | _::_,[],_,h=>by cases h
theorem iY.cat {E:Nat->Nat}{s n1 n2:Nat}{c1 c2 c:List au}{l1 l2:List Value}(h1:iY E s c1 n1 l1)(h2:iY E s c2 n2 l2)(h:pM n1 c1 c2=some c) :
  iY E s c (n1+n2) (l1++l2):=by
 obtain⟨g1,g2,g3,g4⟩:=oQ h
 refine⟨by rw[List.length_append,h1.len,h2.len,Nat.add_mul],by rw[g1,h1.wide],fun i k col hi hk=> ?_⟩
 obtain⟨a,b,ha,hb,hat⟩:=g4 k col hk
 have hks:k<s:=by have:=(List.getElem?_eq_some_iff.1 hk).1;rw[g1,h1.wide] at this;exact this
 rw[hat,List.getElem?_append,h1.len]
 by_cases hlt:i<n1
 ·have:(i+1)*s<=n1*s:=Nat.mul_le_mul_right s hlt
  rw[Nat.add_mul] at this
  rw[if_pos hlt,if_pos (by omega)]
  exact h1.get i k a hlt ha
 ·have:n1*s<=i*s:=Nat.mul_le_mul_right s (by omega)
  rw[if_neg hlt,if_neg (by omega)]
  have:=h2.get (i - n1) k b (by omega) hb
  rw[Nat.sub_mul] at this
  rw[← this];congr 1;omega
def xP (n:Nat):Option (List au)->Option (List au)->Option (List au)
 | some c,some d=>pM n c d
 | some c,none=>some c
 | none,some d=>some d
 | none,none=>none
theorem Ap {E:Nat->Nat}{s n1 n2:Nat}{o1 o2:Option (List au)}{c:List au}{l1 l2:List Value}(h:xP n1 o1 o2=some c)
  (h1: ∀ av,o1=some av->iY E s av n1 l1/\iC av=true) (h1':o1=none->n1=0) (e1:l1.length=n1*s)
  (h2: ∀ av,o2=some av->iY E s av n2 l2/\iC av=true) (h2':o2=none->n2=0) (e2:l2.length=n2*s):iY E s c (n1+n2) (l1++l2)/\iC c=true:=by
 unfold xP at h
 split at h
 ·exact⟨iY.cat (h1 _ rfl).1 (h2 _ rfl).1 h,(oQ h).2.2.1⟩
 ·injection h with h;subst h
  have:=h2' rfl;subst this
  have:l2=[]:=List.eq_nil_of_length_eq_zero (by simpa using e2)
  subst this
  rw[List.append_nil,Nat.add_zero];exact h1 _ rfl
 ·injection h with h;subst h
  have:=h1' rfl;subst this
  have:l1=[]:=List.eq_nil_of_length_eq_zero (by simpa using e1)
  subst this
  rw[List.nil_append,Nat.zero_add];exact h2 _ rfl
 ·cases h
def wE (elem:TypeId)(s:Nat)(z:Bool)(n:Nat)(av:List au)(m:Mem)(nx:Nat)(K:KL):VC :=
 .all Nat fun c=>.imp (n<=c) (K (some (.bw nx s z 0 n c)) ((nx,.rows z n av false (c*s) elem)::m) (nx+1))
def xN (elem:TypeId)(s:Nat)(x:SV)(n0 n:Nat)(av:List au)(m:Mem)(nx:Nat)(K:KL):VC :=
 match x with
 | .aO=>wE elem s true n av m nx K
 | .slc key 0 _ _ c=>(match m.get key with
   | some (.cells cs tot ty)=>if cs.length=n0*s/\ty=elem then .and (j9 tot (c*s)) (wE elem s false n av (m.drop key) nx K)else .fail "append: another block"
   | _=>.fail "append: no such block")
 | .bw key _ z 0 _ c=>(match m.get key with
   | some (.rows zb _ _ false tot ty)=>if zb=z/\ty=elem then .and (j9 tot (c*s)) (wE elem s z n av (m.drop key) nx K)else .fail "append: another row"
   | _=>.fail "append: no row")
 | _=>.fail "append: to what"
def gN (P:Program)(elem:TypeId)(s:Nat)(x y:SV)(m:Mem)(nx:Nat)(K:KL):VC :=
 match bytes P elem,fA P elem,kX m s x,kX m s y with
 | some by_,some z,some (p0,n0,o0),some (p1,n1,o1)=>(match xP n0 o0 o1 with
   | some av=>if(z.plain&&decide (z.cells.length=s)&&decide (s≠0))=true then
      .and (.atom (p0/\p1/\2*(n0+n1)*by_<=281474976710656/\n0+n1<9223372036854775808)) (xN elem s x n0 (n0+n1) av m nx K)else .fail "append: sizes"
   | none=>.fail "append: no columns")
 | _,_,_,_=>.fail "append: rows"
section
variable {P : Program} {Γ : aY}
theorem getSet (c:Array Value)(off:Nat)(vs:List Value)(h:off+vs.length<=c.size)(q:Nat) :
  (dB c off vs)[q]?=if off<=q/\q<off+vs.length then vs[q - off]? else c[q]?:=by
 rw[← Array.getElem?_toList,fq]
 have key: ∀(vs l:List Value) (off:Nat),off+vs.length<=l.length->(aZ l off vs)[q]?=if off<=q/\q<off+vs.length then vs[q - off]? else l[q]?:=by
  intro vs
  induction vs with
  | nil=>intro l off h;simp only[aZ,List.length_nil,Nat.add_zero];rw[if_neg (by omega)]
  | cons v r ih =>
    intro l off h
    simp only[List.length_cons] at h ⊢
    simp only[aZ]
    rw[ih _ _ (by simp;omega)]
    by_cases h1:off+1<=q/\q<off+1+r.length
    ·rw[if_pos h1,if_pos (by omega),show q - off=(q - (off+1))+1 by omega,List.getElem?_cons_succ]
    ·rw[if_neg h1,List.getElem?_set]
     by_cases h2:off=q
     ·subst h2;rw[if_pos rfl,if_pos (by omega),if_pos (by omega),Nat.sub_self];rfl
     ·rw[if_neg h2,if_neg (by omega)]
 have e:c.toList[q]?=c[q]?:=Array.getElem?_toList
 rw[key _ _ _ (by simpa using h),e]
theorem Nl {Γ E m nx w}(hs:aJ Γ E m nx w)(hw:Mem.wf nx m=true){K:KL}{elem:TypeId}{s:Nat}{z:Bool}{n:Nat}{av:List au}{m':Mem}(hsub: ∀ k B,m'.get k=some B->m.get k=some B)(hk:(wE elem s z n av m' nx K).holds)
  {l:List Value} (hl:iY E s av n l) (hf:iC av=true) {c:Nat} (hc:n<=c) (hpos:0<n) {a rest:Array Value} (ha:a=l.toArray) (hr:rest.size=(c - n)*s) :
  bg K Γ E nx (.slice (some ⟨w.heap.size,0,none⟩) n c) {w with drawn:=w.drawn+1,heap:=w.heap.push (.cells (a++rest) elem)}:=by
 subst ha
 have hb:Nat.beq n 0=false:=by cases n with
  | zero=>omega
  | succ n=>rfl
 have hs':=hs.drew (w.drawn+1)
 refine⟨fun k=>if k=nx then w.heap.size else E k,some (.bw nx s z 0 n c),_,_,fun k hk=>by simp[Nat.ne_of_lt hk],Nat.le_succ _,fun v hv=>by injection hv with hv;subst hv;simp[SV.val,hb],?_,hk c hc⟩
 refine hs'.push hw hsub (fun k X a hk hn=>Nat.ne_of_lt (hs.Rz (hsub k X hk) hn)) (fun i hi hlt=> ?_) ⟨hs.ext.os,hs.ext.tape,hs.ext.output,?_,fun k hk hm=> ?_⟩ (fun _ _=>.inr hs.ext.size) (fun D hD=>Nat.ne_of_lt (Array.getElem?_eq_some_iff.1 (hs.kp D hD)).1) (fun _=>⟨_,by simp;rfl,?_⟩) rfl
 ·show(w.heap.push _)[i]?=_
  rw[Array.getElem?_push,if_neg hi]
 ·have:=hs.ext.size;simp;omega
 ·show(w.heap.push _)[k]?=_
  have:=hs.ext.size
  rw[Array.getElem?_push,if_neg (by omega)];exact hs.ext.block k hk hm
 ·refine⟨l.toArray++rest,(0,0),rfl,fun _ i=>.inr (by simp),?_,?_,fun i k col hi hk=> ?_⟩
  ·simp[hl.len,hl.wide]
  ·simp only[Array.size_append,List.size_toArray,hl.len,hr,← Nat.add_mul];congr 1;omega
  ·rw[hl.wide,au.Fg (p6 hf hk) _ E]
   have:=hl.get i k col hi hk
   rw[Array.getElem?_append_left (by simpa using (List.getElem?_eq_some_iff.1 this).1)]
   simpa using this
theorem Q6 {Γ E m nx w}(hs:aJ Γ E m nx w)(hw:Mem.wf nx m=true){K:KL}{elem:TypeId}{s:Nat}{z:Bool}{n0 n1:Nat}{av:List au}{key:Nat}{B:SB}(hk:m.get key=some B)(hn:B.no=false)(hro:B.ro=false)
  (h:(wE elem s z (n0+n1) av (m.drop key) nx K).holds) {old new:List Value} (hl:iY E s av (n0+n1) (old++new)) (hol:old.length=n0*s) (hnl:new.length=n1*s) (hf:iC av=true)
  {c0:Array Value} {fr:Nat×Nat} (ho:w.heap[E key]?=some (.cells c0 elem fr)) (hfr: ∀ i,c0.size<=i∨¬ (fr.1<=i/\i<fr.2)) {c:Nat} (hc:n0+n1<=c) (hsz:c0.size=c*s)
  (hold: ∀ q,q<n0*s->c0[q]?=old[q]?) (hz:(z&&Nat.beq (n0+n1) 0)=false) :
  ∃ w',(storeCells ⟨E key,n0*s,none⟩ new).run P w=.ok () w'/\bg K Γ E nx (.slice (some ⟨E key,0,none⟩) (n0+n1) c) w':=by
 have hcs:n0*s+n1*s<=c0.size:=by rw[hsz,← Nat.add_mul];exact Nat.mul_le_mul_right s hc
 have hrun:=cJ (P:=P) (o:=n0*s) new 0 w c0 ho hfr (by omega) (fun v hv=>hl.one hf v (List.mem_append_right _ hv))
 refine⟨_,hrun,fun j=>if j=nx then E key else E j,some (.bw nx s z 0 (n0+n1) c),_,_,fun k hk'=>by simp[Nat.ne_of_lt hk'],Nat.le_succ _,
  fun v hv=>by injection hv with hv;subst hv;simp[SV.val,hz],hs.move hw hk hn hro ?_,h c hc⟩
 refine⟨_,fr,rfl,fun _=>by rw[bA];exact hfr,?_,?_,fun i k col hi hk=> ?_⟩
 ·rw[bA,hl.wide,Nat.add_mul];exact hcs
 ·rw[bA];exact hsz
 ·rw[hl.wide,au.Fg (p6 hf hk) _ E]
  have hg:=hl.get i k col hi hk
  rw[getSet _ _ _ (by omega),← hg,List.getElem?_append,hol,Nat.add_zero]
  by_cases hlt:i*s+k<n0*s
  ·rw[if_pos hlt,if_neg (by omega)];exact hold _ hlt
  ·rw[if_neg hlt,if_pos]
   refine⟨by omega,?_⟩
   have:=(List.getElem?_eq_some_iff.1 hg).1
   rw[List.length_append,hol] at this;omega
theorem y7 {m:Mem}{nx:Nat}{ats:Array TypeId}{ty t0 t1 elem:TypeId}{d:TypeDesc}{s:Nat}(h0:ats[0]?=some t0)(h1:ats[1]?=some t1)(hd:P.underlying t0=some (.slice elem))(hd1:P.underlying t1=some d)(hni:vh d=true)
  (hsz:sz P elem=some s) {x y:SV} {K:KL} {Γ:aY} {E:Nat->Nat} {w:World}
  (h:(gN P elem s x y m nx K).holds) (hs:aJ Γ E m nx w) (hw:Mem.wf nx m=true) :
  ∃ r w',(Builtin.append_ ats ty #[x.val E,y.val E]).run P w=.ok r w'/\bg K Γ E nx r w':=by
 unfold gN at h
 split at h
 ·rename_i by_ z p0 n0 o0 p1 n1 o1 hby hz hx hy
  split at h
  ·rename_i av hcols
   split at h
   ·rename_i hc
    simp only[Bool.and_eq_true,decide_eq_true_eq] at hc
    obtain⟨⟨g1,g2⟩,g3⟩:=hc
    obtain⟨⟨hp0,hp1,hb1,hb2⟩,h⟩:=h
    obtain⟨old,xlen,xrun,xl,xc,xn⟩:=wo (P:=P) hs hx hp0
    obtain⟨new,ylen,yrun,yl,yc,yn⟩:=wo (P:=P) hs hy hp1
    obtain⟨hrows,hflat⟩:=Ap hcols xc xn xl yc yn yl
    have hzr: ∀ w:World,(zeroValue elem).run P w=.ok (z.val E) w:=fun w=>cX hz
    have hzs:(z.val E).cells.size=s:=by rw[SV.dV g1];simp[g2]
    have hnew:(Builtin.firstCells s n1 (y.val E)).run P w=.ok new.toArray w:=yrun w.drawn
    have grow: ∀(base:Option Addr) (c:Nat) (z:Bool) (m':Mem),x.val E=.slice base n0 c->(∀ k B,m'.get k=some B->m.get k=some B)->c<n0+n1->(wE elem s z (n0+n1) av m' nx K).holds ->
      ∃ r w',(Builtin.append_ ats ty #[x.val E,y.val E]).run P w=.ok r w'/\bg K Γ E nx r w':=by
     intro base c z m' hxv hsub hlt hk
     rw[hxv] at xrun ⊢
     obtain⟨c',rest,q1,q2,q3⟩:=kZ (w:=w) (ty:=ty) (base:=base) (n0:=n0) (c:=c) h0 h1 hd hd1 hni hsz hby hzr hzs ylen xrun yrun hlt (by omega) (by omega)
     exact⟨_,_,q3,Nl hs hw hsub hk hrows hflat q1 (by omega) (by simp) q2⟩
    unfold xN at h
    split at h
    ·
     by_cases hn:n1=0
     ·subst hn
      simp only[kX] at hx
      injection hx with hx;injection hx with e1 e2;injection e2 with e2 e3;subst e2
      have hnn:(SB.rows true (0+0) av false (0*s) elem).no=true:=rfl
      refine⟨_,_,append_nil h0 h1 hd hd1 hni hsz ylen hnew,fun k=>if k=nx then w.heap.size else E k,some (.bw nx s true 0 (0+0) 0),_,_,fun k hk=>by simp[Nat.ne_of_lt hk],Nat.le_succ _,fun v hv=>by injection hv with hv;subst hv;rfl,
       hs.push hw (fun _ _ h=>h) (fun k X a hk ha=>Nat.ne_of_lt (hs.Rz hk ha)) (fun i _ _=>rfl) hs.ext (fun hn=>by rw[hnn] at hn;cases hn) (fun D hD=>Nat.ne_of_lt (Array.getElem?_eq_some_iff.1 (hs.kp D hD)).1) (fun hn=>by rw[hnn] at hn;cases hn) rfl,h 0 (Nat.le_refl _)⟩
     ·simp only[kX] at hx
      injection hx with hx;injection hx with e1 e2;injection e2 with e2 e3;subst e2
      exact grow none 0 true m rfl (fun _ _ h=>h) (by omega) h
    ·
     rename_i key n' cl c
     have hn':n'=n0:=by
      simp only[kX] at hx
      split at hx
      ·injection hx with hx;injection hx with _ hx;injection hx with hx _
      ·split at hx
       ·split at hx
        ·split at hx
         ·injection hx with hx;injection hx with _ hx;injection hx with hx _
         ·cases hx
        ·cases hx
       ·cases hx
     subst hn'
     split at h
     ·rename_i cs tot ty' hk
      split at h
      ·rename_i hcs
       obtain⟨hcl,rfl⟩:=hcs
       obtain⟨htot,h⟩:=h
       have htot:tot=c*s:=htot
       by_cases hle:n'+n1<=c
       ·obtain⟨ob,ho,c0,fr,rfl,f1,f2,f3⟩:=hs.kO key _ hk rfl
        have hf0:=xrun w.drawn
        have hold: ∀ q,q<n'*s->c0[q]?=old[q]?:=by
         have hr:=run_loadCells (P:=P) (w:={w with drawn:=w.drawn}) (b:=E key) (c:=c0) ho 0 ((cs.map (SV.val E))) (fun j v hj=>by
          rw[List.getElem?_map] at hj
          cases hjl:cs[j]? with
          | none=>rw[hjl] at hj;cases hj
          | some u=>rw[hjl] at hj;injection hj with hj;subst hj;rw[Nat.zero_add];exact f2 j u hjl)
         rw[List.length_map,hcl] at hr
         simp only[SV.val,Builtin.firstCells] at hf0
         rw[hr] at hf0
         injection hf0 with hf0
         have hol:old=cs.map (SV.val E):=by
          have:=congrArg Array.toList hf0
          simpa using this.symm
         intro q hq
         have hql:q<cs.length:=by omega
         rw[hol,List.getElem?_map,List.getElem?_eq_getElem hql,f2 q _ (List.getElem?_eq_getElem hql)];rfl
        obtain⟨w',hrun,haft⟩:=Q6 (P:=P) hs hw hk rfl rfl h hrows xl yl hflat ho f1 hle (by rw[f3,htot]) hold rfl
        exact⟨_,w',qg (o:=0) h0 h1 hd hd1 hni hsz ylen hnew hle (by rw[Nat.zero_add];exact hrun),haft⟩
       ·exact grow _ c false (m.drop key) rfl (fun _ _ h=>(Mem.dW h).2) (by omega) h
      ·exact h.elim
     ·exact h.elim
    ·
     rename_i key w' z' n' c
     split at h
     ·rename_i zb nb cols' tot ty' hk
      split at h
      ·rename_i hcs
       obtain⟨rfl,rfl⟩:=hcs
       obtain⟨htot,h⟩:=h
       have htot:tot=c*s:=htot
       simp only[kX,hk] at hx
       split at hx
       ·rename_i hw'
        obtain⟨rfl,hwl,hwf⟩:=hw'
        injection hx with hx;injection hx with e1 e2;injection e2 with e2 e3;subst e1;subst e2;subst e3
        cases hzn:zb&&Nat.beq n' 0 with
        | true =>
          simp only[Bool.and_eq_true,Xs] at hzn
          obtain⟨rfl,rfl⟩:=hzn
          by_cases hn1:n1=0
          ·subst hn1
           have hnn:(SB.rows true (0+0) av false (0*w') ty').no=true:=rfl
           refine⟨_,_,append_nil h0 h1 hd hd1 hni hsz ylen hnew,fun k=>if k=nx then w.heap.size else E k,some (.bw nx w' true 0 (0+0) 0),_,_,fun k hk=>by simp[Nat.ne_of_lt hk],Nat.le_succ _,fun v hv=>by injection hv with hv;subst hv;rfl,
            hs.push hw (fun _ _ h=>(Mem.dW h).2) (fun k X a hk ha=>Nat.ne_of_lt (hs.Rz (Mem.dW hk).2 ha)) (fun i _ _=>rfl) hs.ext (fun hn=>by rw[hnn] at hn;cases hn) (fun D hD=>Nat.ne_of_lt (Array.getElem?_eq_some_iff.1 (hs.kp D hD)).1) (fun hn=>by rw[hnn] at hn;cases hn) rfl,h 0 (Nat.le_refl _)⟩
          ·exact grow none 0 true (m.drop key) rfl (fun _ _ h=>(Mem.dW h).2) (by omega) h
        | false =>
          have hxv:(SV.bw key w' zb 0 n' c).val E=.slice (some ⟨E key,0,none⟩) n' c:=by simp[SV.val,hzn]
          have hno:(SB.rows zb nb cols' false tot ty').no=false:=by
           cases zb with
           | false=>rfl
           | true =>
             simp only[Bool.true_and] at hzn
             have:n'≠0:=fun e=>by rw[e] at hzn;cases hzn
             exact SB.ic (i:=0) (by omega)
          by_cases hle:n'+n1<=c
          ·obtain⟨ob,ho,c0,fr,rfl,f1,f2,f3,f4⟩:=hs.kO key _ hk hno
           have hf0:=xrun w.drawn
           rw[hxv] at hf0
           rw[hwl] at f2
           have hnb:n'*w'<=c0.size:=Nat.le_trans (Nat.mul_le_mul_right w' (by omega)) f2
           have hold: ∀ q,q<n'*w'->c0[q]?=old[q]?:=by
            have hr:=run_loadCells (P:=P) (w:={w with drawn:=w.drawn}) (b:=E key) (c:=c0) ho 0 (c0.toList.take (n'*w')) (fun j v hj=>by
             rw[List.getElem?_take] at hj
             split at hj
             ·rw[Nat.zero_add];rw[Array.getElem?_toList] at hj;exact hj
             ·cases hj)
            rw[List.length_take,Array.length_toList,Nat.min_eq_left hnb] at hr
            simp only[Builtin.firstCells] at hf0
            rw[hr] at hf0
            injection hf0 with hf0
            have hol:old=c0.toList.take (n'*w'):=by
             have:=congrArg Array.toList hf0
             simpa using this.symm
            intro q hq
            rw[hol,List.getElem?_take,if_pos hq,Array.getElem?_toList]
           have hz2:(zb&&Nat.beq (n'+n1) 0)=false:=by
            cases zb with
            | false=>rfl
            | true =>
              simp only[Bool.true_and] at hzn ⊢
              cases n' with
              | zero=>cases hzn
              | succ n=>rw[show n+1+n1=(n+n1)+1 by omega];rfl
           obtain⟨w2,hrun,haft⟩:=Q6 (P:=P) hs hw hk hno rfl h hrows xl yl hflat ho (f1 rfl) hle (by rw[f3,htot]) hold hz2
           rw[hxv]
           exact⟨_,w2,qg (o:=0) h0 h1 hd hd1 hni hsz ylen hnew hle (by rw[Nat.zero_add];exact hrun),haft⟩
          ·exact grow _ c zb (m.drop key) hxv (fun _ _ h=>(Mem.dW h).2) (by omega) h
       ·cases hx
      ·exact h.elim
     ·exact h.elim
    ·exact h.elim
   ·exact h.elim
  ·exact h.elim
 ·exact h.elim
def TQ:SV->Bool
 | .bw .. =>true
 | _=>false
def tV (P:Program)(ats:Array TypeId)(x y:SV)(m:Mem)(nx:Nat)(K:KL):VC :=
 match TQ x||TQ y with
 | false=>wQ P ats x y m nx K
 | true=>(match ats[0]?,ats[1]? with
   | some t0,some t1=>(match P.underlying t0,P.underlying t1 with
     | some (.slice elem),some d=>(match sz P elem with
       | some s=>if vh d=true then gN P elem s x y m nx K else .fail "append: make"
       | none=>.fail "append")
     | _,_=>.fail "append")
   | _,_=>.fail "append")
theorem Fy {m:Mem}{nx:Nat}{ats:Array TypeId}{ty:TypeId}{x y:SV}{K:KL}{Γ:aY}{E:Nat->Nat}{w:World}
  (h:(tV P ats x y m nx K).holds) (hs:aJ Γ E m nx w) (hw:Mem.wf nx m=true) :
  ∃ r w',(Builtin.append_ ats ty #[x.val E,y.val E]).run P w=.ok r w'/\bg K Γ E nx r w':=by
 unfold tV at h
 split at h
 ·exact Ik h hs hw
 ·split at h
  ·rename_i t0 t1 h0 h1
   split at h
   ·rename_i elem d hd hd1
    split at h
    ·rename_i s hsz
     split at h
     ·rename_i hni
      exact y7 h0 h1 hd hd1 hni hsz h hs hw
     ·exact h.elim
    ·exact h.elim
   ·exact h.elim
  ·exact h.elim
theorem rj {elem:TypeId}{s:Nat}{z:Bool}{n:Nat}{av:List au}{m:Mem}{nx:Nat}{K K':KL}(hK: ∀ u m nx,(K u m nx).holds->(K' u m nx).holds) :
  (wE elem s z n av m nx K).holds->(wE elem s z n av m nx K').holds:=fun h c hc=>hK _ _ _ (h c hc)
theorem vD {elem:TypeId}{s:Nat}{x y:SV}{m:Mem}{nx:Nat}{K K':KL}(hK: ∀ u m nx,(K u m nx).holds->(K' u m nx).holds) :
  (gN P elem s x y m nx K).holds->(gN P elem s x y m nx K').holds:=by
 unfold gN
 split
 ·split
  ·split
   ·refine fun x=>⟨x.1,?_⟩
    have x2:=x.2
    unfold xN at x2 ⊢
    split at x2
    ·exact rj hK x2
    ·split at x2
     ·split at x2
      ·rename_i hh;rw[if_pos hh];exact⟨x2.1,rj hK x2.2⟩
      ·exact x2.elim
     ·exact x2.elim
    ·split at x2
     ·split at x2
      ·rename_i hh;rw[if_pos hh];exact⟨x2.1,rj hK x2.2⟩
      ·exact x2.elim
     ·exact x2.elim
    ·exact x2.elim
   ·exact id
  ·exact id
 ·exact id
end
end
end Go.Proofs.YtoibaecagklkaaaGreatDoor.Sx
namespace Go.Proofs.YtoibaecagklkaaaGreatDoor.Sx
open Go
mutual
def SV.leaf (f:SV->SV):SV->SV
 | .agg l=>.agg (SV.kY f l)
 | .aL l=>.aL (SV.kY f l)
 | .iface t v=>.iface t (v.leaf f)
 | .func fn a b=>.func fn (SV.kY f a) (SV.kY f b)
 | .int k l n=>f (.int k l n)
 | .bool l b=>f (.bool l b)
 | .str l s=>f (.str l s)
 | .ptr k l o=>f (.ptr k l o)
 | .jz k w i j=>f (.jz k w i j)
 | .mR k b n i=>f (.mR k b n i)
 | .bD=>f .bD
 | .slc k o n l c=>f (.slc k o n l c)
 | .bw k w z i n c=>f (.bw k w z i n c)
 | .bP k w z o i n c=>f (.bP k w z o i n c)
 | .gu k w o i j=>f (.gu k w o i j)
 | .aO=>f .aO
 | .aI=>f .aI
 | .ee=>f .ee
 | .yield k=>f (.yield k)
 | .map k=>f (.map k)
 | .eM=>f .eM
 | .raw v=>f (.raw v)
 | .eD k a o=>f (.eD k a o)
 | .cn k w z a i n c=>f (.cn k w z a i n c)
 | .lJ k w a i j=>f (.lJ k w a i j)
def SV.kY (f:SV->SV):List SV->List SV
 | []=>[]
 | x::r=>x.leaf f::SV.kY f r
end
def Says (f:SV->SV)(E:Nat->Nat):Prop:=∀ v,(f v).val E=v.val E/\∀ nx,v.wf nx=true->(f v).wf nx=true
mutual
theorem SV.tq {f:SV->SV}{E:Nat->Nat}(h:Says f E):(v:SV)->(v.leaf f).val E=v.val E
 | .agg l=>by simp only[SV.leaf,SV.val,SV.mA h l]
 | .aL l=>by simp only[SV.leaf,SV.val,SV.mA h l]
 | .iface t v=>by simp only[SV.leaf,SV.val,SV.tq h v]
 | .func fn a b=>by simp only[SV.leaf,SV.val,SV.mA h a,SV.mA h b]
 | .int .. | .bool .. | .str .. | .ptr .. | .jz .. | .mR .. | .bD | .slc .. | .bw .. | .bP .. | .gu .. | .aO | .aI | .ee | .yield .. | .map .. | .eM | .raw .. | .eD .. | .cn .. | .lJ .. =>(h _).1
theorem SV.mA {f:SV->SV}{E:Nat->Nat}(h:Says f E):(l:List SV)->SV.vals E (SV.kY f l)=SV.vals E l
 | []=>rfl
 | x::r=>by simp only[SV.kY,SV.vals,SV.tq h x,SV.mA h r]
end
mutual
theorem SV.CL {f:SV->SV}{E:Nat->Nat}(h:Says f E){nx:Nat}:(v:SV)->v.wf nx=true->(v.leaf f).wf nx=true
 | .agg l,hw=>SV.oU h l hw
 | .aL l,hw=>SV.oU h l hw
 | .iface t v,hw=>SV.CL h v hw
 | .func fn a b,hw=>by
   simp only[SV.wf,Bool.and_eq_true] at hw
   simp only[SV.leaf,SV.wf,Bool.and_eq_true];exact⟨SV.oU h a hw.1,SV.oU h b hw.2⟩
 | .int ..,hw | .bool ..,hw | .str ..,hw | .ptr ..,hw | .jz ..,hw | .mR ..,hw | .bD,hw | .slc ..,hw | .bw ..,hw | .bP ..,hw | .gu ..,hw | .aO,hw | .aI,hw | .ee,hw | .yield ..,hw | .map ..,hw | .eM,hw | .raw ..,hw | .eD ..,hw | .cn ..,hw | .lJ ..,hw=>(h _).2 nx hw
theorem SV.oU {f:SV->SV}{E:Nat->Nat}(h:Says f E){nx:Nat}:(l:List SV)->SV.ep nx l=true->SV.ep nx (SV.kY f l)=true
 | [],_=>rfl
 | x::r,hw=>by
   simp only[SV.ep,Bool.and_eq_true] at hw
   simp only[SV.kY,SV.ep,Bool.and_eq_true];exact⟨SV.CL h x hw.1,SV.oU h r hw.2⟩
end
theorem SV.Bx {f:SV->SV}: ∀ {l:List SV} {i:Nat} {u:SV},(SV.kY f l)[i]?=some u->∃ v,l[i]?=some v/\u=v.leaf f
 | [],i,u,h=>by simp[SV.kY] at h
 | x::r,0,u,h=>by simp[SV.kY] at h;exact⟨x,rfl,h.symm⟩
 | x::r,i+1,u,h=>by
   simp only[SV.kY,List.getElem?_cons_succ] at h
   obtain⟨v,h1,h2⟩:=SV.Bx h
   exact⟨v,by simpa using h1,h2⟩
def au.eK (g:Nat->Nat):au->au
 | .ref k f=>.ref (g k) f
 | .cn k w z f n c=>.cn (g k) w z f n c
 | c=>c
def bU.eK (g:Nat->Nat):bU->bU
 | .ref k f=>.ref (g k) f
 | c=>c
theorem au.kJ (g E:Nat->Nat)(c:au)(i:Nat):((c.eK g).at i).val E=(c.at i).val E:=by cases c<;>rfl
theorem bU.Mg (g:Nat->Nat)(c:bU)(a:Nat):(c.eK g).at a=(c.at a).eK g:=by cases c<;>rfl
def aV.eK (g:Nat->Nat):aV->aV
 | .ref k f=>.ref (g k) f
 | c=>c
theorem aV.kJ (g:Nat->Nat)(c:aV)(s:List UInt8):(c.eK g).val s=c.val s:=by cases c<;>rfl
def SB.told (f:SV->SV)(g:Nat->Nat):SB->SB
 | .cells cs tot ty=>.cells (SV.kY f cs) tot ty
 | .rows z n av ro tot ty=>.rows z n (av.map (au.eK g)) ro tot ty
 | .view z o n av=>.view z o n (av.map (au.eK g))
 | .iw D cs tot ty ro=>.iw D (cs.map (au.eK g)) tot ty ro
 | .dI D n av ro=>.dI D n (av.map (bU.eK g)) ro
 | .fmap d c p=>.fmap d (c.eK g) p
 | B=>B
theorem rP {g:Nat->Nat}{l:List au}{k:Nat}{c:au}(h:(l.map (au.eK g))[k]?=some c): ∃ c0,l[k]?=some c0/\c=c0.eK g:=by
 rw[List.getElem?_map] at h
 cases hc:l[k]? with
 | none=>rw[hc] at h;cases h
 | some c0=>rw[hc] at h;injection h with h;exact⟨c0,rfl,h.symm⟩
theorem vV {E g:Nat->Nat}{z:Bool}{o n:Nat}{av:List au}{ob:Obj}(h:bn E (.view z o n av) ob):bn E (.view z o n (av.map (au.eK g))) ob:=by
 obtain⟨c,ty,fr,h1,h2⟩:=h
 refine⟨c,ty,fr,h1,fun i k col hi hk=> ?_⟩
 obtain⟨c0,g1,rfl⟩:=rP hk
 rw[List.length_map,au.kJ];exact h2 i k c0 hi g1
theorem SB.Tt {f:SV->SV}{E:Nat->Nat}(hf:Says f E)(g:Nat->Nat)(B:SB)(b a:Nat)(ha:(B.told f g).eO b a):B.eO b a/\(∀ o,bn E (B.el a) o->bn E ((B.told f g).el a) o)/\((B.told f g).ro=false->B.ro=false):=by
 cases B with
 | cells cs tot ty =>
   refine⟨ha,fun o ⟨c,fr,h1,h2,h3,h4⟩=>⟨c,fr,h1,h2,fun i u hu=> ?_,h4⟩,id⟩
   obtain⟨v,g1,rfl⟩:=SV.Bx hu
   rw[SV.tq hf];exact h3 i v g1
 | rows z n av ro tot ty =>
   refine⟨ha,fun o ⟨c,fr,h1,h2,h3,h4,h5⟩=>⟨c,fr,h1,h2,by rw[List.length_map];exact h3,h4,fun i k col hi hk=> ?_⟩,id⟩
   obtain⟨c0,g1,rfl⟩:=rP hk
   rw[List.length_map,au.kJ];exact h5 i k c0 hi g1
 | view z o n av=>exact⟨ha,fun _ h=>vV h,id⟩
 | iw D cs tot ty ro =>
   refine⟨ha,fun o ⟨c,fr,h1,h2,h3,h4⟩=>⟨c,fr,h1,h2,fun i u hu=> ?_,h4⟩,id⟩
   rw[List.getElem?_map] at hu
   cases hc:(cs.map (au.eK g))[i]? with
   | none=>rw[hc] at hu;cases hu
   | some c1 =>
     rw[hc] at hu;injection hu with hu;subst hu
     obtain⟨c0,g1,rfl⟩:=rP hc
     rw[au.kJ];exact h3 i (c0.at a) (by rw[List.getElem?_map,g1];rfl)
 | dI D n av ro =>
   refine⟨ha,fun o h=> ?_,id⟩
   have:=vV (g:=g) h
   have e:(av.map (bU.eK g)).map (bU.at a)=(av.map (bU.at a)).map (au.eK g):=by
    rw[List.map_map,List.map_map];exact List.map_congr_left fun c _=>bU.Mg g c a
   show bn E (.view false 0 (n a) ((av.map (bU.eK g)).map (bU.at a))) o
   rw[e];exact this
 | loop=>exact⟨ha,fun _ h=>h,id⟩
 | map=>exact⟨ha,fun _ h=>h,id⟩
 | fmap d c p=>exact⟨ha,fun _ ⟨es,cl,h1,h2⟩=>⟨es,cl,h1,h2.st,h2.ks,fun s hs=>by rw[aV.kJ];exact h2.has s hs,h2.no,h2.pd⟩,id⟩
 | Ec=>exact⟨ha,fun _ h=>h,id⟩
def Mem.told (f:SV->SV)(g:Nat->Nat):Mem->Mem
 | []=>[]
 | e::r=>(e.1,e.2.told f g)::Mem.told f g r
theorem Mem.Fk {f:SV->SV}{g:Nat->Nat}: ∀ {m:Mem} {k:Nat} {B:SB},(Mem.told f g m).get k=some B->∃ B0,m.get k=some B0/\B=B0.told f g
 | [],_,_,h=>by cases h
 | e::r,k,B,h=>by
   by_cases he:e.1=k
   ·simp only[Mem.told,Mem.get,he,if_true] at h ⊢
    injection h with h;exact⟨_,rfl,h.symm⟩
   ·simp only[Mem.told,Mem.get,he,if_false] at h ⊢
    exact Mem.Fk h
theorem aJ.Ud {Γ E m nx w}(h:aJ Γ E m nx w){f:SV->SV}(hf:Says f E)(g:Nat->Nat):aJ Γ E (Mem.told f g m) nx w:=h.conv fun k Y hk=>by
 obtain⟨B0,h1,rfl⟩:=Mem.Fk hk
 exact⟨B0,h1,fun a ha=>SB.Tt hf g B0 _ a ha⟩
def Ef (k a:Nat):SV->SV
 | .ptr j l o=>bif Nat.beq j k then .eD k a o else .ptr j l o
 | .bw j w z i n c=>bif Nat.beq j k then .cn k w z a i n c else .bw j w z i n c
 | v=>v
theorem Hv {E:Nat->Nat}{k a:Nat}(h:E k=a):Says (Ef k a) E:=fun v=>by
 cases v<;>try exact⟨rfl,fun _ h=>h⟩
 case ptr j l o =>
  simp only[Ef]
  cases hb:Nat.beq j k with
  | true=>obtain rfl:=Nat.eq_of_beq_eq_true hb;exact⟨by simp[SV.val,h],fun _ _=>rfl⟩
  | false=>exact⟨rfl,fun _ h=>h⟩
 case bw j w z i n c =>
  simp only[Ef]
  cases hb:Nat.beq j k with
  | true=>obtain rfl:=Nat.eq_of_beq_eq_true hb;exact⟨by simp[SV.val,h],fun _ _=>rfl⟩
  | false=>exact⟨rfl,fun _ h=>h⟩
def DF (h:Nat):SV->Option au
 | .int k _ n=>some (.int k fun _=>n)
 | .bool _ b=>some (.bool fun _=>b)
 | .str _ s=>some (.str fun _=>s)
 | .eD k a 0=>some (.ref k fun _=>a)
 | .cn k w z a 0 n c=>some (.cn k w z (fun _=>a) (fun _=>n) fun _=>c)
 | .aO=>some (.cn h 1 true (fun _=>0) (fun _=>0) fun _=>0)
 | .raw v=>some (.raw fun _=>v)
 | .bD=>some (.raw fun _=>.pointer none)
 | _=>none
theorem Ga {h:Nat}{v:SV}{c:au}(hc:DF h v=some c)(E:Nat->Nat)(a:Nat):(c.at a).val E=v.val E:=by
 unfold DF at hc
 split at hc<;>first | (injection hc with hc;subst hc;rfl) | cases hc
def n4 (h:Nat):List SV->Option (List au)
 | []=>some []
 | v::r=>match DF h v,n4 h r with
   | some c,some l=>some (c::l)
   | _,_=>none
theorem tS {h:Nat}(E:Nat->Nat)(a:Nat): ∀ {l:List SV} {cs:List au},n4 h l=some cs->(cs.map (au.at a)).map (SV.val E)=l.map (SV.val E)
 | [],cs,hc=>by simp[n4] at hc;subst hc;rfl
 | v::r,cs,hc=>by
   simp only[n4] at hc
   split at hc
   ·rename_i c l h1 h2
    injection hc with hc;subst hc
    simp only[List.map_cons,Ga h1 E a,tS E a h2]
   ·cases hc
def au.NM:au->Option bU
 | .int k f=>some (.int k fun _=>f)
 | .bool f=>some (.bool fun _=>f)
 | .str f=>some (.str fun _=>f)
 | .ref k f=>some (.ref k fun _=>f)
 | _=>none
theorem au.Qq {c:au}{d:bU}(h:c.NM=some d)(a:Nat):d.at a=c:=by
 cases c<;>simp only[au.NM] at h<;>first | (injection h with h;subst h;rfl) | cases h
def z6:List au->Option (List bU)
 | []=>some []
 | c::r=>match c.NM,z6 r with
   | some d,some l=>some (d::l)
   | _,_=>none
theorem AS (a:Nat): ∀ {l:List au} {d:List bU},z6 l=some d->d.map (bU.at a)=l
 | [],d,h=>by simp[z6] at h;subst h;rfl
 | c::r,d,h=>by
   simp only[z6] at h
   split at h
   ·rename_i x l h1 h2
    injection h with h;subst h
    simp only[List.map_cons,au.Qq h1 a,AS a h2]
   ·cases h
def JQ (h a:Nat):SB->Option SB
 | .cells cs tot ty=>(match n4 h cs with
   | some av=>some (.iw (fun b=>Nat.beq b a) av tot ty false)
   | none=>none)
 | .rows z n av false _ _=>(match z6 av with
   | some d=>some (.dI (fun b=>Nat.beq b a&& !(z&&Nat.beq n 0)) (fun _=>n) d false)
   | none=>none)
 | _=>none
theorem Qz {h a:Nat}{B F:SB}(hF:JQ h a B=some F)(E:Nat->Nat)(x:Nat)(hx:F.eO a x):B.eO a x/\(∀ o,bn E (B.el x) o->bn E (F.el x) o)/\(F.ro=false->B.ro=false):=by
 unfold JQ at hF
 split at hF
 ·rename_i cs tot ty
  split at hF
  ·rename_i av hc
   injection hF with hF;subst hF
   have hx:Nat.beq x a=true:=hx
   obtain rfl:=Nat.eq_of_beq_eq_true hx
   refine⟨⟨rfl,rfl⟩,fun o ⟨c,fr,h1,h2,h3,h4⟩=>⟨c,fr,h1,h2,fun i v hv=> ?_,h4⟩,fun _=>rfl⟩
   have e:=tS E x hc
   have:((av.map (au.at x)).map (SV.val E))[i]?=some (v.val E):=by rw[List.getElem?_map,hv];rfl
   rw[e,List.getElem?_map] at this
   cases hi:cs[i]? with
   | none=>rw[hi] at this;cases this
   | some u=>rw[hi] at this;injection this with this;rw[← this];exact h3 i u hi
  ·cases hF
 ·rename_i z n av tot ty
  split at hF
  ·rename_i d hd
   injection hF with hF;subst hF
   have hx:(Nat.beq x a&& !(z&&Nat.beq n 0))=true:=hx
   simp only[Bool.and_eq_true,Bool.not_eq_true'] at hx
   obtain rfl:=Nat.eq_of_beq_eq_true hx.1
   refine⟨⟨hx.2,rfl⟩,fun o ⟨c,fr,h1,h2,h3,h4,h5⟩=> ?_,fun _=>rfl⟩
   show bn E (.view false 0 n (d.map (bU.at x))) o
   rw[AS x hd]
   exact⟨c,ty,fr,h1,fun i k col hi hk=>by rw[Nat.zero_add];exact h5 i k col hi hk⟩
  ·cases hF
 ·cases hF
def yU (D:Nat->Bool):au->au->Option au
 | .int k f,.int k' g=>if k=k' then some (.int k fun b=>bif D b then f b else g b)else none
 | .bool f,.bool g=>some (.bool fun b=>bif D b then f b else g b)
 | .str f,.str g=>some (.str fun b=>bif D b then f b else g b)
 | .raw f,.raw g=>some (.raw fun b=>bif D b then f b else g b)
 | .ref k f,.ref _ g=>some (.ref k fun b=>bif D b then f b else g b)
 | .cn k w z f n c,.cn _ w' z' f' n' c'=>if w=w'/\z=z' then some (.cn k w z (fun b=>bif D b then f b else f' b) (fun b=>bif D b then n b else n' b) fun b=>bif D b then c b else c' b)else none
 | _,_=>none
theorem C3 {D:Nat->Bool}{c d e:au}(h:yU D c d=some e)(E:Nat->Nat)(b:Nat):(e.at b).val E=bif D b then(c.at b).val E else(d.at b).val E:=by
 unfold yU at h
 split at h<;>first
  | (injection h with h;subst h;cases hb:D b<;>simp[au.at,SV.val,hb];done)
  | (split at h
     ·rename_i e
      first | subst e | obtain⟨rfl,rfl⟩:=e
      injection h with h;subst h;cases hb:D b<;>simp[au.at,SV.val,hb]
     ·cases h)
  | cases h
def mN (D:Nat->Bool):List au->List au->Option (List au)
 | [],[]=>some []
 | c::r,d::s=>match yU D c d,mN D r s with
   | some e,some l=>some (e::l)
   | _,_=>none
 | _,_=>none
theorem qI {D:Nat->Bool}(E:Nat->Nat)(b:Nat): ∀ {c d e:List au},mN D c d=some e->(e.map (au.at b)).map (SV.val E)=bif D b then(c.map (au.at b)).map (SV.val E)else(d.map (au.at b)).map (SV.val E)
 | [],[],e,h=>by simp[mN] at h;subst h;cases D b<;>rfl
 | c::r,d::s,e,h=>by
   simp only[mN] at h
   split at h
   ·rename_i x l h1 h2
    injection h with h;subst h
    have:=qI E b h2
    simp only[List.map_cons,C3 h1 E b,this]
    cases D b<;>rfl
   ·cases h
 | [],_::_,_,h=>by cases h
 | _::_,[],_,h=>by cases h
def vz (D:Nat->Bool):bU->bU->Option bU
 | .int k f,.int k' g=>if k=k' then some (.int k fun b i=>bif D b then f b i else g b i)else none
 | .bool f,.bool g=>some (.bool fun b i=>bif D b then f b i else g b i)
 | .str f,.str g=>some (.str fun b i=>bif D b then f b i else g b i)
 | .ref k f,.ref _ g=>some (.ref k fun b i=>bif D b then f b i else g b i)
 | _,_=>none
theorem Ay {D:Nat->Bool}{c d e:bU}(h:vz D c d=some e)(E:Nat->Nat)(b i:Nat):(((e.at b).at i)).val E=bif D b then((c.at b).at i).val E else((d.at b).at i).val E:=by
 unfold vz at h
 split at h<;>first
  | (injection h with h;subst h;cases hb:D b<;>simp[bU.at,au.at,SV.val,hb];done)
  | (split at h
     ·rename_i e
      subst e
      injection h with h;subst h;cases hb:D b<;>simp[bU.at,au.at,SV.val,hb]
     ·cases h)
  | cases h
def kI (D:Nat->Bool):List bU->List bU->Option (List bU)
 | [],[]=>some []
 | c::r,d::s=>match vz D c d,kI D r s with
   | some e,some l=>some (e::l)
   | _,_=>none
 | _,_=>none
theorem oZ {D:Nat->Bool}(E:Nat->Nat)(b:Nat): ∀ {c d e:List bU},kI D c d=some e->e.length=(bif D b then c else d).length /\
  ∀(k:Nat) (x:au),(e.map (bU.at b))[k]?=some x->∃ y:au,((bif D b then c else d).map (bU.at b))[k]?=some y/\∀ i,(x.at i).val E=(y.at i).val E
 | [],[],e,h=>by simp[kI] at h;subst h;cases D b<;>exact⟨rfl,fun k x hx=>by simp at hx⟩
 | c::r,d::s,e,h=>by
   simp only[kI] at h
   split at h
   ·rename_i x l h1 h2
    injection h with h;subst h
    obtain⟨g1,g2⟩:=oZ E b h2
    have g3:=Ay h1 E b
    cases hb:D b with
    | true =>
      rw[hb] at g1 g2 g3
      refine⟨by simpa using g1,fun k x hx=> ?_⟩
      cases k with
      | zero=>simp at hx;subst hx;exact⟨c.at b,rfl,g3⟩
      | succ k=>exact g2 k x (by simpa using hx)
    | false =>
      rw[hb] at g1 g2 g3
      refine⟨by simpa using g1,fun k x hx=> ?_⟩
      cases k with
      | zero=>simp at hx;subst hx;exact⟨d.at b,rfl,g3⟩
      | succ k=>exact g2 k x (by simpa using hx)
   ·cases h
 | [],_::_,_,h=>by cases h
 | _::_,[],_,h=>by cases h
def sX:SB->SB->Option SB
 | .iw D cs tot ty ro,.iw D' cs' tot' ty' ro'=>if tot=tot'/\ty=ty'/\ro=ro' then(match mN D cs cs' with
   | some l=>some (.iw (fun b=>D b||D' b) l tot ty ro)
   | none=>none)else none
 | .dI D n av ro,.dI D' n' cols' ro'=>if ro=ro' then(match kI D av cols' with
   | some l=>some (.dI (fun b=>D b||D' b) (fun b=>bif D b then n b else n' b) l ro)
   | none=>none)else none
 | _,_=>none
theorem HN {B1 B2 F:SB}(h:sX B1 B2=some F)(E:Nat->Nat){b b1 b2 x:Nat}(hx:F.eO b x):(B1.eO b1 x/\(∀ o,bn E (B1.el x) o->bn E (F.el x) o)/\F.ro=B1.ro)∨(B2.eO b2 x/\(∀ o,bn E (B2.el x) o->bn E (F.el x) o)/\F.ro=B2.ro):=by
 unfold sX at h
 split at h
 ·rename_i D cs tot ty ro D' cs' tot' ty' ro'
  split at h
  ·rename_i e
   obtain⟨rfl,rfl,rfl⟩:=e
   split at h
   ·rename_i l hl
    injection h with h;subst h
    have hv:=qI E x hl
    have key: ∀ {c2:List au},(l.map (au.at x)).map (SV.val E)=(c2.map (au.at x)).map (SV.val E)->∀ o,bn E (.cells (c2.map (au.at x)) tot ty) o->bn E (.cells (l.map (au.at x)) tot ty) o:=by
     intro c2 e o ⟨c,fr,h1,h2,h3,h4⟩
     refine⟨c,fr,h1,h2,fun i v hv=> ?_,h4⟩
     have:((l.map (au.at x)).map (SV.val E))[i]?=some (v.val E):=by rw[List.getElem?_map,hv];rfl
     rw[e,List.getElem?_map] at this
     cases hi:(c2.map (au.at x))[i]? with
     | none=>rw[hi] at this;cases this
     | some u=>rw[hi] at this;injection this with this;rw[← this];exact h3 i u hi
    have hx:(D x||D' x)=true:=hx
    cases hd:D x with
    | true=>rw[hd] at hv;exact .inl ⟨hd,key hv,rfl⟩
    | false=>rw[hd] at hv hx;exact .inr ⟨hx,key hv,rfl⟩
   ·cases h
  ·cases h
 ·rename_i D n av ro D' n' cols' ro'
  split at h
  ·rename_i e;subst e
   split at h
   ·rename_i l hl
    injection h with h;subst h
    obtain⟨g1,g2⟩:=oZ E x hl
    have hx:(D x||D' x)=true:=hx
    have key: ∀ {c2:List bU} {n2:Nat},l.length=c2.length->(∀(k:Nat) (y:au),(l.map (bU.at x))[k]?=some y->∃ z:au,(c2.map (bU.at x))[k]?=some z/\∀ i,(y.at i).val E=(z.at i).val E)->∀ o,bn E (.view false 0 n2 (c2.map (bU.at x))) o->bn E (.view false 0 n2 (l.map (bU.at x))) o:=by
     intro c2 n2 e1 e2 o ⟨c,ty,fr,h1,h2⟩
     refine⟨c,ty,fr,h1,fun i k col hi hk=> ?_⟩
     obtain⟨z,z1,z2⟩:=e2 k col hk
     rw[List.length_map,e1,z2]
     have:=h2 i k z hi z1
     rw[List.length_map] at this;exact this
    cases hd:D x with
    | true =>
      rw[hd] at g1 g2
      refine .inl ⟨hd,fun o ho=> ?_,rfl⟩
      show bn E (.view false 0 (bif D x then n x else n' x) (l.map (bU.at x))) o
      rw[hd];exact key g1 g2 o ho
    | false =>
      rw[hd] at g1 g2 hx
      refine .inr ⟨hx,fun o ho=> ?_,rfl⟩
      show bn E (.view false 0 (bif D x then n x else n' x) (l.map (bU.at x))) o
      rw[hd];exact key g1 g2 o ho
   ·cases h
  ·cases h
 ·cases h
theorem aJ.merged {Γ E m nx w}(h:aJ Γ E m nx w){k1 k2:Nat}(hne:k1≠k2){B1 B2 F:SB}(h1:m.get k1=some B1)(h2:m.get k2=some B2)(hF:sX B1 B2=some F):aJ Γ E ((m.drop k2).put k1 F) nx w:=by
 have hg: ∀ {j Y a},((m.drop k2).put k1 F).get j=some Y->Y.eO (E j) a->∃ i X,m.get i=some X/\X.eO (E i) a/\(∀ o,bn E (X.el a) o->bn E (Y.el a) o)/\Y.ro=X.ro/\(i=j∨(i=k2/\j=k1))/\(i=k2->j=k1):=fun {j Y a} hj ha=>by
  rcases Mem.fE hj with ⟨rfl,rfl,_⟩ | ⟨_,hj⟩
  ·rcases HN hF E (b1:=E j) (b2:=E k2) ha with ⟨g1,g2,g3⟩ | ⟨g1,g2,g3⟩
   ·exact⟨j,B1,h1,g1,g2,g3,.inl rfl,fun e=>absurd e hne⟩
   ·exact⟨k2,B2,h2,g1,g2,g3,.inr ⟨rfl,rfl⟩,fun _=>rfl⟩
  ·obtain⟨g1,g2⟩:=Mem.dW hj
   exact⟨j,Y,g2,ha,fun _ h=>h,rfl,.inl rfl,fun e=>absurd e g1⟩
 refine⟨fun j Y a hj ha=> ?_,fun j j' Y Y' a hj ha hj' ha' hr=> ?_,fun j Y hj=> ?_,fun j Y a hj ha hr=> ?_,h.ext,h.cx,h.kp⟩
 ·obtain⟨i,X,g1,g2,g3,_⟩:=hg hj ha
  obtain⟨o,ho,hb⟩:=h.gi i X a g1 g2
  exact⟨o,ho,g3 o hb⟩
 ·obtain⟨i,X,g1,g2,_,g4,g5,g6⟩:=hg hj ha
  obtain⟨i',X',q1,q2,_,q4,q5,q6⟩:=hg hj' ha'
  have:=h.gk i i' X X' a g1 g2 q1 q2 (by rw[← g4,← q4];exact hr)
  subst this
  by_cases e:i=k2
  ·rw[g6 e,q6 e]
  ·rcases g5 with g5 | ⟨g5,_⟩
   ·rcases q5 with q5 | ⟨q5,_⟩
    ·exact g5.symm.trans q5
    ·exact absurd q5 e
   ·exact absurd g5 e
 ·rcases Mem.fE hj with ⟨rfl,_,_⟩ | ⟨_,hj⟩
  ·exact h.lt _ _ h1
  ·exact h.lt _ _ (Mem.dW hj).2
 ·obtain⟨i,X,g1,g2,_,g4,_⟩:=hg hj ha
  exact h.gW i X a g1 g2 (by rw[← g4];exact hr)
def xY (k2 k1:Nat):SV->SV
 | .eD j a o=>.eD (bif Nat.beq j k2 then k1 else j) a o
 | .cn j w z a i n c=>.cn (bif Nat.beq j k2 then k1 else j) w z a i n c
 | .lJ j w a i k=>.lJ (bif Nat.beq j k2 then k1 else j) w a i k
 | v=>v
theorem IX (E:Nat->Nat)(k2 k1:Nat):Says (xY k2 k1) E:=fun v=>by cases v<;>exact⟨rfl,fun _ h=>h⟩
inductive Gh where
 | name (k h:Nat)
 | merge (k1 k2:Nat)
def oT (f:SV->SV):List (Option SV)->List (Option SV)
 | []=>[]
 | some v::r=>some (v.leaf f)::oT f r
 | none::r=>none::oT f r
def SB.dom:SB->Nat->Bool
 | .iw D _ _ _ _=>D
 | .dI D _ _ _=>D
 | _=>fun _=>false
theorem SB.JC {B:SB}{a b:Nat}(h:B.dom a=true):B.eO b a:=by cases B<;>first | exact h | cases h
def MS:List Gh->List (Option SV)->Mem->(List (Option SV)->Mem->VC)->VC
 | [],tmps,m,K=>K tmps m
 | .name k h::r,tmps,m,K=>(match m.get k with
   | some B=>.all Nat fun a=>(match JQ h a B with
     | some F=>MS r (oT (Ef k a) tmps) (Mem.told (Ef k a) id (m.put k F)) K
     | none=>.fail "name: what block")
   | none=>.fail "name: no block")
 | .merge k1 k2::r,tmps,m,K=>if k1=k2 then .fail "merge: one" else(match m.get k1,m.get k2 with
   | some B1,some B2=>(match sX B1 B2 with
     | some F=>(match B1.ro with
       | false=>.imp (∀ b,B1.dom b=true->B2.dom b=false) (MS r (oT (xY k2 k1) tmps) (Mem.told (xY k2 k1) (fun j=>bif Nat.beq j k2 then k1 else j) ((m.drop k2).put k1 F)) K)
       | true=>.fail "merge: read only")
     | none=>.fail "merge: other families")
   | _,_=>.fail "merge: no family")
structure qR (E:Nat->Nat)(t t':List (Option SV)):Prop where
 len:t'.length=t.length
 get: ∀(i:Nat) (v':SV),t'[i]?=some (some v')->∃ v:SV,t[i]?=some (some v)/\v'.val E=v.val E/\∀ nx,v.wf nx=true->v'.wf nx=true
theorem qR.refl (E:Nat->Nat)(t:List (Option SV)):qR E t t:=⟨rfl,fun _i v h=>⟨v,h,rfl,fun _ h=>h⟩⟩
theorem qR.trans {E:Nat->Nat}{a b c:List (Option SV)}(h:qR E a b)(h':qR E b c):qR E a c :=
 ⟨h'.len.trans h.len,fun i v hv=>by
  obtain⟨u,h1,h2,h3⟩:=h'.get i v hv
  obtain⟨x,g1,g2,g3⟩:=h.get i u h1
  exact⟨x,g1,h2.trans g2,fun nx hx=>h3 nx (g3 nx hx)⟩⟩
theorem m8 {f:SV->SV}{E:Nat->Nat}(hf:Says f E): ∀(t:List (Option SV)),qR E t (oT f t)
 | []=>qR.refl E []
 | none::r=>by
   have:=m8 hf r
   refine⟨by simp[oT,this.len],fun i v h=> ?_⟩
   cases i with
   | zero=>simp[oT] at h
   | succ i=>exact this.get i v (by simpa [oT] using h)
 | some x::r=>by
   have:=m8 hf r
   refine⟨by simp[oT,this.len],fun i v h=> ?_⟩
   cases i with
   | zero=>simp[oT] at h;subst h;exact⟨x,rfl,SV.tq hf x,fun nx hx=>SV.CL hf x hx⟩
   | succ i=>exact this.get i v (by simpa [oT] using h)
theorem yq {K K':List (Option SV)->Mem->VC}(h: ∀ t m,(K t m).holds->(K' t m).holds): ∀ {l:List Gh} {tmps:List (Option SV)} {m:Mem},(MS l tmps m K).holds->(MS l tmps m K').holds
 | [],_,_,hh=>h _ _ hh
 | .name k x::r,tmps,m,hh=>by
   simp only[MS] at hh ⊢
   revert hh
   cases m.get k with
   | none=>exact id
   | some B =>
     intro hh a
     have hh:=hh a
     revert hh
     dsimp only
     cases JQ x a B with
     | none=>exact id
     | some F=>exact yq h
 | .merge k1 k2::r,tmps,m,hh=>by
   simp only[MS] at hh ⊢
   revert hh
   by_cases e:k1=k2
   ·rw[if_pos e,if_pos e];exact id
   ·rw[if_neg e,if_neg e]
    cases m.get k1 with
    | none=>exact id
    | some B1=>cases m.get k2 with
      | none=>exact id
      | some B2 =>
        dsimp only
        cases sX B1 B2 with
        | none=>exact id
        | some F =>
          dsimp only
          cases B1.ro with
          | true=>exact id
          | false=>exact fun hh hd=>yq h (hh hd)
theorem l9 {Γ:aY}{E:Nat->Nat}{nx:Nat}{w:World}: ∀ {l:List Gh} {tmps:List (Option SV)} {m:Mem} {K:List (Option SV)->Mem->VC},(MS l tmps m K).holds->aJ Γ E m nx w ->
  ∃ tmps' m',qR E tmps tmps'/\aJ Γ E m' nx w/\(K tmps' m').holds
 | [],tmps,m,K,h,hs=>⟨tmps,m,qR.refl E tmps,hs,h⟩
 | .name k hh::r,tmps,m,K,h,hs=>by
   simp only[MS] at h
   split at h
   ·rename_i B hB
    have h:=h (E k)
    dsimp only at h
    split at h
    ·rename_i F hF
     have hs1:aJ Γ E (m.put k F) nx w:=hs.conv fun j Y hj=>by
      rcases Mem.fE hj with ⟨rfl,rfl,_⟩ | ⟨_,hj⟩
      ·exact⟨B,hB,fun a ha=>Qz hF E a ha⟩
      ·exact⟨Y,hj,fun a ha=>⟨ha,fun _ h=>h,id⟩⟩
     have hf:=Hv (E:=E) (k:=k) rfl
     obtain⟨t',m',g1,g2,g3⟩:=l9 h (hs1.Ud hf id)
     exact⟨t',m',(m8 hf tmps).trans g1,g2,g3⟩
    ·exact h.elim
   ·exact h.elim
 | .merge k1 k2::r,tmps,m,K,h,hs=>by
   simp only[MS] at h
   split at h
   ·exact h.elim
   ·rename_i hne
    split at h
    ·rename_i B1 B2 h1 h2
     split at h
     ·rename_i F hF
      cases hro:B1.ro with
      | true=>rw[hro] at h;exact h.elim
      | false =>
        rw[hro] at h
        have hd: ∀ b,B1.dom b=true->B2.dom b=false:=fun b hb=>by
         cases hb2:B2.dom b with
         | false=>rfl
         | true=>exact absurd (hs.gk k1 k2 B1 B2 b h1 (SB.JC hb) h2 (SB.JC hb2) (.inl hro)) hne
        have hf:=IX E k2 k1
        obtain⟨t',m',g1,g2,g3⟩:=l9 (h hd) ((hs.merged hne h1 h2 hF).Ud hf _)
        exact⟨t',m',(m8 hf tmps).trans g1,g2,g3⟩
     ·exact h.elim
    ·exact h.elim
end Go.Proofs.YtoibaecagklkaaaGreatDoor.Sx
