/-
  The framework's eleventh part, ahead of calls: append on rows whose length is not known.
-/
import Derived.Test.YtoibaecagklkaaaGreatDoorMd
import Derived.Test.YtoibaecagklkaaaGreatDoorMa
open Array renaming getElem?_eq_some_iff->an,getElem?_push->b!,getElem?_toList->R,length_toList->bl,toList->cm
open Bool renaming and_eq_true->S,and_false->cB,false->H,true->G,true_and->cL
open Go.Builtin renaming append_->bn,firstCells->J,lenOf->c4
open List renaming eq_nil_of_length_eq_zero->c5,getElem?_append->c6,getElem?_cons_succ->c_,getElem?_drop->Z,getElem?_eq_getElem->ag,getElem?_eq_some_iff->V,getElem?_map->L,getElem?_take->W,length_append->c!,length_drop->d_,length_map->O,length_take->b5,map_cons->a_,map_map->d!
open Nat renaming add_assoc->ef,add_mul->M,add_zero->b6,beq->I,eq_of_beq_eq_true->a!,eq_zero_or_pos->b9,le_refl->b_,le_succ->bh,le_trans->ei,mul_le_mul_right->T,ne_of_lt->N,sub_self->ej,zero_add->Q
open Option renaming none->C,some->A
namespace Go.Proofs.YtoibaecagklkaaaGreatDoor
open Go Sx
variable {z:Bool}{K:KL}{az:List aE}{m:Mem}{a i k n n1 nx s:Nat}{E g:Nat->Nat}{B F:SB}{x y:SV}{f:SV->SV}{elem:TypeId}{c:aE}
namespace Sx
open Go
noncomputable section
structure jB (E:Nat->Nat)(s:Nat)(az:List aE)(n:Nat)(l:List Value):Prop where
 len:l.length=n*s
 wide:az.length=s
 get: ∀ i k col,i<n->az[k]?=A col->l[i*s+k]?=A ((col.at i).val E)
def aE.flat:aE->Bool
 | .raw _=>H
 | _=>G
def jf:List aE->Bool
 | []=>G
 | c::r=>c.flat&&jf r
theorem rI: ∀ {l:List aE},jf l=G->∀ {k:Nat} {c:aE},l[k]?=A c->c.flat=G
 | [],_,k,c,h=>by simp at h
 | x::r,h,k,c,hk=>by
   simp only[jf,S] at h;cases k with
   | zero=>simp at hk;subst hk;exact h.1
   | succ k=>exact rI h.2 (by simpa using hk)
theorem aE.nK (h:c.flat=G)(E:Nat->Nat)(i:Nat):((c.at i).val E).oneCell'=true:=by cases c<;>first | (cases h;done) | rfl
theorem aE.HE (h:c.flat=G)(E E':Nat->Nat)(i:Nat):(c.at i).val E=(c.at i).val E':=by cases c<;>first | (cases h;done) | rfl
theorem jB.one {l:List Value}(h:jB E s az n l)(hf:jf az=G): ∀ v∈ l,v.oneCell'=true:=by
 intro v hv;obtain⟨q,hq⟩:=List.getElem?_of_mem hv;have hql:=(V.1 hq).1;rw[h.len] at hql;have hs:0<s:=by
  rcases b9 s with e | e
  ·subst e;simp at hql
  ·exact e
 have h1:q / s<n:=(Nat.div_lt_iff_lt_mul hs).2 hql;have h2:q% s<az.length:=by rw[h.wide];exact Nat.mod_lt _ hs
 have h3:=h.get (q / s) (q% s) az[q% s] h1 (ag h2);rw[show q / s*s+q% s=q by rw[Nat.mul_comm];exact Nat.div_add_mod q s,hq] at h3;injection h3 with h3;rw[h3];exact aE.nK (rI hf (ag h2)) E _
def aE.shift (i:Nat):aE->aE
 | .int k f=>.int k (λj=>f (j+i))
 | .bool f=>.bool (λj=>f (j+i))
 | .str f=>.str (λj=>f (j+i))
 | .raw f=>.raw (λj=>f (j+i))
 | .ref k f=>.ref k (λj=>f (j+i))
 | .fc k w z f n c=>.fc k w z (λj=>f (j+i)) (λj=>n (j+i)) (λj=>c (j+i))
theorem aE.VH (i j:Nat)(c:aE):(c.shift i).at j=c.at (i+j):=by rw[Nat.add_comm];cases c<;>rfl
def eP (i:Nat)(az:List aE):List aE:=az.map (aE.shift i)
theorem nu (h:(eP i az)[k]?=A c): ∃ d,az[k]?=A d/\∀ j,c.at j=d.at (i+j):=by
 simp only[eP,L] at h;cases hc:az[k]? with
 | none=>rw[hc] at h;cases h
 | some d=>rw[hc] at h;injection h with h;subst h;exact⟨d,rfl,λj=>aE.VH _ _ _⟩
theorem gk :(eP i az).length=az.length:=by simp[eP]
theorem ML :(c.shift i).flat=c.flat:=by cases c<;>rfl
theorem jt :jf (eP i az)=jf az:=by
 simp only[eP];induction az with
 | nil=>rfl
 | cons c r ih=>simp only[a_,jf,ML,ih]
def UT (w k:Nat):Nat->List SV->Option (List SV)
 | 0,_=>A []
 | n+1,l=>match l[k]?,UT w k n (l.drop w)with
   | some v,A r=>A (v::r)
   | _,_=>C
theorem IK {w k:Nat}: ∀ {n:Nat} {l r:List SV},UT w k n l=A r->r.length=n/\∀(i:Nat),i<n->∃ v,r[i]?=A v/\l[i*w+k]?=A v
 | 0,l,r,h=>by simp[UT] at h;subst h;exact⟨rfl,λi hi=>by omega⟩
 | n+1,l,r,h=>by
   simp only[UT] at h;split at h
   ·rename_i v r' hv hr;injection h with h;subst h;obtain⟨h1,h2⟩:=IK hr;refine⟨by simp[h1],λi hi=> ?_⟩;cases i with
    | zero=>exact⟨v,rfl,by simpa using hv⟩
    | succ i =>obtain⟨u,hu1,hu2⟩:=h2 i (by omega);refine⟨u,by simpa using hu1,?_⟩;rw[Z] at hu2;rw[show(i+1)*w+k=w+(i*w+k)by rw[M];omega];exact hu2
   ·cases h
def zy:List SV->Option (List Bool)
 | []=>A []
 | .bool _ s::r=>(match zy r with
   | some l=>A (s::l)
   | none=>C)
 | _::_=>C
def adg (l:List Bool)(i:Nat):Bool:=l.getD i H
theorem yB: ∀ {cs:List SV} {l:List Bool},zy cs=A l->∀(i:Nat) (v:SV),cs[i]?=A v->∃ b,v=.bool b (adg l i)
 | [],l,h,i,v,hv=>by simp at hv
 | .bool b s::r,l,h,i,v,hv=>by
   simp only[zy] at h;split at h
   ·rename_i l' hl;injection h with h;subst h;cases i with
    | zero=>simp at hv;subst hv;exact⟨b,rfl⟩
    | succ i=>obtain⟨b',hb⟩:=yB hl i v (by simpa using hv);exact⟨b',by rw[hb];rfl⟩
   ·cases h
def zx:List SV->Option (List Nat)
 | []=>A []
 | .fY _ a 0::r=>(match zx r with
   | some l=>A (a::l)
   | none=>C)
 | _::_=>C
def adh (l:List Nat)(i:Nat):Nat:=l.getD i 0
theorem yx: ∀ {cs:List SV} {l:List Nat},zx cs=A l->∀(i:Nat) (v:SV),cs[i]?=A v->∃ k,v=.fY k (adh l i) 0
 | [],l,h,i,v,hv=>by simp at hv
 | .fY k a 0::r,l,h,i,v,hv=>by
   simp only[zx] at h;split at h
   ·rename_i l' hl;injection h with h;subst h;cases i with
    | zero=>simp at hv;subst hv;exact⟨k,rfl⟩
    | succ i=>obtain⟨b',hb⟩:=yx hl i v (by simpa using hv);exact⟨b',by rw[hb];rfl⟩
   ·cases h
def Tf:List SV->Option aE
 | .fY k a 0::r=>(match zx (.fY k a 0::r)with
   | some l=>A (.ref k (adh l))
   | none=>C)
 | .int k b n::r=>(match tF k (.int k b n::r)with
   | some l=>A (.int k (zu l))
   | none=>C)
 | .str b s::r=>(match nw (.str b s::r)with
   | some l=>A (.str (bZ l))
   | none=>C)
 | .bool b s::r=>(match zy (.bool b s::r)with
   | some l=>A (.bool (adg l))
   | none=>C)
 | _=>C
theorem O1 {l:List SV}(h:Tf l=A c):c.flat=G/\∀(E:Nat->Nat) (i:Nat) (v:SV),l[i]?=A v->v.val E=(c.at i).val E:=by
 unfold Tf at h;split at h
 ·split at h
  ·rename_i hl;injection h with h;subst h;refine⟨rfl,λE i v hv=> ?_⟩;obtain⟨b,hb⟩:=yx hl i v hv;rw[hb];rfl
  ·cases h
 ·split at h
  ·rename_i hl;injection h with h;subst h;refine⟨rfl,λE i v hv=> ?_⟩;obtain⟨b,hb⟩:=(oP hl).2 i v hv;rw[hb];rfl
  ·cases h
 ·split at h
  ·rename_i hl;injection h with h;subst h;refine⟨rfl,λE i v hv=> ?_⟩;obtain⟨b,hb⟩:=mD hl i v hv;rw[hb];rfl
  ·cases h
 ·split at h
  ·rename_i hl;injection h with h;subst h;refine⟨rfl,λE i v hv=> ?_⟩;obtain⟨b,hb⟩:=yB hl i v hv;rw[hb];rfl
  ·cases h
 ·cases h
def Aj (w n:Nat)(cs:List SV):Nat->Option (List aE)
 | 0=>A []
 | r+1=>match UT w (w - (r+1)) n cs with
   | some l=>(match Tf l,Aj w n cs r with
     | some c,A az=>A (c::az)
     | _,_=>C)
   | none=>C
theorem Ak {w n:Nat}{cs:List SV}: ∀ {r:Nat} {az:List aE},r<=w->Aj w n cs r=A az->az.length=r/\jf az=G /\
  ∀(E:Nat->Nat) (i j:Nat) (col:aE),i<n->az[j]?=A col->∃ v,cs[i*w+(w - r+j)]?=A v/\v.val E=(col.at i).val E
 | 0,az,_,h=>by simp[Aj] at h;subst h;exact⟨rfl,rfl,λE i j col _ hj=>by simp at hj⟩
 | r+1,az,hw,h=>by
   simp only[Aj] at h;split at h
   ·rename_i l hl;split at h
    ·rename_i c cols' hc hr;injection h with h;subst h;obtain⟨h1,h2,h3⟩:=Ak (by omega) hr;obtain⟨g1,g2⟩:=O1 hc;refine⟨by simp[h1],by simp[jf,g1,h2],λE i j col hi hj=> ?_⟩;cases j with
     | zero =>simp at hj;subst hj;obtain⟨v,hv1,hv2⟩:=(IK hl).2 i hi;exact⟨v,by simpa using hv2,g2 E i v hv1⟩
     | succ j =>obtain⟨v,hv1,hv2⟩:=h3 E i j col hi (by simpa using hj);exact⟨v,by rw[show w - (r+1)+(j+1)=w - r+j by omega];exact hv1,hv2⟩
    ·cases h
   ·cases h
def m6 (m:Mem)(s:Nat):SV->Option (Prop×Nat×Option (List aE))
 | .aK=>A (True,0,C)
 | .slc key o n _ _=>(match n with
   | 0=>A (True,0,C)
   | n+1=>(match m.get key with
     | some (.cells cs _ _)=>(match gv cs o ((n+1)*s)with
       | some l=>(match Aj s (n+1) l s with
         | some az=>A (True,n+1,A az)
         | none=>C)
       | none=>C)
     | _=>C))
 | .bx key w _ i n _=>(match m.get key with
   | some (.rows _ nb az _ _ _)=>if w=s/\az.length=s/\jf az=G then A (i+n<=nb,n,A (eP i az))else C
   | _=>C)
 | .fc key w _ a i n _=>(match m.get key with
   | some (.j8 D nf az _)=>if w=s/\(az.map (dx.at a)).length=s/\jf (az.map (dx.at a))=G then A (0<n->D a=G/\i+n<=nf a,n,A (eP i (az.map (dx.at a))))else C
   | _=>C)
 | .str _ l=>if s=1 then A (True,l.length,A [.int .u8 (λj=>((l.getD j 0).toNat:Int))])else C
 | _=>C
theorem adI :I n 0=G↔n=0:=by cases n<;>simp
theorem yY {P:Program}{Γ E m nx w}(hs:aO Γ E m nx w){p:Prop}{oc:Option (List aE)}(h:m6 m s x=A (p,n,oc))(hp:p) :
  ∃ l:List Value,(c4 (x.val E)).run P w=.ok n w/\(∀ k,(J s n (x.val E)).run P {w with drawn:=k}=.ok l.toArray {w with drawn:=k})/\l.length=n*s /\
    (∀ az,oc=A az->jB E s az n l/\jf az=G)/\(oc=C->n=0):=by
 unfold m6 at h;split at h
 ·injection h with h;injection h with h1 h2;injection h2 with h2 h3;subst h2;subst h3;exact⟨[],rfl,λk=>by simp[SV.val,J],by simp,(λ_ h=>by cases h),λ_=>rfl⟩
 ·rename_i key o n' cl c;split at h
  ·injection h with h;injection h with h1 h2;injection h2 with h2 h3;subst h2;subst h3;refine⟨[],rfl,λk=> ?_,by simp,(λ_ h=>by cases h),λ_=>rfl⟩;simp[SV.val,J,loadCells,loadCellsFrom]
  ·rename_i n';split at h
   ·rename_i cs tot ty hk;split at h
    ·rename_i l hl;split at h
     ·rename_i az hc;injection h with h;injection h with h1 h2;injection h2 with h2 h3;subst h2;subst h3;have hg:=c7 hl;obtain⟨ob,ho,c0,fr,rfl,_,h2,_⟩:=hs.ny key _ hk rfl;obtain⟨q1,q2,q3⟩:=Ak (b_ s) hc;refine⟨l.map (SV.val E),rfl,λk=> ?_,by rw[O,hg.1],λcols' hc'=> ?_,λh=>by cases h⟩
      ·have:=run_loadCells (P:=P) (w:={w with drawn:=k}) (b:=E key) (c:=c0) ho o (l.map (SV.val E)) (λi v hi=>by
        rw[L] at hi;cases hil:l[i]? with
        | none=>rw[hil] at hi;cases hi
        | some u=>rw[hil] at hi;injection hi with hi;subst hi;exact h2 _ _ (hg.2 i u hil))
       rw[O,hg.1] at this;simp only[SV.val,J,this]
      ·injection hc' with hc';subst hc';refine⟨⟨by rw[O,hg.1],q1,λi k col hi hk=> ?_⟩,q2⟩;obtain⟨v,hv1,hv2⟩:=q3 E i k col hi hk;rw[ej,Q] at hv1;rw[L,hv1,← hv2];rfl
     ·cases h
    ·cases h
   ·cases h
 ·rename_i key w' z i n' c;split at h
  ·rename_i zb nb az ro tot ty hk;split at h
   ·rename_i hc;obtain⟨rfl,hcl,hf⟩:=hc;injection h with h;injection h with h1 h2;injection h2 with h2 h3;subst h1;subst h2;subst h3;rcases b9 n' with e | e
    ·subst e;refine⟨[],rfl,λk=> ?_,by simp,λcols' hc'=> ?_,λh=>by cases h⟩
     ·simp only[SV.val];cases z<;>simp[J,loadCells,loadCellsFrom]
     ·injection hc' with hc';subst hc';exact⟨⟨by simp,by rw[gk];exact hcl,λi k col hi _=>by omega⟩,by rw[jt];exact hf⟩
    ·have hno:(SB.rows zb nb az ro tot ty).no=false:=SB.jk (i:=0) (by omega);obtain⟨ob,ho,c0,fr,rfl,_,h1,_,h2⟩:=hs.ny key _ hk hno;rw[hcl] at h1 h2;have hle:i*w'+n'*w'<=c0.size:=by rw[← M];exact ei (T w' hp) h1
     have hbeq:I n' 0=false:=by cases n' with
      | zero=>omega
      | succ n=>rfl
     have hlen:((c0.toList.drop (i*w')).take (n'*w')).length=n'*w':=by rw[b5,d_,bl];omega
     refine⟨(c0.toList.drop (i*w')).take (n'*w'),rfl,λk=> ?_,hlen,λcols' hc'=> ?_,λh=>by cases h⟩
     ·have:=run_loadCells (P:=P) (w:={w with drawn:=k}) (b:=E key) (c:=c0) ho (i*w') ((c0.toList.drop (i*w')).take (n'*w')) (λj v hj=>by
       rw[W] at hj;split at hj
       ·rw[Z,R] at hj;exact hj
       ·cases hj)
      rw[hlen] at this;simp only[SV.val,hbeq,cB,cond_false,J,this]
     ·injection hc' with hc';subst hc';refine⟨⟨hlen,by rw[gk];exact hcl,λj k col hj hk=> ?_⟩,by rw[jt];exact hf⟩;obtain⟨d,hd1,hd2⟩:=nu hk;have hkl:k<w':=by have:=(V.1 hd1).1;omega
      have hlt:j*w'+k<n'*w':=by have:(j+1)*w'<=n'*w':=T w' hj;rw[M] at this;omega
      rw[hd2,W,if_pos hlt,Z,R];have:=h2 (i+j) k d (by omega) hd1;rw[M] at this;rw[← ef];exact this
   ·cases h
  ·cases h
 ·rename_i key w' z a i n' c;split at h
  ·rename_i D nf az ro hk;split at h
   ·rename_i hc;obtain⟨rfl,hcl,hf⟩:=hc;injection h with h;injection h with h1 h2;injection h2 with h2 h3;subst h1;subst h2;subst h3;rcases b9 n' with e | e
    ·subst e;refine⟨[],rfl,λk=> ?_,by simp,λcols' hc'=> ?_,λh=>by cases h⟩
     ·simp only[SV.val];cases z<;>simp[J,loadCells,loadCellsFrom]
     ·injection hc' with hc';subst hc';exact⟨⟨by simp,by rw[gk];exact hcl,λi k col hi _=>by omega⟩,by rw[jt];exact hf⟩
    ·obtain⟨hD,hin⟩:=hp e;obtain⟨ob,ho,c0,ty,fr,rfl,h2⟩:=hs.gD key _ a hk hD;rw[hcl] at h2
     have hbeq:I n' 0=false:=by cases n' with
      | zero=>omega
      | succ n=>rfl
     have hs0:0<w'∨w'=0:=by omega
     have hlen:((c0.toList.drop (i*w')).take (n'*w')).length=n'*w':=by
      rcases hs0 with hs0 | hs0
      ·have hcol: ∃ col,(az.map (dx.at a))[w' - 1]?=A col:=⟨_,ag (by omega)⟩
       obtain⟨col,hcol⟩:=hcol;have:=(an.1 (h2 (i+n' - 1) (w' - 1) col (by omega) hcol)).1;rw[Q] at this;have e2:(i+n' - 1)*w'+w'=i*w'+n'*w':=by rw[← M,← Nat.succ_mul];congr 1;omega
       rw[b5,d_,bl];omega
      ·subst hs0;simp
     refine⟨(c0.toList.drop (i*w')).take (n'*w'),rfl,λk=> ?_,hlen,λcols' hc'=> ?_,λh=>by cases h⟩
     ·have:=run_loadCells (P:=P) (w:={w with drawn:=k}) (b:=a) (c:=c0) ho (i*w') ((c0.toList.drop (i*w')).take (n'*w')) (λj v hj=>by
       rw[W] at hj;split at hj
       ·rw[Z,R] at hj;exact hj
       ·cases hj)
      rw[hlen] at this;simp only[SV.val,hbeq,cB,cond_false,J,this]
     ·injection hc' with hc';subst hc';refine⟨⟨hlen,by rw[gk];exact hcl,λj k col hj hk=> ?_⟩,by rw[jt];exact hf⟩;obtain⟨d,hd1,hd2⟩:=nu hk;have hkl:k<w':=by have:=(V.1 hd1).1;omega
      have hlt:j*w'+k<n'*w':=by have:(j+1)*w'<=n'*w':=T w' hj;rw[M] at this;omega
      rw[hd2,W,if_pos hlt,Z,R];have:=h2 (i+j) k d (by omega) hd1;rw[M,Q] at this;rw[← ef];exact this
   ·cases h
  ·cases h
 ·rename_i l s';split at h
  ·rename_i e;subst e;injection h with h;injection h with h1 h2;injection h2 with h2 h3;subst h2;subst h3;refine⟨s'.map λb=>Value.int .u8 b.toNat,by simp[SV.val,c4,ByteArray.size],λk=> ?_,by simp,λcols' hc'=> ?_,λh=>by cases h⟩
   ·simp only[SV.val,J,Sem.run_pure];congr 1;have:(ByteArray.mk s'.toArray).extract 0 s'.length=ByteArray.mk s'.toArray:=by rw[show s'.length=(ByteArray.mk s'.toArray).size by simp[ByteArray.size]];exact ByteArray.extract_zero_size
    rw[this];simp
   ·injection hc' with hc';subst hc';refine⟨⟨by simp,rfl,λi k col hi hk=> ?_⟩,rfl⟩;cases k with
    | succ k=>simp at hk
    | zero =>simp at hk;subst hk;simp[aE.at,SV.val,hi]
  ·cases h
 ·cases h
def aE.cat (n:Nat):aE->aE->Option aE
 | .int k f,.int k' g=>if k=k' then A (.int k (λj=>if j<n then f j else g (j - n)))else C
 | .str f,.str g=>A (.str (λj=>if j<n then f j else g (j - n)))
 | .bool f,.bool g=>A (.bool (λj=>if j<n then f j else g (j - n)))
 | .ref k f,.ref _ g=>A (.ref k (λj=>if j<n then f j else g (j - n)))
 | _,_=>C
theorem aE.aak {d e:aE}(h:aE.cat n c d=A e):e.flat=G/\∀(E:Nat->Nat) (j:Nat),(e.at j).val E=if j<n then(c.at j).val E else(d.at (j - n)).val E:=by
 unfold aE.cat at h;split at h
 ·split at h
  ·rename_i hk;subst hk;injection h with h;subst h;exact⟨rfl,λE j=>by simp only[aE.at];split<;>rfl⟩
  ·cases h
 ·injection h with h;subst h;exact⟨rfl,λE j=>by simp only[aE.at];split<;>rfl⟩
 ·injection h with h;subst h;exact⟨rfl,λE j=>by simp only[aE.at];split<;>rfl⟩
 ·injection h with h;subst h;exact⟨rfl,λE j=>by simp only[aE.at,SV.val];split<;>rfl⟩
 ·cases h
def rE (n:Nat):List aE->List aE->Option (List aE)
 | [],[]=>A []
 | c::cs,d::ds=>(match aE.cat n c d,rE n cs ds with
   | some e,A es=>A (e::es)
   | _,_=>C)
 | _,_=>C
theorem qg {n:Nat}: ∀ {c d e:List aE},rE n c d=A e->e.length=c.length/\e.length=d.length/\jf e=G /\
  ∀(k:Nat) (col:aE),e[k]?=A col->∃ a b,c[k]?=A a/\d[k]?=A b/\∀(E:Nat->Nat) (j:Nat),(col.at j).val E=if j<n then(a.at j).val E else(b.at (j - n)).val E
 | [],[],e,h=>by simp[rE] at h;subst h;exact⟨rfl,rfl,rfl,λk col hk=>by simp at hk⟩
 | c::cs,d::ds,e,h=>by
   simp only[rE] at h;split at h
   ·rename_i x es hx hes;injection h with h;subst h;obtain⟨h1,h2,h3,h4⟩:=qg hes;obtain⟨g1,g2⟩:=aE.aak hx;refine⟨by simp[h1],by simp[h2],by simp[jf,g1,h3],λk col hk=> ?_⟩;cases k with
    | zero=>simp at hk;subst hk;exact⟨c,d,rfl,rfl,g2⟩
    | succ k=>exact h4 k col (by simpa using hk)
   ·cases h
 | [],_::_,_,h=>by cases h
 | _::_,[],_,h=>by cases h
theorem jB.cat {n2:Nat}{c1 c2 c:List aE}{l1 l2:List Value}(h1:jB E s c1 n1 l1)(h2:jB E s c2 n2 l2)(h:rE n1 c1 c2=A c) :
  jB E s c (n1+n2) (l1++l2):=by
 obtain⟨g1,g2,g3,g4⟩:=qg h;refine⟨by rw[c!,h1.len,h2.len,M],by rw[g1,h1.wide],λi k col hi hk=> ?_⟩;obtain⟨a,b,ha,hb,hat⟩:=g4 k col hk;have hks:k<s:=by have:=(V.1 hk).1;rw[g1,h1.wide] at this;exact this
 rw[hat,c6,h1.len];by_cases hlt:i<n1
 ·have:(i+1)*s<=n1*s:=T s hlt;rw[M] at this;rw[if_pos hlt,if_pos (by omega)];exact h1.get i k a hlt ha
 ·have:n1*s<=i*s:=T s (by omega);rw[if_neg hlt,if_neg (by omega)];have:=h2.get (i - n1) k b (by omega) hb;rw[Nat.sub_mul] at this;rw[← this];congr 1;omega
def AL (n:Nat):Option (List aE)->Option (List aE)->Option (List aE)
 | some c,A d=>rE n c d
 | some c,C=>A c
 | none,A d=>A d
 | none,C=>C
theorem Ck {n2:Nat}{o1 o2:Option (List aE)}{c:List aE}{l1 l2:List Value}(h:AL n1 o1 o2=A c)
  (h1: ∀ az,o1=A az->jB E s az n1 l1/\jf az=G) (h1':o1=C->n1=0) (e1:l1.length=n1*s)
  (h2: ∀ az,o2=A az->jB E s az n2 l2/\jf az=G) (h2':o2=C->n2=0) (e2:l2.length=n2*s):jB E s c (n1+n2) (l1++l2)/\jf c=true:=by
 unfold AL at h;split at h
 ·exact⟨jB.cat (h1 _ rfl).1 (h2 _ rfl).1 h,(qg h).2.2.1⟩
 ·injection h with h;subst h;have:=h2' rfl;subst this;have:l2=[]:=c5 (by simpa using e2);subst this;rw[List.append_nil,b6];exact h1 _ rfl
 ·injection h with h;subst h;have:=h1' rfl;subst this;have:l1=[]:=c5 (by simpa using e1);subst this;rw[List.nil_append,Q];exact h2 _ rfl
 ·cases h
def yU (elem:TypeId)(s:Nat)(z:Bool)(n:Nat)(az:List aE)(m:Mem)(nx:Nat)(K:KL):VC :=.all Nat λc=>.imp (n<=c) (K (A (.bx nx s z 0 n c)) ((nx,.rows z n az H (c*s) elem)::m) (nx+1))
def z7 (elem:TypeId)(s:Nat)(x:SV)(n0 n:Nat)(az:List aE)(m:Mem)(nx:Nat)(K:KL):VC :=
 match x with
 | .aK=>yU elem s G n az m nx K
 | .slc key 0 _ _ c=>(match m.get key with
   | some (.cells cs tot ty)=>if cs.length=n0*s/\ty=elem then .and (jG tot (c*s)) (yU elem s H n az (m.drop key) nx K)else .fail "append: another block"
   | _=>.fail "append: no such block")
 | .bx key _ z 0 _ c=>(match m.get key with
   | some (.rows zb _ _ H tot ty)=>if zb=z/\ty=elem then .and (jG tot (c*s)) (yU elem s z n az (m.drop key) nx K)else .fail "append: another row"
   | _=>.fail "append: no row")
 | _=>.fail "append: to what"
def iW (P:Program)(elem:TypeId)(s:Nat)(x y:SV)(m:Mem)(nx:Nat)(K:KL):VC :=
 match bytes P elem,fX P elem,m6 m s x,m6 m s y with
 | some by_,A z,A (p0,n0,o0),A (p1,n1,o1)=>(match AL n0 o0 o1 with
   | some az=>if(z.plain&&decide (z.cells.length=s)&&decide (s≠0))=G then
      .and (.atom (p0/\p1/\2*(n0+n1)*by_<=281474976710656/\n0+n1<9223372036854775808)) (z7 elem s x n0 (n0+n1) az m nx K)else .fail "append: sizes"
   | none=>.fail "append: no columns")
 | _,_,_,_=>.fail "append: rows"
section
variable {P : Program} {Γ : bg}
theorem getSet (c:Array Value)(off:Nat)(vs:List Value)(h:off+vs.length<=c.size)(q:Nat) :
  (eJ c off vs)[q]?=if off<=q/\q<off+vs.length then vs[q - off]? else c[q]?:=by
 rw[← R,gj];have key: ∀(vs l:List Value) (off:Nat),off+vs.length<=l.length->(bf l off vs)[q]?=if off<=q/\q<off+vs.length then vs[q - off]? else l[q]?:=by
  intro vs;induction vs with
  | nil=>intro l off h;simp only[bf,List.length_nil,b6];rw[if_neg (by omega)]
  | cons v r ih =>
    intro l off h;simp only[List.length_cons] at h ⊢;simp only[bf];rw[ih _ _ (by simp;omega)];by_cases h1:off+1<=q/\q<off+1+r.length
    ·rw[if_pos h1,if_pos (by omega),show q - off=(q - (off+1))+1 by omega,c_]
    ·rw[if_neg h1,List.getElem?_set];by_cases h2:off=q
     ·subst h2;rw[if_pos rfl,if_pos (by omega),if_pos (by omega),ej];rfl
     ·rw[if_neg h2,if_neg (by omega)]
 have e:c.toList[q]?=c[q]?:=R;rw[key _ _ _ (by simpa using h),e]
theorem Vv {Γ E m nx w}(hs:aO Γ E m nx w)(hw:Mem.wf nx m=G){m':Mem}(hsub: ∀ k B,m'.get k=A B->m.get k=A B)(hk:(yU elem s z n az m' nx K).holds)
  {l:List Value} (hl:jB E s az n l) (hf:jf az=G) {c:Nat} (hc:n<=c) (hpos:0<n) {a rest:Array Value} (ha:a=l.toArray) (hr:rest.size=(c - n)*s) :
  bF K Γ E nx (.slice (A ⟨w.heap.size,0,C⟩) n c) {w with drawn:=w.drawn+1,heap:=w.heap.push (.cells (a++rest) elem)}:=by
 subst ha
 have hb:I n 0=false:=by cases n with
  | zero=>omega
  | succ n=>rfl
 have hs':=hs.drew (w.drawn+1);refine⟨λk=>if k=nx then w.heap.size else E k,A (.bx nx s z 0 n c),_,_,λk hk=>by simp[N hk],bh _,λv hv=>by injection hv with hv;subst hv;simp[SV.val,hb],?_,hk c hc⟩
 refine hs'.push hw hsub (λk X a hk hn=>N (hs.W7 (hsub k X hk) hn)) (λi hi hlt=> ?_) ⟨hs.ext.os,hs.ext.tape,hs.ext.output,?_,λk hk hm=> ?_⟩ (λ_ _=>.inr hs.ext.size) (λD hD=>N (an.1 (hs.kp D hD)).1) (λ_=>⟨_,by simp;rfl,?_⟩) rfl
 ·show(w.heap.push _)[i]?=_;rw[b!,if_neg hi]
 ·have:=hs.ext.size;simp;omega
 ·show(w.heap.push _)[k]?=_;have:=hs.ext.size;rw[b!,if_neg (by omega)];exact hs.ext.block k hk hm
 ·refine⟨l.toArray++rest,(0,0),rfl,λ_ i=>.inr (by simp),?_,?_,λi k col hi hk=> ?_⟩
  ·simp[hl.len,hl.wide]
  ·simp only[Array.size_append,List.size_toArray,hl.len,hr,← M];congr 1;omega
  ·rw[hl.wide,aE.HE (rI hf hk) _ E];have:=hl.get i k col hi hk;rw[Array.getElem?_append_left (by simpa using (V.1 this).1)];simpa using this
theorem Vw {Γ E m nx w}(hs:aO Γ E m nx w)(hw:Mem.wf nx m=G){n0:Nat}{key:Nat}(hk:m.get key=A B)(hn:B.no=H)(hro:B.ro=H)
  (h:(yU elem s z (n0+n1) az (m.drop key) nx K).holds) {old new:List Value} (hl:jB E s az (n0+n1) (old++new)) (hol:old.length=n0*s) (hnl:new.length=n1*s) (hf:jf az=G)
  {c0:Array Value} {fr:Nat×Nat} (ho:w.heap[E key]?=A (.cells c0 elem fr)) (hfr: ∀ i,c0.size<=i∨¬ (fr.1<=i/\i<fr.2)) {c:Nat} (hc:n0+n1<=c) (hsz:c0.size=c*s)
  (hold: ∀ q,q<n0*s->c0[q]?=old[q]?) (hz:(z&&I (n0+n1) 0)=H) :
  ∃ w',(storeCells ⟨E key,n0*s,C⟩ new).run P w=.ok () w'/\bF K Γ E nx (.slice (A ⟨E key,0,C⟩) (n0+n1) c) w':=by
 have hcs:n0*s+n1*s<=c0.size:=by rw[hsz,← M];exact T s hc
 have hrun:=dr (P:=P) (o:=n0*s) new 0 w c0 ho hfr (by omega) (λv hv=>hl.one hf v (List.mem_append_right _ hv))
 refine⟨_,hrun,λj=>if j=nx then E key else E j,A (.bx nx s z 0 (n0+n1) c),_,_,λk hk'=>by simp[N hk'],bh _,
  λv hv=>by injection hv with hv;subst hv;simp[SV.val,hz],hs.move hw hk hn hro ?_,h c hc⟩
 refine⟨_,fr,rfl,λ_=>by rw[bV];exact hfr,?_,?_,λi k col hi hk=> ?_⟩
 ·rw[bV,hl.wide,M];exact hcs
 ·rw[bV];exact hsz
 ·rw[hl.wide,aE.HE (rI hf hk) _ E];have hg:=hl.get i k col hi hk;rw[getSet _ _ _ (by omega),← hg,c6,hol,b6];by_cases hlt:i*s+k<n0*s
  ·rw[if_pos hlt,if_neg (by omega)];exact hold _ hlt
  ·rw[if_neg hlt,if_pos];refine⟨by omega,?_⟩;have:=(V.1 hg).1;rw[c!,hol] at this;omega
theorem AS {ats:Array TypeId}{ty t0 t1:TypeId}{d:TypeDesc}(h0:ats[0]?=A t0)(h1:ats[1]?=A t1)(hd:P.underlying t0=A (.slice elem))(hd1:P.underlying t1=A d)(hni:xL d=G)
  (hsz:sz P elem=A s)   {Γ:bg}  {w:World}
  (h:(iW P elem s x y m nx K).holds) (hs:aO Γ E m nx w) (hw:Mem.wf nx m=G) :
  ∃ r w',(bn ats ty #[x.val E,y.val E]).run P w=.ok r w'/\bF K Γ E nx r w':=by
 unfold iW at h;split at h
 ·rename_i by_ z p0 n0 o0 p1 n1 o1 hby hz hx hy;split at h
  ·rename_i az hcols;split at h
   ·rename_i hc;simp only[S,decide_eq_true_eq] at hc;obtain⟨⟨g1,g2⟩,g3⟩:=hc;obtain⟨⟨hp0,hp1,hb1,hb2⟩,h⟩:=h;obtain⟨old,xlen,xrun,xl,xc,xn⟩:=yY (P:=P) hs hx hp0;obtain⟨new,ylen,yrun,yl,yc,yn⟩:=yY (P:=P) hs hy hp1;obtain⟨hrows,hflat⟩:=Ck hcols xc xn xl yc yn yl;have hzr: ∀ w:World,(zeroValue elem).run P w=.ok (z.val E) w:=λw=>dG hz;have hzs:(z.val E).cells.size=s:=by rw[SV.ff g1];simp[g2]
    have hnew:(J s n1 (y.val E)).run P w=.ok new.toArray w:=yrun w.drawn
    have grow: ∀(base:Option Addr) (c:Nat) (z:Bool) (m':Mem),x.val E=.slice base n0 c->(∀ k B,m'.get k=A B->m.get k=A B)->c<n0+n1->(yU elem s z (n0+n1) az m' nx K).holds ->
      ∃ r w',(bn ats ty #[x.val E,y.val E]).run P w=.ok r w'/\bF K Γ E nx r w':=by
     intro base c z m' hxv hsub hlt hk;rw[hxv] at xrun ⊢;obtain⟨c',rest,q1,q2,q3⟩:=mH (w:=w) (ty:=ty) (base:=base) (n0:=n0) (c:=c) h0 h1 hd hd1 hni hsz hby hzr hzs ylen xrun yrun hlt (by omega) (by omega);exact⟨_,_,q3,Vv hs hw hsub hk hrows hflat q1 (by omega) (by simp) q2⟩
    unfold z7 at h;split at h
    ·
     by_cases hn:n1=0
     ·subst hn;simp only[m6] at hx;injection hx with hx;injection hx with e1 e2;injection e2 with e2 e3;subst e2;have hnn:(SB.rows G (0+0) az H (0*s) elem).no=true:=rfl
      refine⟨_,_,append_nil h0 h1 hd hd1 hni hsz ylen hnew,λk=>if k=nx then w.heap.size else E k,A (.bx nx s G 0 (0+0) 0),_,_,λk hk=>by simp[N hk],bh _,λv hv=>by injection hv with hv;subst hv;rfl,
       hs.push hw (λ_ _ h=>h) (λk X a hk ha=>N (hs.W7 hk ha)) (λi _ _=>rfl) hs.ext (λhn=>by rw[hnn] at hn;cases hn) (λD hD=>N (an.1 (hs.kp D hD)).1) (λhn=>by rw[hnn] at hn;cases hn) rfl,h 0 (b_ _)⟩
     ·simp only[m6] at hx;injection hx with hx;injection hx with e1 e2;injection e2 with e2 e3;subst e2;exact grow C 0 G m rfl (λ_ _ h=>h) (by omega) h
    ·
     rename_i key n' cl c;have hn':n'=n0:=by
      simp only[m6] at hx;split at hx
      ·injection hx with hx;injection hx with _ hx;injection hx with hx _
      ·split at hx
       ·split at hx
        ·split at hx
         ·injection hx with hx;injection hx with _ hx;injection hx with hx _
         ·cases hx
        ·cases hx
       ·cases hx
     subst hn';split at h
     ·rename_i cs tot ty' hk;split at h
      ·rename_i hcs;obtain⟨hcl,rfl⟩:=hcs;obtain⟨htot,h⟩:=h;have htot:tot=c*s:=htot;by_cases hle:n'+n1<=c
       ·obtain⟨ob,ho,c0,fr,rfl,f1,f2,f3⟩:=hs.ny key _ hk rfl;have hf0:=xrun w.drawn;have hold: ∀ q,q<n'*s->c0[q]?=old[q]?:=by
         have hr:=run_loadCells (P:=P) (w:={w with drawn:=w.drawn}) (b:=E key) (c:=c0) ho 0 ((cs.map (SV.val E))) (λj v hj=>by
          rw[L] at hj;cases hjl:cs[j]? with
          | none=>rw[hjl] at hj;cases hj
          | some u=>rw[hjl] at hj;injection hj with hj;subst hj;rw[Q];exact f2 j u hjl)
         rw[O,hcl] at hr;simp only[SV.val,J] at hf0;rw[hr] at hf0;injection hf0 with hf0;have hol:old=cs.map (SV.val E):=by have:=congrArg cm hf0;simpa using this.symm
         intro q hq;have hql:q<cs.length:=by omega
         rw[hol,L,ag hql,f2 q _ (ag hql)];rfl
        obtain⟨w',hrun,haft⟩:=Vw (P:=P) hs hw hk rfl rfl h hrows xl yl hflat ho f1 hle (by rw[f3,htot]) hold rfl;exact⟨_,w',rC (o:=0) h0 h1 hd hd1 hni hsz ylen hnew hle (by rw[Q];exact hrun),haft⟩
       ·exact grow _ c H (m.drop key) rfl (λ_ _ h=>(Mem.fj h).2) (by omega) h
      ·exact h.elim
     ·exact h.elim
    ·
     rename_i key w' z' n' c;split at h
     ·rename_i zb nb cols' tot ty' hk;split at h
      ·rename_i hcs;obtain⟨rfl,rfl⟩:=hcs;obtain⟨htot,h⟩:=h;have htot:tot=c*s:=htot;simp only[m6,hk] at hx;split at hx
       ·rename_i hw';obtain⟨rfl,hwl,hwf⟩:=hw';injection hx with hx;injection hx with e1 e2;injection e2 with e2 e3;subst e1;subst e2;subst e3;cases hzn:zb&&I n' 0 with
        | true =>
          simp only[S,adI] at hzn;obtain⟨rfl,rfl⟩:=hzn;by_cases hn1:n1=0
          ·subst hn1;have hnn:(SB.rows G (0+0) az H (0*w') ty').no=true:=rfl
           refine⟨_,_,append_nil h0 h1 hd hd1 hni hsz ylen hnew,λk=>if k=nx then w.heap.size else E k,A (.bx nx w' G 0 (0+0) 0),_,_,λk hk=>by simp[N hk],bh _,λv hv=>by injection hv with hv;subst hv;rfl,
            hs.push hw (λ_ _ h=>(Mem.fj h).2) (λk X a hk ha=>N (hs.W7 (Mem.fj hk).2 ha)) (λi _ _=>rfl) hs.ext (λhn=>by rw[hnn] at hn;cases hn) (λD hD=>N (an.1 (hs.kp D hD)).1) (λhn=>by rw[hnn] at hn;cases hn) rfl,h 0 (b_ _)⟩
          ·exact grow C 0 G (m.drop key) rfl (λ_ _ h=>(Mem.fj h).2) (by omega) h
        | false =>
          have hxv:(SV.bx key w' zb 0 n' c).val E=.slice (A ⟨E key,0,C⟩) n' c:=by simp[SV.val,hzn]
          have hno:(SB.rows zb nb cols' H tot ty').no=false:=by
           cases zb with
           | false=>rfl
           | true =>
             simp only[cL] at hzn;have:n'≠0:=λe=>by rw[e] at hzn;cases hzn
             exact SB.jk (i:=0) (by omega)
          by_cases hle:n'+n1<=c
          ·obtain⟨ob,ho,c0,fr,rfl,f1,f2,f3,f4⟩:=hs.ny key _ hk hno;have hf0:=xrun w.drawn;rw[hxv] at hf0;rw[hwl] at f2;have hnb:n'*w'<=c0.size:=ei (T w' (by omega)) f2;have hold: ∀ q,q<n'*w'->c0[q]?=old[q]?:=by
            have hr:=run_loadCells (P:=P) (w:={w with drawn:=w.drawn}) (b:=E key) (c:=c0) ho 0 (c0.toList.take (n'*w')) (λj v hj=>by
             rw[W] at hj;split at hj
             ·rw[Q];rw[R] at hj;exact hj
             ·cases hj)
            rw[b5,bl,Nat.min_eq_left hnb] at hr;simp only[J] at hf0;rw[hr] at hf0;injection hf0 with hf0;have hol:old=c0.toList.take (n'*w'):=by have:=congrArg cm hf0;simpa using this.symm
            intro q hq;rw[hol,W,if_pos hq,R]
           have hz2:(zb&&I (n'+n1) 0)=false:=by
            cases zb with
            | false=>rfl
            | true =>
              simp only[cL] at hzn ⊢;cases n' with
              | zero=>cases hzn
              | succ n=>rw[show n+1+n1=(n+n1)+1 by omega];rfl
           obtain⟨w2,hrun,haft⟩:=Vw (P:=P) hs hw hk hno rfl h hrows xl yl hflat ho (f1 rfl) hle (by rw[f3,htot]) hold hz2;rw[hxv];exact⟨_,w2,rC (o:=0) h0 h1 hd hd1 hni hsz ylen hnew hle (by rw[Q];exact hrun),haft⟩
          ·exact grow _ c zb (m.drop key) hxv (λ_ _ h=>(Mem.fj h).2) (by omega) h
       ·cases hx
      ·exact h.elim
     ·exact h.elim
    ·exact h.elim
   ·exact h.elim
  ·exact h.elim
 ·exact h.elim
def ZK:SV->Bool
 | .bx .. =>G
 | _=>H
def vj (P:Program)(ats:Array TypeId)(x y:SV)(m:Mem)(nx:Nat)(K:KL):VC :=
 match ZK x||ZK y with
 | false=>zH P ats x y m nx K
 | true=>(match ats[0]?,ats[1]? with
   | some t0,A t1=>(match P.underlying t0,P.underlying t1 with
     | some (.slice elem),A d=>(match sz P elem with
       | some s=>if xL d=G then iW P elem s x y m nx K else .fail "append: make"
       | none=>.fail "append")
     | _,_=>.fail "append")
   | _,_=>.fail "append")
theorem HX {ats:Array TypeId}{ty:TypeId}{Γ:bg}{w:World}
  (h:(vj P ats x y m nx K).holds) (hs:aO Γ E m nx w) (hw:Mem.wf nx m=G) :
  ∃ r w',(bn ats ty #[x.val E,y.val E]).run P w=.ok r w'/\bF K Γ E nx r w':=by
 unfold vj at h;split at h
 ·exact Lj h hs hw
 ·split at h
  ·rename_i t0 t1 h0 h1;split at h
   ·rename_i elem d hd hd1;split at h
    ·rename_i s hsz;split at h
     ·rename_i hni;exact AS h0 h1 hd hd1 hni hsz h hs hw
     ·exact h.elim
    ·exact h.elim
   ·exact h.elim
  ·exact h.elim
theorem uk {K':KL}(hK: ∀ u m nx,(K u m nx).holds->(K' u m nx).holds) :
  (yU elem s z n az m nx K).holds->(yU elem s z n az m nx K').holds:=λh c hc=>hK _ _ _ (h c hc)
theorem xm {K':KL}(hK: ∀ u m nx,(K u m nx).holds->(K' u m nx).holds) :
  (iW P elem s x y m nx K).holds->(iW P elem s x y m nx K').holds:=by
 unfold iW;split
 ·split
  ·split
   ·refine λx=>⟨x.1,?_⟩
    have x2:=x.2;unfold z7 at x2 ⊢;split at x2
    ·exact uk hK x2
    ·split at x2
     ·split at x2
      ·rename_i hh;rw[if_pos hh];exact⟨x2.1,uk hK x2.2⟩
      ·exact x2.elim
     ·exact x2.elim
    ·split at x2
     ·split at x2
      ·rename_i hh;rw[if_pos hh];exact⟨x2.1,uk hK x2.2⟩
      ·exact x2.elim
     ·exact x2.elim
    ·exact x2.elim
   ·exact id
  ·exact id
 ·exact id
end
end
end Sx
namespace Sx
open Go
mutual
def SV.leaf (f:SV->SV):SV->SV
 | .agg l=>.agg (SV.mP f l)
 | .aD l=>.aD (SV.mP f l)
 | .iface t v=>.iface t (v.leaf f)
 | .func fn a b=>.func fn (SV.mP f a) (SV.mP f b)
 | .int k l n=>f (.int k l n)
 | .bool l b=>f (.bool l b)
 | .str l s=>f (.str l s)
 | .ptr k l o=>f (.ptr k l o)
 | .kN k w i j=>f (.kN k w i j)
 | .oB k b n i=>f (.oB k b n i)
 | .cH=>f .cH
 | .slc k o n l c=>f (.slc k o n l c)
 | .bx k w z i n c=>f (.bx k w z i n c)
 | .aS k w z o i n c=>f (.aS k w z o i n c)
 | .iD k w o i j=>f (.iD k w o i j)
 | .aK=>f .aK
 | .aA=>f .aA
 | .fk=>f .fk
 | .yield k=>f (.yield k)
 | .map k=>f (.map k)
 | .gr=>f .gr
 | .raw v=>f (.raw v)
 | .fY k a o=>f (.fY k a o)
 | .fc k w z a i n c=>f (.fc k w z a i n c)
 | .m8 k w a i j=>f (.m8 k w a i j)
def SV.mP (f:SV->SV):List SV->List SV
 | []=>[]
 | x::r=>x.leaf f::SV.mP f r
end
def Says (f:SV->SV)(E:Nat->Nat):Prop:=∀ v,(f v).val E=v.val E/\∀ nx,v.wf nx=G->(f v).wf nx=G
mutual
theorem SV.vo (h:Says f E):(v:SV)->(v.leaf f).val E=v.val E
 | .agg l=>by simp only[SV.leaf,SV.val,SV.nO h l]
 | .aD l=>by simp only[SV.leaf,SV.val,SV.nO h l]
 | .iface t v=>by simp only[SV.leaf,SV.val,SV.vo h v]
 | .func fn a b=>by simp only[SV.leaf,SV.val,SV.nO h a,SV.nO h b]
 | .int .. | .bool .. | .str .. | .ptr .. | .kN .. | .oB .. | .cH | .slc .. | .bx .. | .aS .. | .iD .. | .aK | .aA | .fk | .yield .. | .map .. | .gr | .raw .. | .fY .. | .fc .. | .m8 .. =>(h _).1
theorem SV.nO (h:Says f E):(l:List SV)->SV.vals E (SV.mP f l)=SV.vals E l
 | []=>rfl
 | x::r=>by simp only[SV.mP,SV.vals,SV.vo h x,SV.nO h r]
end
mutual
theorem SV.FG (h:Says f E):(v:SV)->v.wf nx=G->(v.leaf f).wf nx=G
 | .agg l,hw=>SV.qD h l hw
 | .aD l,hw=>SV.qD h l hw
 | .iface t v,hw=>SV.FG h v hw
 | .func fn a b,hw=>by simp only[SV.wf,S] at hw;simp only[SV.leaf,SV.wf,S];exact⟨SV.qD h a hw.1,SV.qD h b hw.2⟩
 | .int ..,hw | .bool ..,hw | .str ..,hw | .ptr ..,hw | .kN ..,hw | .oB ..,hw | .cH,hw | .slc ..,hw | .bx ..,hw | .aS ..,hw | .iD ..,hw | .aK,hw | .aA,hw | .fk,hw | .yield ..,hw | .map ..,hw | .gr,hw | .raw ..,hw | .fY ..,hw | .fc ..,hw | .m8 ..,hw=>(h _).2 nx hw
theorem SV.qD (h:Says f E):(l:List SV)->SV.e9 nx l=G->SV.e9 nx (SV.mP f l)=G
 | [],_=>rfl
 | x::r,hw=>by simp only[SV.e9,S] at hw;simp only[SV.mP,SV.e9,S];exact⟨SV.FG h x hw.1,SV.qD h r hw.2⟩
end
theorem SV.Di : ∀ {l:List SV} {i:Nat} {u:SV},(SV.mP f l)[i]?=A u->∃ v,l[i]?=A v/\u=v.leaf f
 | [],i,u,h=>by simp[SV.mP] at h
 | x::r,0,u,h=>by simp[SV.mP] at h;exact⟨x,rfl,h.symm⟩
 | x::r,i+1,u,h=>by simp only[SV.mP,c_] at h;obtain⟨v,h1,h2⟩:=SV.Di h;exact⟨v,by simpa using h1,h2⟩
def aE.gq (g:Nat->Nat):aE->aE
 | .ref k f=>.ref (g k) f
 | .fc k w z f n c=>.fc (g k) w z f n c
 | c=>c
def dx.gq (g:Nat->Nat):dx->dx
 | .ref k f=>.ref (g k) f
 | c=>c
theorem aE.lV (g E:Nat->Nat)(c:aE)(i:Nat):((c.gq g).at i).val E=(c.at i).val E:=by cases c<;>rfl
theorem dx.Pm (g:Nat->Nat)(c:dx)(a:Nat):(c.gq g).at a=(c.at a).gq g:=by cases c<;>rfl
def bL.gq (g:Nat->Nat):bL->bL
 | .ref k f=>.ref (g k) f
 | c=>c
theorem bL.lV (g:Nat->Nat)(c:bL)(s:e_):(c.gq g).val s=c.val s:=by cases c<;>rfl
def SB.told (f:SV->SV)(g:Nat->Nat):SB->SB
 | .cells cs tot ty=>.cells (SV.mP f cs) tot ty
 | .rows z n az ro tot ty=>.rows z n (az.map (aE.gq g)) ro tot ty
 | .view z o n az=>.view z o n (az.map (aE.gq g))
 | .tq D cs tot ty ro=>.tq D (cs.map (aE.gq g)) tot ty ro
 | .j8 D n az ro=>.j8 D n (az.map (dx.gq g)) ro
 | .fmap d c p=>.fmap d (c.gq g) p
 | B=>B
theorem tD {l:List aE}(h:(l.map (aE.gq g))[k]?=A c): ∃ c0,l[k]?=A c0/\c=c0.gq g:=by
 rw[L] at h;cases hc:l[k]? with
 | none=>rw[hc] at h;cases h
 | some c0=>rw[hc] at h;injection h with h;exact⟨c0,rfl,h.symm⟩
theorem yJ {o:Nat}{ob:Obj}(h:bS E (.view z o n az) ob):bS E (.view z o n (az.map (aE.gq g))) ob:=by obtain⟨c,ty,fr,h1,h2⟩:=h;refine⟨c,ty,fr,h1,λi k col hi hk=> ?_⟩;obtain⟨c0,g1,rfl⟩:=tD hk;rw[O,aE.lV];exact h2 i k c0 hi g1
theorem SB.YI (hf:Says f E)(g:Nat->Nat)(B:SB)(b a:Nat)(ha:(B.told f g).iz b a):B.iz b a/\(∀ o,bS E (B.el a) o->bS E ((B.told f g).el a) o)/\((B.told f g).ro=H->B.ro=H):=by
 cases B with
 | cells cs tot ty =>refine⟨ha,λo ⟨c,fr,h1,h2,h3,h4⟩=>⟨c,fr,h1,h2,λi u hu=> ?_,h4⟩,id⟩;obtain⟨v,g1,rfl⟩:=SV.Di hu;rw[SV.vo hf];exact h3 i v g1
 | rows z n az ro tot ty =>refine⟨ha,λo ⟨c,fr,h1,h2,h3,h4,h5⟩=>⟨c,fr,h1,h2,by rw[O];exact h3,h4,λi k col hi hk=> ?_⟩,id⟩;obtain⟨c0,g1,rfl⟩:=tD hk;rw[O,aE.lV];exact h5 i k c0 hi g1
 | view z o n az=>exact⟨ha,λ_ h=>yJ h,id⟩
 | tq D cs tot ty ro =>
   refine⟨ha,λo ⟨c,fr,h1,h2,h3,h4⟩=>⟨c,fr,h1,h2,λi u hu=> ?_,h4⟩,id⟩;rw[L] at hu;cases hc:(cs.map (aE.gq g))[i]? with
   | none=>rw[hc] at hu;cases hu
   | some c1 =>rw[hc] at hu;injection hu with hu;subst hu;obtain⟨c0,g1,rfl⟩:=tD hc;rw[aE.lV];exact h3 i (c0.at a) (by rw[L,g1];rfl)
 | j8 D n az ro =>
   refine⟨ha,λo h=> ?_,id⟩;have:=yJ (g:=g) h;have e:(az.map (dx.gq g)).map (dx.at a)=(az.map (dx.at a)).map (aE.gq g):=by rw[d!,d!];exact List.map_congr_left λc _=>dx.Pm g c a
   show bS E (.view H 0 (n a) ((az.map (dx.gq g)).map (dx.at a))) o;rw[e];exact this
 | loop=>exact⟨ha,λ_ h=>h,id⟩
 | map=>exact⟨ha,λ_ h=>h,id⟩
 | fmap d c p=>exact⟨ha,λ_ ⟨es,cl,h1,h2⟩=>⟨es,cl,h1,h2.st,h2.ks,λs hs=>by rw[bL.lV];exact h2.has s hs,h2.no,h2.pd⟩,id⟩
 | W8=>exact⟨ha,λ_ h=>h,id⟩
def Mem.told (f:SV->SV)(g:Nat->Nat):Mem->Mem
 | []=>[]
 | e::r=>(e.1,e.2.told f g)::Mem.told f g r
theorem Mem.JR : ∀ {m:Mem} {k:Nat} {B:SB},(Mem.told f g m).get k=A B->∃ B0,m.get k=A B0/\B=B0.told f g
 | [],_,_,h=>by cases h
 | e::r,k,B,h=>by
   by_cases he:e.1=k
   ·simp only[Mem.told,Mem.get,he,if_true] at h ⊢;injection h with h;exact⟨_,rfl,h.symm⟩
   ·simp only[Mem.told,Mem.get,he,if_false] at h ⊢;exact Mem.JR h
theorem aO.Z3 {Γ E m nx w}(h:aO Γ E m nx w)(hf:Says f E)(g:Nat->Nat):aO Γ E (Mem.told f g m) nx w:=h.conv λk Y hk=>by obtain⟨B0,h1,rfl⟩:=Mem.JR hk;exact⟨B0,h1,λa ha=>SB.YI hf g B0 _ a ha⟩
def Iz (k a:Nat):SV->SV
 | .ptr j l o=>bif I j k then .fY k a o else .ptr j l o
 | .bx j w z i n c=>bif I j k then .fc k w z a i n c else .bx j w z i n c
 | v=>v
theorem LX (h:E k=a):Says (Iz k a) E:=λv=>by
 cases v<;>try exact⟨rfl,λ_ h=>h⟩
 case ptr j l o =>
  simp only[Iz];cases hb:I j k with
  | true=>obtain rfl:=a! hb;exact⟨by simp[SV.val,h],λ_ _=>rfl⟩
  | false=>exact⟨rfl,λ_ h=>h⟩
 case bx j w z i n c =>
  simp only[Iz];cases hb:I j k with
  | true=>obtain rfl:=a! hb;exact⟨by simp[SV.val,h],λ_ _=>rfl⟩
  | false=>exact⟨rfl,λ_ h=>h⟩
def EH (h:Nat):SV->Option aE
 | .int k _ n=>A (.int k λ_=>n)
 | .bool _ b=>A (.bool λ_=>b)
 | .str _ s=>A (.str λ_=>s)
 | .fY k a 0=>A (.ref k λ_=>a)
 | .fc k w z a 0 n c=>A (.fc k w z (λ_=>a) (λ_=>n) λ_=>c)
 | .aK=>A (.fc h 1 G (λ_=>0) (λ_=>0) λ_=>0)
 | .raw v=>A (.raw λ_=>v)
 | .cH=>A (.raw λ_=>.pointer C)
 | _=>C
theorem G6 {h:Nat}{v:SV}(hc:EH h v=A c)(E:Nat->Nat)(a:Nat):(c.at a).val E=v.val E:=by unfold EH at hc;split at hc<;>first | (injection hc with hc;subst hc;rfl) | cases hc
def qh (h:Nat):List SV->Option (List aE)
 | []=>A []
 | v::r=>match EH h v,qh h r with
   | some c,A l=>A (c::l)
   | _,_=>C
theorem uO {h:Nat}(E:Nat->Nat)(a:Nat): ∀ {l:List SV} {cs:List aE},qh h l=A cs->(cs.map (aE.at a)).map (SV.val E)=l.map (SV.val E)
 | [],cs,hc=>by simp[qh] at hc;subst hc;rfl
 | v::r,cs,hc=>by
   simp only[qh] at hc;split at hc
   ·rename_i c l h1 h2;injection hc with hc;subst hc;simp only[a_,G6 h1 E a,uO E a h2]
   ·cases hc
def aE.Tx:aE->Option dx
 | .int k f=>A (.int k λ_=>f)
 | .bool f=>A (.bool λ_=>f)
 | .str f=>A (.str λ_=>f)
 | .ref k f=>A (.ref k λ_=>f)
 | _=>C
theorem aE.Ty {d:dx}(h:c.Tx=A d)(a:Nat):d.at a=c:=by cases c<;>simp only[aE.Tx] at h<;>first | (injection h with h;subst h;rfl) | cases h
def Av:List aE->Option (List dx)
 | []=>A []
 | c::r=>match c.Tx,Av r with
   | some d,A l=>A (d::l)
   | _,_=>C
theorem C6 (a:Nat): ∀ {l:List aE} {d:List dx},Av l=A d->d.map (dx.at a)=l
 | [],d,h=>by simp[Av] at h;subst h;rfl
 | c::r,d,h=>by
   simp only[Av] at h;split at h
   ·rename_i x l h1 h2;injection h with h;subst h;simp only[a_,aE.Ty h1 a,C6 a h2]
   ·cases h
def NH (h a:Nat):SB->Option SB
 | .cells cs tot ty=>(match qh h cs with
   | some az=>A (.tq (λb=>I b a) az tot ty H)
   | none=>C)
 | .rows z n az H _ _=>(match Av az with
   | some d=>A (.j8 (λb=>I b a&& !(z&&I n 0)) (λ_=>n) d H)
   | none=>C)
 | _=>C
theorem Ts {h:Nat}(hF:NH h a B=A F)(E:Nat->Nat)(x:Nat)(hx:F.iz a x):B.iz a x/\(∀ o,bS E (B.el x) o->bS E (F.el x) o)/\(F.ro=H->B.ro=H):=by
 unfold NH at hF;split at hF
 ·rename_i cs tot ty;split at hF
  ·rename_i az hc;injection hF with hF;subst hF;have hx:I x a=true:=hx;obtain rfl:=a! hx;refine⟨⟨rfl,rfl⟩,λo ⟨c,fr,h1,h2,h3,h4⟩=>⟨c,fr,h1,h2,λi v hv=> ?_,h4⟩,λ_=>rfl⟩;have e:=uO E x hc;have:((az.map (aE.at x)).map (SV.val E))[i]?=A (v.val E):=by rw[L,hv];rfl
   rw[e,L] at this;cases hi:cs[i]? with
   | none=>rw[hi] at this;cases this
   | some u=>rw[hi] at this;injection this with this;rw[← this];exact h3 i u hi
  ·cases hF
 ·rename_i z n az tot ty;split at hF
  ·rename_i d hd;injection hF with hF;subst hF;have hx:(I x a&& !(z&&I n 0))=true:=hx;simp only[S,Bool.not_eq_true'] at hx;obtain rfl:=a! hx.1;refine⟨⟨hx.2,rfl⟩,λo ⟨c,fr,h1,h2,h3,h4,h5⟩=> ?_,λ_=>rfl⟩;show bS E (.view H 0 n (d.map (dx.at x))) o;rw[C6 x hd];exact⟨c,ty,fr,h1,λi k col hi hk=>by rw[Q];exact h5 i k col hi hk⟩
  ·cases hF
 ·cases hF
def Bf (D:Nat->Bool):aE->aE->Option aE
 | .int k f,.int k' g=>if k=k' then A (.int k λb=>bif D b then f b else g b)else C
 | .bool f,.bool g=>A (.bool λb=>bif D b then f b else g b)
 | .str f,.str g=>A (.str λb=>bif D b then f b else g b)
 | .raw f,.raw g=>A (.raw λb=>bif D b then f b else g b)
 | .ref k f,.ref _ g=>A (.ref k λb=>bif D b then f b else g b)
 | .fc k w z f n c,.fc _ w' z' f' n' c'=>if w=w'/\z=z' then A (.fc k w z (λb=>bif D b then f b else f' b) (λb=>bif D b then n b else n' b) λb=>bif D b then c b else c' b)else C
 | _,_=>C
theorem FY {D:Nat->Bool}{d e:aE}(h:Bf D c d=A e)(E:Nat->Nat)(b:Nat):(e.at b).val E=bif D b then(c.at b).val E else(d.at b).val E:=by
 unfold Bf at h
 split at h<;>first
  | (injection h with h;subst h;cases hb:D b<;>simp[aE.at,SV.val,hb];done)
  | (split at h
     ·rename_i e
      first | subst e | obtain⟨rfl,rfl⟩:=e
      injection h with h;subst h;cases hb:D b<;>simp[aE.at,SV.val,hb]
     ·cases h)
  | cases h
def nT (D:Nat->Bool):List aE->List aE->Option (List aE)
 | [],[]=>A []
 | c::r,d::s=>match Bf D c d,nT D r s with
   | some e,A l=>A (e::l)
   | _,_=>C
 | _,_=>C
theorem sY {D:Nat->Bool}(E:Nat->Nat)(b:Nat): ∀ {c d e:List aE},nT D c d=A e->(e.map (aE.at b)).map (SV.val E)=bif D b then(c.map (aE.at b)).map (SV.val E)else(d.map (aE.at b)).map (SV.val E)
 | [],[],e,h=>by simp[nT] at h;subst h;cases D b<;>rfl
 | c::r,d::s,e,h=>by
   simp only[nT] at h;split at h
   ·rename_i x l h1 h2;injection h with h;subst h;have:=sY E b h2;simp only[a_,FY h1 E b,this];cases D b<;>rfl
   ·cases h
 | [],_::_,_,h=>by cases h
 | _::_,[],_,h=>by cases h
def xG (D:Nat->Bool):dx->dx->Option dx
 | .int k f,.int k' g=>if k=k' then A (.int k λb i=>bif D b then f b i else g b i)else C
 | .bool f,.bool g=>A (.bool λb i=>bif D b then f b i else g b i)
 | .str f,.str g=>A (.str λb i=>bif D b then f b i else g b i)
 | .ref k f,.ref _ g=>A (.ref k λb i=>bif D b then f b i else g b i)
 | _,_=>C
theorem Co {D:Nat->Bool}{c d e:dx}(h:xG D c d=A e)(E:Nat->Nat)(b i:Nat):(((e.at b).at i)).val E=bif D b then((c.at b).at i).val E else((d.at b).at i).val E:=by
 unfold xG at h
 split at h<;>first
  | (injection h with h;subst h;cases hb:D b<;>simp[dx.at,aE.at,SV.val,hb];done)
  | (split at h
     ·rename_i e;subst e;injection h with h;subst h;cases hb:D b<;>simp[dx.at,aE.at,SV.val,hb]
     ·cases h)
  | cases h
def lY (D:Nat->Bool):List dx->List dx->Option (List dx)
 | [],[]=>A []
 | c::r,d::s=>match xG D c d,lY D r s with
   | some e,A l=>A (e::l)
   | _,_=>C
 | _,_=>C
theorem qH {D:Nat->Bool}(E:Nat->Nat)(b:Nat): ∀ {c d e:List dx},lY D c d=A e->e.length=(bif D b then c else d).length /\
  ∀(k:Nat) (x:aE),(e.map (dx.at b))[k]?=A x->∃ y:aE,((bif D b then c else d).map (dx.at b))[k]?=A y/\∀ i,(x.at i).val E=(y.at i).val E
 | [],[],e,h=>by simp[lY] at h;subst h;cases D b<;>exact⟨rfl,λk x hx=>by simp at hx⟩
 | c::r,d::s,e,h=>by
   simp only[lY] at h;split at h
   ·rename_i x l h1 h2;injection h with h;subst h;obtain⟨g1,g2⟩:=qH E b h2;have g3:=Co h1 E b;cases hb:D b with
    | true =>
      rw[hb] at g1 g2 g3;refine⟨by simpa using g1,λk x hx=> ?_⟩;cases k with
      | zero=>simp at hx;subst hx;exact⟨c.at b,rfl,g3⟩
      | succ k=>exact g2 k x (by simpa using hx)
    | false =>
      rw[hb] at g1 g2 g3;refine⟨by simpa using g1,λk x hx=> ?_⟩;cases k with
      | zero=>simp at hx;subst hx;exact⟨d.at b,rfl,g3⟩
      | succ k=>exact g2 k x (by simpa using hx)
   ·cases h
 | [],_::_,_,h=>by cases h
 | _::_,[],_,h=>by cases h
def vt:SB->SB->Option SB
 | .tq D cs tot ty ro,.tq D' cs' tot' ty' ro'=>if tot=tot'/\ty=ty'/\ro=ro' then(match nT D cs cs' with
   | some l=>A (.tq (λb=>D b||D' b) l tot ty ro)
   | none=>C)else C
 | .j8 D n az ro,.j8 D' n' cols' ro'=>if ro=ro' then(match lY D az cols' with
   | some l=>A (.j8 (λb=>D b||D' b) (λb=>bif D b then n b else n' b) l ro)
   | none=>C)else C
 | _,_=>C
theorem LS {B1 B2:SB}(h:vt B1 B2=A F)(E:Nat->Nat){b b1 b2 x:Nat}(hx:F.iz b x):(B1.iz b1 x/\(∀ o,bS E (B1.el x) o->bS E (F.el x) o)/\F.ro=B1.ro)∨(B2.iz b2 x/\(∀ o,bS E (B2.el x) o->bS E (F.el x) o)/\F.ro=B2.ro):=by
 unfold vt at h;split at h
 ·rename_i D cs tot ty ro D' cs' tot' ty' ro';split at h
  ·rename_i e;obtain⟨rfl,rfl,rfl⟩:=e;split at h
   ·rename_i l hl;injection h with h;subst h;have hv:=sY E x hl;have key: ∀ {c2:List aE},(l.map (aE.at x)).map (SV.val E)=(c2.map (aE.at x)).map (SV.val E)->∀ o,bS E (.cells (c2.map (aE.at x)) tot ty) o->bS E (.cells (l.map (aE.at x)) tot ty) o:=by
     intro c2 e o ⟨c,fr,h1,h2,h3,h4⟩;refine⟨c,fr,h1,h2,λi v hv=> ?_,h4⟩;have:((l.map (aE.at x)).map (SV.val E))[i]?=A (v.val E):=by rw[L,hv];rfl
     rw[e,L] at this;cases hi:(c2.map (aE.at x))[i]? with
     | none=>rw[hi] at this;cases this
     | some u=>rw[hi] at this;injection this with this;rw[← this];exact h3 i u hi
    have hx:(D x||D' x)=true:=hx;cases hd:D x with
    | true=>rw[hd] at hv;exact .inl ⟨hd,key hv,rfl⟩
    | false=>rw[hd] at hv hx;exact .inr ⟨hx,key hv,rfl⟩
   ·cases h
  ·cases h
 ·rename_i D n az ro D' n' cols' ro';split at h
  ·rename_i e;subst e;split at h
   ·rename_i l hl;injection h with h;subst h;obtain⟨g1,g2⟩:=qH E x hl;have hx:(D x||D' x)=true:=hx;have key: ∀ {c2:List dx} {n2:Nat},l.length=c2.length->(∀(k:Nat) (y:aE),(l.map (dx.at x))[k]?=A y->∃ z:aE,(c2.map (dx.at x))[k]?=A z/\∀ i,(y.at i).val E=(z.at i).val E)->∀ o,bS E (.view H 0 n2 (c2.map (dx.at x))) o->bS E (.view H 0 n2 (l.map (dx.at x))) o:=by intro c2 n2 e1 e2 o ⟨c,ty,fr,h1,h2⟩;refine⟨c,ty,fr,h1,λi k col hi hk=> ?_⟩;obtain⟨z,z1,z2⟩:=e2 k col hk;rw[O,e1,z2];have:=h2 i k z hi z1;rw[O] at this;exact this
    cases hd:D x with
    | true =>
      rw[hd] at g1 g2;refine .inl ⟨hd,λo ho=> ?_,rfl⟩;show bS E (.view H 0 (bif D x then n x else n' x) (l.map (dx.at x))) o
      rw[hd];exact key g1 g2 o ho
    | false =>
      rw[hd] at g1 g2 hx;refine .inr ⟨hx,λo ho=> ?_,rfl⟩;show bS E (.view H 0 (bif D x then n x else n' x) (l.map (dx.at x))) o
      rw[hd];exact key g1 g2 o ho
   ·cases h
  ·cases h
 ·cases h
theorem aO.merged {Γ E m nx w}(h:aO Γ E m nx w){k1 k2:Nat}(hne:k1≠k2){B1 B2:SB}(h1:m.get k1=A B1)(h2:m.get k2=A B2)(hF:vt B1 B2=A F):aO Γ E ((m.drop k2).put k1 F) nx w:=by
 have hg: ∀ {j Y a},((m.drop k2).put k1 F).get j=A Y->Y.iz (E j) a->∃ i X,m.get i=A X/\X.iz (E i) a/\(∀ o,bS E (X.el a) o->bS E (Y.el a) o)/\Y.ro=X.ro/\(i=j∨(i=k2/\j=k1))/\(i=k2->j=k1):=λ{j Y a} hj ha=>by
  rcases Mem.gY hj with ⟨rfl,rfl,_⟩ | ⟨_,hj⟩
  ·rcases LS hF E (b1:=E j) (b2:=E k2) ha with ⟨g1,g2,g3⟩ | ⟨g1,g2,g3⟩
   ·exact⟨j,B1,h1,g1,g2,g3,.inl rfl,λe=>absurd e hne⟩
   ·exact⟨k2,B2,h2,g1,g2,g3,.inr ⟨rfl,rfl⟩,λ_=>rfl⟩
  ·obtain⟨g1,g2⟩:=Mem.fj hj;exact⟨j,Y,g2,ha,λ_ h=>h,rfl,.inl rfl,λe=>absurd e g1⟩
 refine⟨λj Y a hj ha=> ?_,λj j' Y Y' a hj ha hj' ha' hr=> ?_,λj Y hj=> ?_,λj Y a hj ha hr=> ?_,h.ext,h.cx,h.kp⟩
 ·obtain⟨i,X,g1,g2,g3,_⟩:=hg hj ha;obtain⟨o,ho,hb⟩:=h.gD i X a g1 g2;exact⟨o,ho,g3 o hb⟩
 ·obtain⟨i,X,g1,g2,_,g4,g5,g6⟩:=hg hj ha;obtain⟨i',X',q1,q2,_,q4,q5,q6⟩:=hg hj' ha';have:=h.iq i i' X X' a g1 g2 q1 q2 (by rw[← g4,← q4];exact hr);subst this;by_cases e:i=k2
  ·rw[g6 e,q6 e]
  ·rcases g5 with g5 | ⟨g5,_⟩
   ·rcases q5 with q5 | ⟨q5,_⟩
    ·exact g5.symm.trans q5
    ·exact absurd q5 e
   ·exact absurd g5 e
 ·rcases Mem.gY hj with ⟨rfl,_,_⟩ | ⟨_,hj⟩
  ·exact h.lt _ _ h1
  ·exact h.lt _ _ (Mem.fj hj).2
 ·obtain⟨i,X,g1,g2,_,g4,_⟩:=hg hj ha;exact h.iM i X a g1 g2 (by rw[← g4];exact hr)
def TU (k2 k1:Nat):SV->SV
 | .fY j a o=>.fY (bif I j k2 then k1 else j) a o
 | .fc j w z a i n c=>.fc (bif I j k2 then k1 else j) w z a i n c
 | .m8 j w a i k=>.m8 (bif I j k2 then k1 else j) w a i k
 | v=>v
theorem K9 (E:Nat->Nat)(k2 k1:Nat):Says (TU k2 k1) E:=λv=>by cases v<;>exact⟨rfl,λ_ h=>h⟩
inductive Gh where
 | name (k h:Nat)
 | merge (k1 k2:Nat)
def ru (f:SV->SV):List (Option SV)->List (Option SV)
 | []=>[]
 | some v::r=>A (v.leaf f)::ru f r
 | none::r=>C::ru f r
def SB.dom:SB->Nat->Bool
 | .tq D _ _ _ _=>D
 | .j8 D _ _ _=>D
 | _=>λ_=>H
theorem SB.Nz {b:Nat}(h:B.dom a=G):B.iz b a:=by cases B<;>first | exact h | cases h
def RK:List Gh->List (Option SV)->Mem->(List (Option SV)->Mem->VC)->VC
 | [],tmps,m,K=>K tmps m
 | .name k h::r,tmps,m,K=>(match m.get k with
   | some B=>.all Nat λa=>(match NH h a B with
     | some F=>RK r (ru (Iz k a) tmps) (Mem.told (Iz k a) id (m.put k F)) K
     | none=>.fail "name: what block")
   | none=>.fail "name: no block")
 | .merge k1 k2::r,tmps,m,K=>if k1=k2 then .fail "merge: one" else(match m.get k1,m.get k2 with
   | some B1,A B2=>(match vt B1 B2 with
     | some F=>(match B1.ro with
       | false=>.imp (∀ b,B1.dom b=G->B2.dom b=H) (RK r (ru (TU k2 k1) tmps) (Mem.told (TU k2 k1) (λj=>bif I j k2 then k1 else j) ((m.drop k2).put k1 F)) K)
       | true=>.fail "merge: read only")
     | none=>.fail "merge: other families")
   | _,_=>.fail "merge: no family")
structure sM (E:Nat->Nat)(t t':List (Option SV)):Prop where
 len:t'.length=t.length
 get: ∀(i:Nat) (v':SV),t'[i]?=A (A v')->∃ v:SV,t[i]?=A (A v)/\v'.val E=v.val E/\∀ nx,v.wf nx=G->v'.wf nx=G
theorem sM.refl (E:Nat->Nat)(t:List (Option SV)):sM E t t:=⟨rfl,λ_i v h=>⟨v,h,rfl,λ_ h=>h⟩⟩
theorem sM.trans {a b c:List (Option SV)}(h:sM E a b)(h':sM E b c):sM E a c :=
 ⟨h'.len.trans h.len,λi v hv=>by obtain⟨u,h1,h2,h3⟩:=h'.get i v hv;obtain⟨x,g1,g2,g3⟩:=h.get i u h1;exact⟨x,g1,h2.trans g2,λnx hx=>h3 nx (g3 nx hx)⟩⟩
theorem pI {f:SV->SV}{E:Nat->Nat}(hf:Says f E): ∀(t:List (Option SV)),sM E t (ru f t)
 | []=>sM.refl E []
 | none::r=>by
   have:=pI hf r;refine⟨by simp[ru,this.len],λi v h=> ?_⟩;cases i with
   | zero=>simp[ru] at h
   | succ i=>exact this.get i v (by simpa [ru] using h)
 | some x::r=>by
   have:=pI hf r;refine⟨by simp[ru,this.len],λi v h=> ?_⟩;cases i with
   | zero=>simp[ru] at h;subst h;exact⟨x,rfl,SV.vo hf x,λnx hx=>SV.FG hf x hx⟩
   | succ i=>exact this.get i v (by simpa [ru] using h)
theorem Ay {K K':List (Option SV)->Mem->VC}(h: ∀ t m,(K t m).holds->(K' t m).holds): ∀ {l:List Gh} {tmps:List (Option SV)} {m:Mem},(RK l tmps m K).holds->(RK l tmps m K').holds
 | [],_,_,hh=>h _ _ hh
 | .name k x::r,tmps,m,hh=>by
   simp only[RK] at hh ⊢;revert hh;cases m.get k with
   | none=>exact id
   | some B =>
     intro hh a;have hh:=hh a;revert hh;dsimp only;cases NH x a B with
     | none=>exact id
     | some F=>exact Ay h
 | .merge k1 k2::r,tmps,m,hh=>by
   simp only[RK] at hh ⊢;revert hh;by_cases e:k1=k2
   ·rw[if_pos e,if_pos e];exact id
   ·rw[if_neg e,if_neg e];cases m.get k1 with
    | none=>exact id
    | some B1=>cases m.get k2 with
      | none=>exact id
      | some B2 =>
        dsimp only;cases vt B1 B2 with
        | none=>exact id
        | some F =>
          dsimp only;cases B1.ro with
          | true=>exact id
          | false=>exact λhh hd=>Ay h (hh hd)
theorem nL {Γ:bg}{E:Nat->Nat}{nx:Nat}{w:World}: ∀ {l:List Gh} {tmps:List (Option SV)} {m:Mem} {K:List (Option SV)->Mem->VC},(RK l tmps m K).holds->aO Γ E m nx w ->
  ∃ tmps' m',sM E tmps tmps'/\aO Γ E m' nx w/\(K tmps' m').holds
 | [],tmps,m,K,h,hs=>⟨tmps,m,sM.refl E tmps,hs,h⟩
 | .name k hh::r,tmps,m,K,h,hs=>by
   simp only[RK] at h;split at h
   ·rename_i B hB;have h:=h (E k);dsimp only at h;split at h
    ·rename_i F hF;have hs1:aO Γ E (m.put k F) nx w:=hs.conv λj Y hj=>by
      rcases Mem.gY hj with ⟨rfl,rfl,_⟩ | ⟨_,hj⟩
      ·exact⟨B,hB,λa ha=>Ts hF E a ha⟩
      ·exact⟨Y,hj,λa ha=>⟨ha,λ_ h=>h,id⟩⟩
     have hf:=LX (E:=E) (k:=k) rfl;obtain⟨t',m',g1,g2,g3⟩:=nL h (hs1.Z3 hf id);exact⟨t',m',(pI hf tmps).trans g1,g2,g3⟩
    ·exact h.elim
   ·exact h.elim
 | .merge k1 k2::r,tmps,m,K,h,hs=>by
   simp only[RK] at h;split at h
   ·exact h.elim
   ·rename_i hne;split at h
    ·rename_i B1 B2 h1 h2;split at h
     ·rename_i F hF;cases hro:B1.ro with
      | true=>rw[hro] at h;exact h.elim
      | false =>
        rw[hro] at h;have hd: ∀ b,B1.dom b=G->B2.dom b=false:=λb hb=>by
         cases hb2:B2.dom b with
         | false=>rfl
         | true=>exact absurd (hs.iq k1 k2 B1 B2 b h1 (SB.Nz hb) h2 (SB.Nz hb2) (.inl hro)) hne
        have hf:=K9 E k2 k1;obtain⟨t',m',g1,g2,g3⟩:=nL (h hd) ((hs.merged hne h1 h2 hF).Z3 hf _);exact⟨t',m',(pI hf tmps).trans g1,g2,g3⟩
     ·exact h.elim
    ·exact h.elim
end Sx
end Go.Proofs.YtoibaecagklkaaaGreatDoor
