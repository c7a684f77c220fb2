/- A part of the proof. -/
import Derived.Test.YtoibaecagklkaaaGreatDoorMd
open Array renaming getElem?_eq_some_iff->an,getElem?_push->ct,getElem?_toList->R,length_toList->bf,toList->cy
open Bool renaming and_eq_true->S,and_false->cT,false->H,true->G,true_and->c4
open Go.Builtin renaming append_->b5,firstCells->J,lenOf->c5
open List renaming eq_nil_of_length_eq_zero->c6,getElem?_append->c7,getElem?_cons_succ->c_,getElem?_drop->Z,getElem?_eq_getElem->ag,getElem?_eq_some_iff->V,getElem?_map->L,getElem?_take->W,length_append->c!,length_drop->dm,length_map->O,length_take->b6,map_cons->aW,map_map->d_
open Nat renaming add_assoc->d!,add_mul->M,add_zero->b9,beq->I,eq_of_beq_eq_true->a_,eq_zero_or_pos->b_,le_refl->b!,le_succ->a!,le_trans->ec,mul_le_mul_right->T,ne_of_lt->N,sub_self->ef,zero_add->Q
open Option renaming none->C,some->A
namespace Go.Proofs.YtoibaecagklkaaaGreatDoor
open Go Sx
variable {z:Bool}{K:KL}{az:List av}{m:Mem}{a i k n n1 nx s:Nat}{E g:Nat->Nat}{B F:SB}{x y:SV}{f:SV->SV}{elem:TypeId}{c:av}
namespace Sx
open Go
noncomputable section
structure kq (E:Nat->Nat)(s:Nat)(az:List av)(n:Nat)(l:List Value):Prop where
 len:l.length=n*s
 wide:az.length=s
 get: ∀ i k col,i<n->az[k]?=A col->l[i*s+k]?=A ((col.at i).val E)
def av.flat:av->Bool
 | .raw _=>H
 | _=>G
def jI:List av->Bool
 | []=>G
 | c::r=>c.flat&&jI r
theorem tD: ∀ {l:List av},jI l=G->∀ {k:Nat} {c:av},l[k]?=A c->c.flat=G
 | [],_,k,c,h=>by simp at h
 | x::r,h,k,c,hk=>by
   simp only[jI,S] at h;cases k with
   | zero=>simp at hk;subst hk;exact h.1
   | succ k=>exact tD h.2 (by simpa using hk)
theorem av.oP (h:c.flat=G)(E:Nat->Nat)(i:Nat):((c.at i).val E).oneCell'=true:=by cases c<;>first | (cases h;done) | rfl
theorem av.J6 (h:c.flat=G)(E E':Nat->Nat)(i:Nat):(c.at i).val E=(c.at i).val E':=by cases c<;>first | (cases h;done) | rfl
theorem kq.one {l:List Value}(h:kq E s az n l)(hf:jI az=G): ∀ v∈ l,v.oneCell'=true:=by
 intro v hv;obtain⟨q,hq⟩:=List.getElem?_of_mem hv;have hql:=(V.1 hq).1;rw[h.len] at hql;have hs:0<s:=by
  rcases b_ s with e | e
  ·subst e;simp at hql
  ·exact e
 have h1:q / s<n:=(Nat.div_lt_iff_lt_mul hs).2 hql;have h2:q% s<az.length:=by rw[h.wide];exact Nat.mod_lt _ hs
 have h3:=h.get (q / s) (q% s) az[q% s] h1 (ag h2);rw[show q / s*s+q% s=q by rw[Nat.mul_comm];exact Nat.div_add_mod q s,hq] at h3;injection h3 with h3;rw[h3];exact av.oP (tD hf (ag h2)) E _
def av.shift (i:Nat):av->av
 | .int k f=>.int k (λj=>f (j+i))
 | .bool f=>.bool (λj=>f (j+i))
 | .str f=>.str (λj=>f (j+i))
 | .raw f=>.raw (λj=>f (j+i))
 | .ref k f=>.ref k (λj=>f (j+i))
 | .b7 k w z f n c=>.b7 k w z (λj=>f (j+i)) (λj=>n (j+i)) (λj=>c (j+i))
theorem av.Yi (i j:Nat)(c:av):(c.shift i).at j=c.at (i+j):=by rw[Nat.add_comm];cases c<;>rfl
def fq (i:Nat)(az:List av):List av:=az.map (av.shift i)
theorem oy (h:(fq i az)[k]?=A c): ∃ d,az[k]?=A d/\∀ j,c.at j=d.at (i+j):=by
 simp only[fq,L] at h;cases hc:az[k]? with
 | none=>rw[hc] at h;cases h
 | some d=>rw[hc] at h;injection h with h;subst h;exact⟨d,rfl,λj=>av.Yi _ _ _⟩
theorem gY :(fq i az).length=az.length:=by simp[fq]
theorem OP :(c.shift i).flat=c.flat:=by cases c<;>rfl
theorem jX :jI (fq i az)=jI az:=by
 simp only[fq];induction az with
 | nil=>rfl
 | cons c r ih=>simp only[aW,jI,OP,ih]
def Xo (w k:Nat):Nat->List SV->Option (List SV)
 | 0,_=>A []
 | n+1,l=>match l[k]?,Xo w k n (l.drop w)with
   | some v,A r=>A (v::r)
   | _,_=>C
theorem Ld {w k:Nat}: ∀ {n:Nat} {l r:List SV},Xo w k n l=A r->r.length=n/\∀(i:Nat),i<n->∃ v,r[i]?=A v/\l[i*w+k]?=A v
 | 0,l,r,h=>by simp[Xo] at h;subst h;exact⟨rfl,λi hi=>by omega⟩
 | n+1,l,r,h=>by
   simp only[Xo] at h;split at h
   ·rename_i v r' hv hr;injection h with h;subst h;obtain⟨h1,h2⟩:=Ld hr;refine⟨by simp[h1],λi hi=> ?_⟩;cases i with
    | zero=>exact⟨v,rfl,by simpa using hv⟩
    | succ i =>obtain⟨u,hu1,hu2⟩:=h2 i (by omega);refine⟨u,by simpa using hu1,?_⟩;rw[Z] at hu2;rw[show(i+1)*w+k=w+(i*w+k)by rw[M];omega];exact hu2
   ·cases h
def Bc:List SV->Option (List Bool)
 | []=>A []
 | .bool _ s::r=>(match Bc r with
   | some l=>A (s::l)
   | none=>C)
 | _::_=>C
def afU (l:List Bool)(i:Nat):Bool:=l.getD i H
theorem Aj: ∀ {cs:List SV} {l:List Bool},Bc cs=A l->∀(i:Nat) (v:SV),cs[i]?=A v->∃ b,v=.bool b (afU l i)
 | [],l,h,i,v,hv=>by simp at hv
 | .bool b s::r,l,h,i,v,hv=>by
   simp only[Bc] at h;split at h
   ·rename_i l' hl;injection h with h;subst h;cases i with
    | zero=>simp at hv;subst hv;exact⟨b,rfl⟩
    | succ i=>obtain⟨b',hb⟩:=Aj hl i v (by simpa using hv);exact⟨b',by rw[hb];rfl⟩
   ·cases h
def Bb:List SV->Option (List Nat)
 | []=>A []
 | .ga _ a 0::r=>(match Bb r with
   | some l=>A (a::l)
   | none=>C)
 | _::_=>C
def Yf (l:List Nat)(i:Nat):Nat:=l.getD i 0
theorem Ag: ∀ {cs:List SV} {l:List Nat},Bb cs=A l->∀(i:Nat) (v:SV),cs[i]?=A v->∃ k,v=.ga k (Yf l i) 0
 | [],l,h,i,v,hv=>by simp at hv
 | .ga k a 0::r,l,h,i,v,hv=>by
   simp only[Bb] at h;split at h
   ·rename_i l' hl;injection h with h;subst h;cases i with
    | zero=>simp at hv;subst hv;exact⟨k,rfl⟩
    | succ i=>obtain⟨b',hb⟩:=Ag hl i v (by simpa using hv);exact⟨b',by rw[hb];rfl⟩
   ·cases h
def EX:List SV->Option av
 | .ga k a 0::r=>(match Bb (.ga k a 0::r)with
   | some l=>A (.ref k (Yf l))
   | none=>C)
 | .int k b n::r=>(match vD k (.int k b n::r)with
   | some l=>A (.int k (EI l))
   | none=>C)
 | .str b s::r=>(match oz (.str b s::r)with
   | some l=>A (.str (ck l))
   | none=>C)
 | .bool b s::r=>(match Bc (.bool b s::r)with
   | some l=>A (.bool (afU l))
   | none=>C)
 | _=>C
theorem RT {l:List SV}(h:EX l=A c):c.flat=G/\∀(E:Nat->Nat) (i:Nat) (v:SV),l[i]?=A v->v.val E=(c.at i).val E:=by
 unfold EX at h;split at h
 ·split at h
  ·rename_i hl;injection h with h;subst h;refine⟨rfl,λE i v hv=> ?_⟩;obtain⟨b,hb⟩:=Ag hl i v hv;rw[hb];rfl
  ·cases h
 ·split at h
  ·rename_i hl;injection h with h;subst h;refine⟨rfl,λE i v hv=> ?_⟩;obtain⟨b,hb⟩:=(qi hl).2 i v hv;rw[hb];rfl
  ·cases h
 ·split at h
  ·rename_i hl;injection h with h;subst h;refine⟨rfl,λE i v hv=> ?_⟩;obtain⟨b,hb⟩:=nw hl i v hv;rw[hb];rfl
  ·cases h
 ·split at h
  ·rename_i hl;injection h with h;subst h;refine⟨rfl,λE i v hv=> ?_⟩;obtain⟨b,hb⟩:=Aj hl i v hv;rw[hb];rfl
  ·cases h
 ·cases h
def BX (w n:Nat)(cs:List SV):Nat->Option (List av)
 | 0=>A []
 | r+1=>match Xo w (w - (r+1)) n cs with
   | some l=>(match EX l,BX w n cs r with
     | some c,A az=>A (c::az)
     | _,_=>C)
   | none=>C
theorem BY {w n:Nat}{cs:List SV}: ∀ {r:Nat} {az:List av},r<=w->BX w n cs r=A az->az.length=r/\jI az=G /\
  ∀(E:Nat->Nat) (i j:Nat) (col:av),i<n->az[j]?=A col->∃ v,cs[i*w+(w - r+j)]?=A v/\v.val E=(col.at i).val E
 | 0,az,_,h=>by simp[BX] at h;subst h;exact⟨rfl,rfl,λE i j col _ hj=>by simp at hj⟩
 | r+1,az,hw,h=>by
   simp only[BX] at h;split at h
   ·rename_i l hl;split at h
    ·rename_i c cols' hc hr;injection h with h;subst h;obtain⟨h1,h2,h3⟩:=BY (by omega) hr;obtain⟨g1,g2⟩:=RT hc;refine⟨by simp[h1],by simp[jI,g1,h2],λE i j col hi hj=> ?_⟩;cases j with
     | zero =>simp at hj;subst hj;obtain⟨v,hv1,hv2⟩:=(Ld hl).2 i hi;exact⟨v,by simpa using hv2,g2 E i v hv1⟩
     | succ j =>obtain⟨v,hv1,hv2⟩:=h3 E i j col hi (by simpa using hj);exact⟨v,by rw[show w - (r+1)+(j+1)=w - r+j by omega];exact hv1,hv2⟩
    ·cases h
   ·cases h
def nX (m:Mem)(s:Nat):SV->Option (Prop×Nat×Option (List av))
 | .aO=>A (True,0,C)
 | .slc key o n _ _=>(match n with
   | 0=>A (True,0,C)
   | n+1=>(match m.get key with
     | some (.cells cs _ _)=>(match ic cs o ((n+1)*s)with
       | some l=>(match BX s (n+1) l s with
         | some az=>A (True,n+1,A az)
         | none=>C)
       | none=>C)
     | _=>C))
 | .aX key w _ i n _=>(match m.get key with
   | some (.rows _ nb az _ _ _)=>if w=s/\az.length=s/\jI az=G then A (i+n<=nb,n,A (fq i az))else C
   | _=>C)
 | .b7 key w _ a i n _=>(match m.get key with
   | some (.dQ D nf az _)=>if w=s/\(az.map (cg.at a)).length=s/\jI (az.map (cg.at a))=G then A (0<n->D a=G/\i+n<=nf a,n,A (fq i (az.map (cg.at a))))else C
   | _=>C)
 | .str _ l=>if s=1 then A (True,l.length,A [.int .u8 (λj=>((l.getD j 0).toNat:Int))])else C
 | _=>C
theorem agq :I n 0=G↔n=0:=by cases n<;>simp
theorem AN {P:Program}{Γ E m nx w}(hs:aJ Γ E m nx w){p:Prop}{oc:Option (List av)}(h:nX m s x=A (p,n,oc))(hp:p) :
  ∃ l:List Value,(c5 (x.val E)).run P w=.ok n w/\(∀ k,(J s n (x.val E)).run P {w with drawn:=k}=.ok l.toArray {w with drawn:=k})/\l.length=n*s /\
    (∀ az,oc=A az->kq E s az n l/\jI az=G)/\(oc=C->n=0):=by
 unfold nX at h;split at h
 ·injection h with h;injection h with h1 h2;injection h2 with h2 h3;subst h2;subst h3;exact⟨[],rfl,λk=>by simp[SV.val,J],by simp,(λ_ h=>by cases h),λ_=>rfl⟩
 ·rename_i key o n' cl c;split at h
  ·injection h with h;injection h with h1 h2;injection h2 with h2 h3;subst h2;subst h3;refine⟨[],rfl,λk=> ?_,by simp,(λ_ h=>by cases h),λ_=>rfl⟩;simp[SV.val,J,loadCells,loadCellsFrom]
  ·rename_i n';split at h
   ·rename_i cs tot ty hk;split at h
    ·rename_i l hl;split at h
     ·rename_i az hc;injection h with h;injection h with h1 h2;injection h2 with h2 h3;subst h2;subst h3;have hg:=cV hl;obtain⟨ob,ho,c0,fr,rfl,_,h2,_⟩:=hs.oB key _ hk rfl;obtain⟨q1,q2,q3⟩:=BY (b! s) hc;refine⟨l.map (SV.val E),rfl,λk=> ?_,by rw[O,hg.1],λcols' hc'=> ?_,λh=>by cases h⟩
      ·have:=run_loadCells (P:=P) (w:={w with drawn:=k}) (b:=E key) (c:=c0) ho o (l.map (SV.val E)) (λi v hi=>by
        rw[L] at hi;cases hil:l[i]? with
        | none=>rw[hil] at hi;cases hi
        | some u=>rw[hil] at hi;injection hi with hi;subst hi;exact h2 _ _ (hg.2 i u hil))
       rw[O,hg.1] at this;simp only[SV.val,J,this]
      ·injection hc' with hc';subst hc';refine⟨⟨by rw[O,hg.1],q1,λi k col hi hk=> ?_⟩,q2⟩;obtain⟨v,hv1,hv2⟩:=q3 E i k col hi hk;rw[ef,Q] at hv1;rw[L,hv1,← hv2];rfl
     ·cases h
    ·cases h
   ·cases h
 ·rename_i key w' z i n' c;split at h
  ·rename_i zb nb az ro tot ty hk;split at h
   ·rename_i hc;obtain⟨rfl,hcl,hf⟩:=hc;injection h with h;injection h with h1 h2;injection h2 with h2 h3;subst h1;subst h2;subst h3;rcases b_ n' with e | e
    ·subst e;refine⟨[],rfl,λk=> ?_,by simp,λcols' hc'=> ?_,λh=>by cases h⟩
     ·simp only[SV.val];cases z<;>simp[J,loadCells,loadCellsFrom]
     ·injection hc' with hc';subst hc';exact⟨⟨by simp,by rw[gY];exact hcl,λi k col hi _=>by omega⟩,by rw[jX];exact hf⟩
    ·have hno:(SB.rows zb nb az ro tot ty).no=false:=SB.jd (i:=0) (by omega);obtain⟨ob,ho,c0,fr,rfl,_,h1,_,h2⟩:=hs.oB key _ hk hno;rw[hcl] at h1 h2;have hle:i*w'+n'*w'<=c0.size:=by rw[← M];exact ec (T w' hp) h1
     have hbeq:I n' 0=false:=by cases n' with
      | zero=>omega
      | succ n=>rfl
     have hlen:((c0.toList.drop (i*w')).take (n'*w')).length=n'*w':=by rw[b6,dm,bf];omega
     refine⟨(c0.toList.drop (i*w')).take (n'*w'),rfl,λk=> ?_,hlen,λcols' hc'=> ?_,λh=>by cases h⟩
     ·have:=run_loadCells (P:=P) (w:={w with drawn:=k}) (b:=E key) (c:=c0) ho (i*w') ((c0.toList.drop (i*w')).take (n'*w')) (λj v hj=>by
       rw[W] at hj;split at hj
       ·rw[Z,R] at hj;exact hj
       ·cases hj)
      rw[hlen] at this;simp only[SV.val,hbeq,cT,cond_false,J,this]
     ·injection hc' with hc';subst hc';refine⟨⟨hlen,by rw[gY];exact hcl,λj k col hj hk=> ?_⟩,by rw[jX];exact hf⟩;obtain⟨d,hd1,hd2⟩:=oy hk;have hkl:k<w':=by have:=(V.1 hd1).1;omega
      have hlt:j*w'+k<n'*w':=by have:(j+1)*w'<=n'*w':=T w' hj;rw[M] at this;omega
      rw[hd2,W,r_ hlt,Z,R];have:=h2 (i+j) k d (by omega) hd1;rw[M] at this;rw[← d!];exact this
   ·cases h
  ·cases h
 ·rename_i key w' z a i n' c;split at h
  ·rename_i D nf az ro hk;split at h
   ·rename_i hc;obtain⟨rfl,hcl,hf⟩:=hc;injection h with h;injection h with h1 h2;injection h2 with h2 h3;subst h1;subst h2;subst h3;rcases b_ n' with e | e
    ·subst e;refine⟨[],rfl,λk=> ?_,by simp,λcols' hc'=> ?_,λh=>by cases h⟩
     ·simp only[SV.val];cases z<;>simp[J,loadCells,loadCellsFrom]
     ·injection hc' with hc';subst hc';exact⟨⟨by simp,by rw[gY];exact hcl,λi k col hi _=>by omega⟩,by rw[jX];exact hf⟩
    ·obtain⟨hD,hin⟩:=hp e;obtain⟨ob,ho,c0,ty,fr,rfl,h2⟩:=hs.hJ key _ a hk hD;rw[hcl] at h2
     have hbeq:I n' 0=false:=by cases n' with
      | zero=>omega
      | succ n=>rfl
     have hs0:0<w'∨w'=0:=by omega
     have hlen:((c0.toList.drop (i*w')).take (n'*w')).length=n'*w':=by
      rcases hs0 with hs0 | hs0
      ·have hcol: ∃ col,(az.map (cg.at a))[w' - 1]?=A col:=⟨_,ag (by omega)⟩
       obtain⟨col,hcol⟩:=hcol;have:=(an.1 (h2 (i+n' - 1) (w' - 1) col (by omega) hcol)).1;rw[Q] at this;have e2:(i+n' - 1)*w'+w'=i*w'+n'*w':=by rw[← M,← Nat.succ_mul];congr 1;omega
       rw[b6,dm,bf];omega
      ·subst hs0;simp
     refine⟨(c0.toList.drop (i*w')).take (n'*w'),rfl,λk=> ?_,hlen,λcols' hc'=> ?_,λh=>by cases h⟩
     ·have:=run_loadCells (P:=P) (w:={w with drawn:=k}) (b:=a) (c:=c0) ho (i*w') ((c0.toList.drop (i*w')).take (n'*w')) (λj v hj=>by
       rw[W] at hj;split at hj
       ·rw[Z,R] at hj;exact hj
       ·cases hj)
      rw[hlen] at this;simp only[SV.val,hbeq,cT,cond_false,J,this]
     ·injection hc' with hc';subst hc';refine⟨⟨hlen,by rw[gY];exact hcl,λj k col hj hk=> ?_⟩,by rw[jX];exact hf⟩;obtain⟨d,hd1,hd2⟩:=oy hk;have hkl:k<w':=by have:=(V.1 hd1).1;omega
      have hlt:j*w'+k<n'*w':=by have:(j+1)*w'<=n'*w':=T w' hj;rw[M] at this;omega
      rw[hd2,W,r_ hlt,Z,R];have:=h2 (i+j) k d (by omega) hd1;rw[M,Q] at this;rw[← d!];exact this
   ·cases h
  ·cases h
 ·rename_i l s';split at h
  ·rename_i e;subst e;injection h with h;injection h with h1 h2;injection h2 with h2 h3;subst h2;subst h3;refine⟨s'.map λb=>Value.int .u8 b.toNat,by simp[SV.val,c5,ByteArray.size],λk=> ?_,by simp,λcols' hc'=> ?_,λh=>by cases h⟩
   ·simp only[SV.val,J,Sem.run_pure];congr 1;have:(ByteArray.mk s'.toArray).extract 0 s'.length=ByteArray.mk s'.toArray:=by rw[show s'.length=(ByteArray.mk s'.toArray).size by simp[ByteArray.size]];exact ByteArray.extract_zero_size
    rw[this];simp
   ·injection hc' with hc';subst hc';refine⟨⟨by simp,rfl,λi k col hi hk=> ?_⟩,rfl⟩;cases k with
    | succ k=>simp at hk
    | zero =>simp at hk;subst hk;simp[av.at,SV.val,hi]
  ·cases h
 ·cases h
def av.cat (n:Nat):av->av->Option av
 | .int k f,.int k' g=>if k=k' then A (.int k (λj=>if j<n then f j else g (j - n)))else C
 | .str f,.str g=>A (.str (λj=>if j<n then f j else g (j - n)))
 | .bool f,.bool g=>A (.bool (λj=>if j<n then f j else g (j - n)))
 | .ref k f,.ref _ g=>A (.ref k (λj=>if j<n then f j else g (j - n)))
 | _,_=>C
theorem av.ac3 {d e:av}(h:av.cat n c d=A e):e.flat=G/\∀(E:Nat->Nat) (j:Nat),(e.at j).val E=if j<n then(c.at j).val E else(d.at (j - n)).val E:=by
 unfold av.cat at h;split at h
 ·split at h
  ·rename_i hk;subst hk;injection h with h;subst h;exact⟨rfl,λE j=>by simp only[av.at];split<;>rfl⟩
  ·cases h
 ·injection h with h;subst h;exact⟨rfl,λE j=>by simp only[av.at];split<;>rfl⟩
 ·injection h with h;subst h;exact⟨rfl,λE j=>by simp only[av.at];split<;>rfl⟩
 ·injection h with h;subst h;exact⟨rfl,λE j=>by simp only[av.at,SV.val];split<;>rfl⟩
 ·cases h
def tq (n:Nat):List av->List av->Option (List av)
 | [],[]=>A []
 | c::cs,d::ds=>(match av.cat n c d,tq n cs ds with
   | some e,A es=>A (e::es)
   | _,_=>C)
 | _,_=>C
theorem rO {n:Nat}: ∀ {c d e:List av},tq n c d=A e->e.length=c.length/\e.length=d.length/\jI e=G /\
  ∀(k:Nat) (col:av),e[k]?=A col->∃ a b,c[k]?=A a/\d[k]?=A b/\∀(E:Nat->Nat) (j:Nat),(col.at j).val E=if j<n then(a.at j).val E else(b.at (j - n)).val E
 | [],[],e,h=>by simp[tq] at h;subst h;exact⟨rfl,rfl,rfl,λk col hk=>by simp at hk⟩
 | c::cs,d::ds,e,h=>by
   simp only[tq] at h;split at h
   ·rename_i x es hx hes;injection h with h;subst h;obtain⟨h1,h2,h3,h4⟩:=rO hes;obtain⟨g1,g2⟩:=av.ac3 hx;refine⟨by simp[h1],by simp[h2],by simp[jI,g1,h3],λk col hk=> ?_⟩;cases k with
    | zero=>simp at hk;subst hk;exact⟨c,d,rfl,rfl,g2⟩
    | succ k=>exact h4 k col (by simpa using hk)
   ·cases h
 | [],_::_,_,h=>by cases h
 | _::_,[],_,h=>by cases h
theorem kq.cat {n2:Nat}{c1 c2 c:List av}{l1 l2:List Value}(h1:kq E s c1 n1 l1)(h2:kq E s c2 n2 l2)(h:tq n1 c1 c2=A c) :
  kq E s c (n1+n2) (l1++l2):=by
 obtain⟨g1,g2,g3,g4⟩:=rO h;refine⟨by rw[c!,h1.len,h2.len,M],by rw[g1,h1.wide],λi k col hi hk=> ?_⟩;obtain⟨a,b,ha,hb,hat⟩:=g4 k col hk;have hks:k<s:=by have:=(V.1 hk).1;rw[g1,h1.wide] at this;exact this
 rw[hat,c7,h1.len];by_cases hlt:i<n1
 ·have:(i+1)*s<=n1*s:=T s hlt;rw[M] at this;rw[r_ hlt,r_ (by omega)];exact h1.get i k a hlt ha
 ·have:n1*s<=i*s:=T s (by omega);rw[s_ hlt,s_ (by omega)];have:=h2.get (i - n1) k b (by omega) hb;rw[Nat.sub_mul] at this;rw[← this];congr 1;omega
def CC (n:Nat):Option (List av)->Option (List av)->Option (List av)
 | some c,A d=>tq n c d
 | some c,C=>A c
 | none,A d=>A d
 | none,C=>C
theorem Et {n2:Nat}{o1 o2:Option (List av)}{c:List av}{l1 l2:List Value}(h:CC n1 o1 o2=A c)
  (h1: ∀ az,o1=A az->kq E s az n1 l1/\jI az=G) (h1':o1=C->n1=0) (e1:l1.length=n1*s)
  (h2: ∀ az,o2=A az->kq E s az n2 l2/\jI az=G) (h2':o2=C->n2=0) (e2:l2.length=n2*s):kq E s c (n1+n2) (l1++l2)/\jI c=true:=by
 unfold CC at h;split at h
 ·exact⟨kq.cat (h1 _ rfl).1 (h2 _ rfl).1 h,(rO h).2.2.1⟩
 ·injection h with h;subst h;have:=h2' rfl;subst this;have:l2=[]:=c6 (by simpa using e2);subst this;rw[List.append_nil,b9];exact h1 _ rfl
 ·injection h with h;subst h;have:=h1' rfl;subst this;have:l1=[]:=c6 (by simpa using e1);subst this;rw[List.nil_append,Q];exact h2 _ rfl
 ·cases h
def AI (elem:TypeId)(s:Nat)(z:Bool)(n:Nat)(az:List av)(m:Mem)(nx:Nat)(K:KL):VC :=.all Nat λc=>.imp (n<=c) (K (A (.aX nx s z 0 n c)) ((nx,.rows z n az H (c*s) elem)::m) (nx+1))
def BK (elem:TypeId)(s:Nat)(x:SV)(n0 n:Nat)(az:List av)(m:Mem)(nx:Nat)(K:KL):VC :=
 match x with
 | .aO=>AI elem s G n az m nx K
 | .slc key 0 _ _ c=>(match m.get key with
   | some (.cells cs tot ty)=>if cs.length=n0*s/\ty=elem then .and (kD tot (c*s)) (AI elem s H n az (m.drop key) nx K)else .fail "append: another block"
   | _=>.fail "append: no such block")
 | .aX key _ z 0 _ c=>(match m.get key with
   | some (.rows zb _ _ H tot ty)=>if zb=z/\ty=elem then .and (kD tot (c*s)) (AI elem s z n az (m.drop key) nx K)else .fail "append: another row"
   | _=>.fail "append: no row")
 | _=>.fail "append: to what"
def jx (P:Program)(elem:TypeId)(s:Nat)(x y:SV)(m:Mem)(nx:Nat)(K:KL):VC :=
 match bytes P elem,gO P elem,nX m s x,nX m s y with
 | some by_,A z,A (p0,n0,o0),A (p1,n1,o1)=>(match CC n0 o0 o1 with
   | some az=>if(z.plain&&decide (z.cells.length=s)&&decide (s≠0))=G then
      .and (.atom (p0/\p1/\2*(n0+n1)*by_<=281474976710656/\n0+n1<9223372036854775808)) (BK elem s x n0 (n0+n1) az m nx K)else .fail "append: sizes"
   | none=>.fail "append: no columns")
 | _,_,_,_=>.fail "append: rows"
section
variable {P : Program} {Γ : aT}
theorem getSet (c:Array Value)(off:Nat)(vs:List Value)(h:off+vs.length<=c.size)(q:Nat) :
  (fh c off vs)[q]?=if off<=q/\q<off+vs.length then vs[q - off]? else c[q]?:=by
 rw[← R,gX];have key: ∀(vs l:List Value) (off:Nat),off+vs.length<=l.length->(bg l off vs)[q]?=if off<=q/\q<off+vs.length then vs[q - off]? else l[q]?:=by
  intro vs;induction vs with
  | nil=>intro l off h;simp only[bg,List.length_nil,b9];rw[s_ (by omega)]
  | cons v r ih =>
    intro l off h;simp only[List.length_cons] at h ⊢;simp only[bg];rw[ih _ _ (by simp;omega)];by_cases h1:off+1<=q/\q<off+1+r.length
    ·rw[r_ h1,r_ (by omega),show q - off=(q - (off+1))+1 by omega,c_]
    ·rw[s_ h1,List.getElem?_set];by_cases h2:off=q
     ·subst h2;rw[r_ rfl,r_ (by omega),r_ (by omega),ef];rfl
     ·rw[s_ h2,s_ (by omega)]
 have e:c.toList[q]?=c[q]?:=R;rw[key _ _ _ (by simpa using h),e]
theorem X6 {Γ E m nx w}(hs:aJ Γ E m nx w)(hw:Mem.wf nx m=G){m':Mem}(hsub: ∀ k B,m'.get k=A B->m.get k=A B)(hk:(AI elem s z n az m' nx K).holds)
  {l:List Value} (hl:kq E s az n l) (hf:jI az=G) {c:Nat} (hc:n<=c) (hpos:0<n) {a rest:Array Value} (ha:a=l.toArray) (hr:rest.size=(c - n)*s) :
  bx K Γ E nx (.slice (A ⟨w.heap.size,0,C⟩) n c) {w with drawn:=w.drawn+1,heap:=w.heap.push (.cells (a++rest) elem)}:=by
 subst ha
 have hb:I n 0=false:=by cases n with
  | zero=>omega
  | succ n=>rfl
 have hs':=hs.drew (w.drawn+1);refine⟨λk=>if k=nx then w.heap.size else E k,A (.aX nx s z 0 n c),_,_,λk hk=>by simp[N hk],a! _,λv hv=>by injection hv with hv;subst hv;simp[SV.val,hb],?_,hk c hc⟩
 refine hs'.push hw hsub (λk X a hk hn=>N (hs.glt (hsub k X hk) hn)) (λi hi hlt=> ?_) ⟨hs.ext.os,hs.ext.tape,hs.ext.output,?_,λk hk hm=> ?_⟩ (λ_ _=>.inr hs.ext.size) (λD hD=>N (an.1 (hs.kp D hD)).1) (λ_=>⟨_,by simp;rfl,?_⟩) rfl
 ·show(w.heap.push _)[i]?=_;rw[ct,s_ hi]
 ·have:=hs.ext.size;simp;omega
 ·show(w.heap.push _)[k]?=_;have:=hs.ext.size;rw[ct,s_ (by omega)];exact hs.ext.block k hk hm
 ·refine⟨l.toArray++rest,(0,0),rfl,λ_ i=>.inr (by simp),?_,?_,λi k col hi hk=> ?_⟩
  ·simp[hl.len,hl.wide]
  ·simp only[Array.size_append,List.size_toArray,hl.len,hr,← M];congr 1;omega
  ·rw[hl.wide,av.J6 (tD hf hk) _ E];have:=hl.get i k col hi hk;rw[Array.getElem?_append_left (by simpa using (V.1 this).1)];simpa using this
theorem X7 {Γ E m nx w}(hs:aJ Γ E m nx w)(hw:Mem.wf nx m=G){n0:Nat}{key:Nat}(hk:m.get key=A B)(hn:B.no=H)(hro:B.ro=H)
  (h:(AI elem s z (n0+n1) az (m.drop key) nx K).holds) {old new:List Value} (hl:kq E s az (n0+n1) (old++new)) (hol:old.length=n0*s) (hnl:new.length=n1*s) (hf:jI az=G)
  {c0:Array Value} {fr:Nat×Nat} (ho:w.heap[E key]?=A (.cells c0 elem fr)) (hfr: ∀ i,c0.size<=i∨¬ (fr.1<=i/\i<fr.2)) {c:Nat} (hc:n0+n1<=c) (hsz:c0.size=c*s)
  (hold: ∀ q,q<n0*s->c0[q]?=old[q]?) (hz:(z&&I (n0+n1) 0)=H) :
  ∃ w',(storeCells ⟨E key,n0*s,C⟩ new).run P w=.ok () w'/\bx K Γ E nx (.slice (A ⟨E key,0,C⟩) (n0+n1) c) w':=by
 have hcs:n0*s+n1*s<=c0.size:=by rw[hsz,← M];exact T s hc
 have hrun:=dy (P:=P) (o:=n0*s) new 0 w c0 ho hfr (by omega) (λv hv=>hl.one hf v (List.mem_append_right _ hv))
 refine⟨_,hrun,λj=>if j=nx then E key else E j,A (.aX nx s z 0 (n0+n1) c),_,_,λk hk'=>by simp[N hk'],a! _,
  λv hv=>by injection hv with hv;subst hv;simp[SV.val,hz],hs.move hw hk hn hro ?_,h c hc⟩
 refine⟨_,fr,rfl,λ_=>by rw[bQ];exact hfr,?_,?_,λi k col hi hk=> ?_⟩
 ·rw[bQ,hl.wide,M];exact hcs
 ·rw[bQ];exact hsz
 ·rw[hl.wide,av.J6 (tD hf hk) _ E];have hg:=hl.get i k col hi hk;rw[getSet _ _ _ (by omega),← hg,c7,hol,b9];by_cases hlt:i*s+k<n0*s
  ·rw[r_ hlt,s_ (by omega)];exact hold _ hlt
  ·rw[s_ hlt,r_];refine⟨by omega,?_⟩;have:=(V.1 hg).1;rw[c!,hol] at this;omega
theorem CK {ats:Array TypeId}{ty t0 t1:TypeId}{d:TypeDesc}(h0:ats[0]?=A t0)(h1:ats[1]?=A t1)(hd:P.underlying t0=A (.slice elem))(hd1:P.underlying t1=A d)(hni:zn d=G)
  (hsz:sz P elem=A s)   {Γ:aT}  {w:World}
  (h:(jx P elem s x y m nx K).holds) (hs:aJ Γ E m nx w) (hw:Mem.wf nx m=G) :
  ∃ r w',(b5 ats ty #[x.val E,y.val E]).run P w=.ok r w'/\bx K Γ E nx r w':=by
 unfold jx at h;split at h
 ·rename_i by_ z p0 n0 o0 p1 n1 o1 hby hz hx hy;split at h
  ·rename_i az hcols;split at h
   ·rename_i hc;simp only[S,p_] at hc;obtain⟨⟨g1,g2⟩,g3⟩:=hc;obtain⟨⟨hp0,hp1,hb1,hb2⟩,h⟩:=h;obtain⟨old,xlen,xrun,xl,xc,xn⟩:=AN (P:=P) hs hx hp0;obtain⟨new,ylen,yrun,yl,yc,yn⟩:=AN (P:=P) hs hy hp1;obtain⟨hrows,hflat⟩:=Et hcols xc xn xl yc yn yl;have hzr: ∀ w:World,(zeroValue elem).run P w=.ok (z.val E) w:=λw=>dV hz;have hzs:(z.val E).cells.size=s:=by rw[SV.fI g1];simp[g2]
    have hnew:(J s n1 (y.val E)).run P w=.ok new.toArray w:=yrun w.drawn
    have grow: ∀(base:Option Addr) (c:Nat) (z:Bool) (m':Mem),x.val E=.slice base n0 c->(∀ k B,m'.get k=A B->m.get k=A B)->c<n0+n1->(AI elem s z (n0+n1) az m' nx K).holds ->
      ∃ r w',(b5 ats ty #[x.val E,y.val E]).run P w=.ok r w'/\bx K Γ E nx r w':=by
     intro base c z m' hxv hsub hlt hk;rw[hxv] at xrun ⊢;obtain⟨c',rest,q1,q2,q3⟩:=nF (w:=w) (ty:=ty) (base:=base) (n0:=n0) (c:=c) h0 h1 hd hd1 hni hsz hby hzr hzs ylen xrun yrun hlt (by omega) (by omega);exact⟨_,_,q3,X6 hs hw hsub hk hrows hflat q1 (by omega) (by simp) q2⟩
    unfold BK at h;split at h
    ·
     by_cases hn:n1=0
     ·subst hn;simp only[nX] at hx;injection hx with hx;injection hx with e1 e2;injection e2 with e2 e3;subst e2;have hnn:(SB.rows G (0+0) az H (0*s) elem).no=true:=rfl
      refine⟨_,_,append_nil h0 h1 hd hd1 hni hsz ylen hnew,λk=>if k=nx then w.heap.size else E k,A (.aX nx s G 0 (0+0) 0),_,_,λk hk=>by simp[N hk],a! _,λv hv=>by injection hv with hv;subst hv;rfl,
       hs.push hw (λ_ _ h=>h) (λk X a hk ha=>N (hs.glt hk ha)) (λi _ _=>rfl) hs.ext (λhn=>by rw[hnn] at hn;cases hn) (λD hD=>N (an.1 (hs.kp D hD)).1) (λhn=>by rw[hnn] at hn;cases hn) rfl,h 0 (b! _)⟩
     ·simp only[nX] at hx;injection hx with hx;injection hx with e1 e2;injection e2 with e2 e3;subst e2;exact grow C 0 G m rfl (λ_ _ h=>h) (by omega) h
    ·
     rename_i key n' cl c;have hn':n'=n0:=by
      simp only[nX] at hx;split at hx
      ·injection hx with hx;injection hx with _ hx;injection hx with hx _
      ·split at hx
       ·split at hx
        ·split at hx
         ·injection hx with hx;injection hx with _ hx;injection hx with hx _
         ·cases hx
        ·cases hx
       ·cases hx
     subst hn';split at h
     ·rename_i cs tot ty' hk;split at h
      ·rename_i hcs;obtain⟨hcl,rfl⟩:=hcs;obtain⟨htot,h⟩:=h;have htot:tot=c*s:=htot;by_cases hle:n'+n1<=c
       ·obtain⟨ob,ho,c0,fr,rfl,f1,f2,f3⟩:=hs.oB key _ hk rfl;have hf0:=xrun w.drawn;have hold: ∀ q,q<n'*s->c0[q]?=old[q]?:=by
         have hr:=run_loadCells (P:=P) (w:={w with drawn:=w.drawn}) (b:=E key) (c:=c0) ho 0 ((cs.map (SV.val E))) (λj v hj=>by
          rw[L] at hj;cases hjl:cs[j]? with
          | none=>rw[hjl] at hj;cases hj
          | some u=>rw[hjl] at hj;injection hj with hj;subst hj;rw[Q];exact f2 j u hjl)
         rw[O,hcl] at hr;simp only[SV.val,J] at hf0;rw[hr] at hf0;injection hf0 with hf0;have hol:old=cs.map (SV.val E):=by have:=congrArg cy hf0;simpa using this.symm
         intro q hq;have hql:q<cs.length:=by omega
         rw[hol,L,ag hql,f2 q _ (ag hql)];rfl
        obtain⟨w',hrun,haft⟩:=X7 (P:=P) hs hw hk rfl rfl h hrows xl yl hflat ho f1 hle (by rw[f3,htot]) hold rfl;exact⟨_,w',th (o:=0) h0 h1 hd hd1 hni hsz ylen hnew hle (by rw[Q];exact hrun),haft⟩
       ·exact grow _ c H (m.drop key) rfl (λ_ _ h=>(Mem.fK h).2) (by omega) h
      ·exact h.elim
     ·exact h.elim
    ·
     rename_i key w' z' n' c;split at h
     ·rename_i zb nb cols' tot ty' hk;split at h
      ·rename_i hcs;obtain⟨rfl,rfl⟩:=hcs;obtain⟨htot,h⟩:=h;have htot:tot=c*s:=htot;simp only[nX,hk] at hx;split at hx
       ·rename_i hw';obtain⟨rfl,hwl,hwf⟩:=hw';injection hx with hx;injection hx with e1 e2;injection e2 with e2 e3;subst e1;subst e2;subst e3;cases hzn:zb&&I n' 0 with
        | true =>
          simp only[S,agq] at hzn;obtain⟨rfl,rfl⟩:=hzn;by_cases hn1:n1=0
          ·subst hn1;have hnn:(SB.rows G (0+0) az H (0*w') ty').no=true:=rfl
           refine⟨_,_,append_nil h0 h1 hd hd1 hni hsz ylen hnew,λk=>if k=nx then w.heap.size else E k,A (.aX nx w' G 0 (0+0) 0),_,_,λk hk=>by simp[N hk],a! _,λv hv=>by injection hv with hv;subst hv;rfl,
            hs.push hw (λ_ _ h=>(Mem.fK h).2) (λk X a hk ha=>N (hs.glt (Mem.fK hk).2 ha)) (λi _ _=>rfl) hs.ext (λhn=>by rw[hnn] at hn;cases hn) (λD hD=>N (an.1 (hs.kp D hD)).1) (λhn=>by rw[hnn] at hn;cases hn) rfl,h 0 (b! _)⟩
          ·exact grow C 0 G (m.drop key) rfl (λ_ _ h=>(Mem.fK h).2) (by omega) h
        | false =>
          have hxv:(SV.aX key w' zb 0 n' c).val E=.slice (A ⟨E key,0,C⟩) n' c:=by simp[SV.val,hzn]
          have hno:(SB.rows zb nb cols' H tot ty').no=false:=by
           cases zb with
           | false=>rfl
           | true =>
             simp only[c4] at hzn;have:n'≠0:=λe=>by rw[e] at hzn;cases hzn
             exact SB.jd (i:=0) (by omega)
          by_cases hle:n'+n1<=c
          ·obtain⟨ob,ho,c0,fr,rfl,f1,f2,f3,f4⟩:=hs.oB key _ hk hno;have hf0:=xrun w.drawn;rw[hxv] at hf0;rw[hwl] at f2;have hnb:n'*w'<=c0.size:=ec (T w' (by omega)) f2;have hold: ∀ q,q<n'*w'->c0[q]?=old[q]?:=by
            have hr:=run_loadCells (P:=P) (w:={w with drawn:=w.drawn}) (b:=E key) (c:=c0) ho 0 (c0.toList.take (n'*w')) (λj v hj=>by
             rw[W] at hj;split at hj
             ·rw[Q];rw[R] at hj;exact hj
             ·cases hj)
            rw[b6,bf,Nat.min_eq_left hnb] at hr;simp only[J] at hf0;rw[hr] at hf0;injection hf0 with hf0;have hol:old=c0.toList.take (n'*w'):=by have:=congrArg cy hf0;simpa using this.symm
            intro q hq;rw[hol,W,r_ hq,R]
           have hz2:(zb&&I (n'+n1) 0)=false:=by
            cases zb with
            | false=>rfl
            | true =>
              simp only[c4] at hzn ⊢;cases n' with
              | zero=>cases hzn
              | succ n=>rw[show n+1+n1=(n+n1)+1 by omega];rfl
           obtain⟨w2,hrun,haft⟩:=X7 (P:=P) hs hw hk hno rfl h hrows xl yl hflat ho (f1 rfl) hle (by rw[f3,htot]) hold hz2;rw[hxv];exact⟨_,w2,th (o:=0) h0 h1 hd hd1 hni hsz ylen hnew hle (by rw[Q];exact hrun),haft⟩
          ·exact grow _ c zb (m.drop key) hxv (λ_ _ h=>(Mem.fK h).2) (by omega) h
       ·cases hx
      ·exact h.elim
     ·exact h.elim
    ·exact h.elim
   ·exact h.elim
  ·exact h.elim
 ·exact h.elim
def ab8:SV->Bool
 | .aX .. =>G
 | _=>H
def wZ (P:Program)(ats:Array TypeId)(x y:SV)(m:Mem)(nx:Nat)(K:KL):VC :=
 match ab8 x||ab8 y with
 | false=>Bm P ats x y m nx K
 | true=>(match ats[0]?,ats[1]? with
   | some t0,A t1=>(match P.underlying t0,P.underlying t1 with
     | some (.slice elem),A d=>(match sz P elem with
       | some s=>if zn d=G then jx P elem s x y m nx K else .fail "append: make"
       | none=>.fail "append")
     | _,_=>.fail "append")
   | _,_=>.fail "append")
theorem Kq {ats:Array TypeId}{ty:TypeId}{Γ:aT}{w:World}
  (h:(wZ P ats x y m nx K).holds) (hs:aJ Γ E m nx w) (hw:Mem.wf nx m=G) :
  ∃ r w',(b5 ats ty #[x.val E,y.val E]).run P w=.ok r w'/\bx K Γ E nx r w':=by
 unfold wZ at h;split at h
 ·exact Nx h hs hw
 ·split at h
  ·rename_i t0 t1 h0 h1;split at h
   ·rename_i elem d hd hd1;split at h
    ·rename_i s hsz;split at h
     ·rename_i hni;exact CK h0 h1 hd hd1 hni hsz h hs hw
     ·exact h.elim
    ·exact h.elim
   ·exact h.elim
  ·exact h.elim
theorem vV {K':KL}(hK: ∀ u m nx,(K u m nx).holds->(K' u m nx).holds) :
  (AI elem s z n az m nx K).holds->(AI elem s z n az m nx K').holds:=λh c hc=>hK _ _ _ (h c hc)
theorem yT {K':KL}(hK: ∀ u m nx,(K u m nx).holds->(K' u m nx).holds) :
  (jx P elem s x y m nx K).holds->(jx P elem s x y m nx K').holds:=by
 unfold jx;split
 ·split
  ·split
   ·refine λx=>⟨x.1,?_⟩
    have x2:=x.2;unfold BK at x2 ⊢;split at x2
    ·exact vV hK x2
    ·split at x2
     ·split at x2
      ·rename_i hh;rw[r_ hh];exact⟨x2.1,vV hK x2.2⟩
      ·exact x2.elim
     ·exact x2.elim
    ·split at x2
     ·split at x2
      ·rename_i hh;rw[r_ hh];exact⟨x2.1,vV hK x2.2⟩
      ·exact x2.elim
     ·exact x2.elim
    ·exact x2.elim
   ·exact id
  ·exact id
 ·exact id
end
end
end Sx
namespace Sx
open Go
mutual
def SV.leaf (f:SV->SV):SV->SV
 | .agg l=>.agg (SV.nO f l)
 | .aN l=>.aN (SV.nO f l)
 | .iface t v=>.iface t (v.leaf f)
 | .func fn a b=>.func fn (SV.nO f a) (SV.nO f b)
 | .int k l n=>f (.int k l n)
 | .bool l b=>f (.bool l b)
 | .str l s=>f (.str l s)
 | .ptr k l o=>f (.ptr k l o)
 | .lS k w i j=>f (.lS k w i j)
 | .pT k b n i=>f (.pT k b n i)
 | .cD=>f .cD
 | .slc k o n l c=>f (.slc k o n l c)
 | .aX k w z i n c=>f (.aX k w z i n c)
 | .bE k w z o i n c=>f (.bE k w z o i n c)
 | .i9 k w o i j=>f (.i9 k w o i j)
 | .aO=>f .aO
 | .aC=>f .aC
 | .fM=>f .fM
 | .yield k=>f (.yield k)
 | .map k=>f (.map k)
 | .fU=>f .fU
 | .raw v=>f (.raw v)
 | .ga k a o=>f (.ga k a o)
 | .b7 k w z a i n c=>f (.b7 k w z a i n c)
 | .n7 k w a i j=>f (.n7 k w a i j)
def SV.nO (f:SV->SV):List SV->List SV
 | []=>[]
 | x::r=>x.leaf f::SV.nO f r
end
def Says (f:SV->SV)(E:Nat->Nat):Prop:=∀ v,(f v).val E=v.val E/\∀ nx,v.wf nx=G->(f v).wf nx=G
mutual
theorem SV.xb (h:Says f E):(v:SV)->(v.leaf f).val E=v.val E
 | .agg l=>by simp only[SV.leaf,SV.val,SV.oT h l]
 | .aN l=>by simp only[SV.leaf,SV.val,SV.oT h l]
 | .iface t v=>by simp only[SV.leaf,SV.val,SV.xb h v]
 | .func fn a b=>by simp only[SV.leaf,SV.val,SV.oT h a,SV.oT h b]
 | .int .. | .bool .. | .str .. | .ptr .. | .lS .. | .pT .. | .cD | .slc .. | .aX .. | .bE .. | .i9 .. | .aO | .aC | .fM | .yield .. | .map .. | .fU | .raw .. | .ga .. | .b7 .. | .n7 .. =>(h _).1
theorem SV.oT (h:Says f E):(l:List SV)->SV.vals E (SV.nO f l)=SV.vals E l
 | []=>rfl
 | x::r=>by simp only[SV.nO,SV.vals,SV.xb h x,SV.oT h r]
end
mutual
theorem SV.HY (h:Says f E):(v:SV)->v.wf nx=G->(v.leaf f).wf nx=G
 | .agg l,hw=>SV.sr h l hw
 | .aN l,hw=>SV.sr h l hw
 | .iface t v,hw=>SV.HY h v hw
 | .func fn a b,hw=>by simp only[SV.wf,S] at hw;simp only[SV.leaf,SV.wf,S];exact⟨SV.sr h a hw.1,SV.sr h b hw.2⟩
 | .int ..,hw | .bool ..,hw | .str ..,hw | .ptr ..,hw | .lS ..,hw | .pT ..,hw | .cD,hw | .slc ..,hw | .aX ..,hw | .bE ..,hw | .i9 ..,hw | .aO,hw | .aC,hw | .fM,hw | .yield ..,hw | .map ..,hw | .fU,hw | .raw ..,hw | .ga ..,hw | .b7 ..,hw | .n7 ..,hw=>(h _).2 nx hw
theorem SV.sr (h:Says f E):(l:List SV)->SV.fH nx l=G->SV.fH nx (SV.nO f l)=G
 | [],_=>rfl
 | x::r,hw=>by simp only[SV.fH,S] at hw;simp only[SV.nO,SV.fH,S];exact⟨SV.HY h x hw.1,SV.sr h r hw.2⟩
end
theorem SV.Fz : ∀ {l:List SV} {i:Nat} {u:SV},(SV.nO f l)[i]?=A u->∃ v,l[i]?=A v/\u=v.leaf f
 | [],i,u,h=>by simp[SV.nO] at h
 | x::r,0,u,h=>by simp[SV.nO] at h;exact⟨x,rfl,h.symm⟩
 | x::r,i+1,u,h=>by simp only[SV.nO,c_] at h;obtain⟨v,h1,h2⟩:=SV.Fz h;exact⟨v,by simpa using h1,h2⟩
def av.gx (g:Nat->Nat):av->av
 | .ref k f=>.ref (g k) f
 | .b7 k w z f n c=>.b7 (g k) w z f n c
 | c=>c
def cg.gx (g:Nat->Nat):cg->cg
 | .ref k f=>.ref (g k) f
 | c=>c
theorem av.mW (g E:Nat->Nat)(c:av)(i:Nat):((c.gx g).at i).val E=(c.at i).val E:=by cases c<;>rfl
theorem cg.Sv (g:Nat->Nat)(c:cg)(a:Nat):(c.gx g).at a=(c.at a).gx g:=by cases c<;>rfl
def aE.gx (g:Nat->Nat):aE->aE
 | .ref k f=>.ref (g k) f
 | c=>c
theorem aE.mW (g:Nat->Nat)(c:aE)(s:f_):(c.gx g).val s=c.val s:=by cases c<;>rfl
def SB.told (f:SV->SV)(g:Nat->Nat):SB->SB
 | .cells cs tot ty=>.cells (SV.nO f cs) tot ty
 | .rows z n az ro tot ty=>.rows z n (az.map (av.gx g)) ro tot ty
 | .view z o n az=>.view z o n (az.map (av.gx g))
 | .eD D cs tot ty ro=>.eD D (cs.map (av.gx g)) tot ty ro
 | .dQ D n az ro=>.dQ D n (az.map (cg.gx g)) ro
 | .fmap d c p=>.fmap d (c.gx g) p
 | B=>B
theorem vB {l:List av}(h:(l.map (av.gx g))[k]?=A c): ∃ c0,l[k]?=A c0/\c=c0.gx g:=by
 rw[L] at h;cases hc:l[k]? with
 | none=>rw[hc] at h;cases h
 | some c0=>rw[hc] at h;injection h with h;exact⟨c0,rfl,h.symm⟩
theorem Av {o:Nat}{ob:Obj}(h:bK E (.view z o n az) ob):bK E (.view z o n (az.map (av.gx g))) ob:=by obtain⟨c,ty,fr,h1,h2⟩:=h;refine⟨c,ty,fr,h1,λi k col hi hk=> ?_⟩;obtain⟨c0,g1,rfl⟩:=vB hk;rw[O,av.mW];exact h2 i k c0 hi g1
theorem SB.abh (hf:Says f E)(g:Nat->Nat)(B:SB)(b a:Nat)(ha:(B.told f g).gB b a):B.gB b a/\(∀ o,bK E (B.el a) o->bK E ((B.told f g).el a) o)/\((B.told f g).ro=H->B.ro=H):=by
 cases B with
 | cells cs tot ty =>refine⟨ha,λo ⟨c,fr,h1,h2,h3,h4⟩=>⟨c,fr,h1,h2,λi u hu=> ?_,h4⟩,id⟩;obtain⟨v,g1,rfl⟩:=SV.Fz hu;rw[SV.xb hf];exact h3 i v g1
 | rows z n az ro tot ty =>refine⟨ha,λo ⟨c,fr,h1,h2,h3,h4,h5⟩=>⟨c,fr,h1,h2,by rw[O];exact h3,h4,λi k col hi hk=> ?_⟩,id⟩;obtain⟨c0,g1,rfl⟩:=vB hk;rw[O,av.mW];exact h5 i k c0 hi g1
 | view z o n az=>exact⟨ha,λ_ h=>Av h,id⟩
 | eD D cs tot ty ro =>
   refine⟨ha,λo ⟨c,fr,h1,h2,h3,h4⟩=>⟨c,fr,h1,h2,λi u hu=> ?_,h4⟩,id⟩;rw[L] at hu;cases hc:(cs.map (av.gx g))[i]? with
   | none=>rw[hc] at hu;cases hu
   | some c1 =>rw[hc] at hu;injection hu with hu;subst hu;obtain⟨c0,g1,rfl⟩:=vB hc;rw[av.mW];exact h3 i (c0.at a) (by rw[L,g1];rfl)
 | dQ D n az ro =>
   refine⟨ha,λo h=> ?_,id⟩;have:=Av (g:=g) h;have e:(az.map (cg.gx g)).map (cg.at a)=(az.map (cg.at a)).map (av.gx g):=by rw[d_,d_];exact List.map_congr_left λc _=>cg.Sv g c a
   show bK E (.view H 0 (n a) ((az.map (cg.gx g)).map (cg.at a))) o;rw[e];exact this
 | loop=>exact⟨ha,λ_ h=>h,id⟩
 | map=>exact⟨ha,λ_ h=>h,id⟩
 | fmap d c p=>exact⟨ha,λ_ ⟨es,cl,h1,h2⟩=>⟨es,cl,h1,h2.st,h2.ks,λs hs=>by rw[aE.mW];exact h2.has s hs,h2.no,h2.pd⟩,id⟩
 | Zw=>exact⟨ha,λ_ h=>h,id⟩
def Mem.told (f:SV->SV)(g:Nat->Nat):Mem->Mem
 | []=>[]
 | e::r=>(e.1,e.2.told f g)::Mem.told f g r
theorem Mem.Mh : ∀ {m:Mem} {k:Nat} {B:SB},(Mem.told f g m).get k=A B->∃ B0,m.get k=A B0/\B=B0.told f g
 | [],_,_,h=>by cases h
 | e::r,k,B,h=>by
   by_cases he:e.1=k
   ·simp only[Mem.told,Mem.get,he,if_true] at h ⊢;injection h with h;exact⟨_,rfl,h.symm⟩
   ·simp only[Mem.told,Mem.get,he,if_false] at h ⊢;exact Mem.Mh h
theorem aJ.acA {Γ E m nx w}(h:aJ Γ E m nx w)(hf:Says f E)(g:Nat->Nat):aJ Γ E (Mem.told f g m) nx w:=h.conv λk Y hk=>by obtain⟨B0,h1,rfl⟩:=Mem.Mh hk;exact⟨B0,h1,λa ha=>SB.abh hf g B0 _ a ha⟩
def K2 (k a:Nat):SV->SV
 | .ptr j l o=>bif I j k then .ga k a o else .ptr j l o
 | .aX j w z i n c=>bif I j k then .b7 k w z a i n c else .aX j w z i n c
 | v=>v
theorem NX (h:E k=a):Says (K2 k a) E:=λv=>by
 cases v<;>try exact⟨rfl,λ_ h=>h⟩
 case ptr j l o =>
  simp only[K2];cases hb:I j k with
  | true=>obtain rfl:=a_ hb;exact⟨by simp[SV.val,h],λ_ _=>rfl⟩
  | false=>exact⟨rfl,λ_ h=>h⟩
 case aX j w z i n c =>
  simp only[K2];cases hb:I j k with
  | true=>obtain rfl:=a_ hb;exact⟨by simp[SV.val,h],λ_ _=>rfl⟩
  | false=>exact⟨rfl,λ_ h=>h⟩
def He (h:Nat):SV->Option av
 | .int k _ n=>A (.int k λ_=>n)
 | .bool _ b=>A (.bool λ_=>b)
 | .str _ s=>A (.str λ_=>s)
 | .ga k a 0=>A (.ref k λ_=>a)
 | .b7 k w z a 0 n c=>A (.b7 k w z (λ_=>a) (λ_=>n) λ_=>c)
 | .aO=>A (.b7 h 1 G (λ_=>0) (λ_=>0) λ_=>0)
 | .raw v=>A (.raw λ_=>v)
 | .cD=>A (.raw λ_=>.pointer C)
 | _=>C
theorem JE {h:Nat}{v:SV}(hc:He h v=A c)(E:Nat->Nat)(a:Nat):(c.at a).val E=v.val E:=by unfold He at hc;split at hc<;>first | (injection hc with hc;subst hc;rfl) | cases hc
def rP (h:Nat):List SV->Option (List av)
 | []=>A []
 | v::r=>match He h v,rP h r with
   | some c,A l=>A (c::l)
   | _,_=>C
theorem wF {h:Nat}(E:Nat->Nat)(a:Nat): ∀ {l:List SV} {cs:List av},rP h l=A cs->(cs.map (av.at a)).map (SV.val E)=l.map (SV.val E)
 | [],cs,hc=>by simp[rP] at hc;subst hc;rfl
 | v::r,cs,hc=>by
   simp only[rP] at hc;split at hc
   ·rename_i c l h1 h2;injection hc with hc;subst hc;simp only[aW,JE h1 E a,wF E a h2]
   ·cases hc
def av.VO:av->Option cg
 | .int k f=>A (.int k λ_=>f)
 | .bool f=>A (.bool λ_=>f)
 | .str f=>A (.str λ_=>f)
 | .ref k f=>A (.ref k λ_=>f)
 | _=>C
theorem av.VP {d:cg}(h:c.VO=A d)(a:Nat):d.at a=c:=by cases c<;>simp only[av.VO] at h<;>first | (injection h with h;subst h;rfl) | cases h
def Cf:List av->Option (List cg)
 | []=>A []
 | c::r=>match c.VO,Cf r with
   | some d,A l=>A (d::l)
   | _,_=>C
theorem Fi (a:Nat): ∀ {l:List av} {d:List cg},Cf l=A d->d.map (cg.at a)=l
 | [],d,h=>by simp[Cf] at h;subst h;rfl
 | c::r,d,h=>by
   simp only[Cf] at h;split at h
   ·rename_i x l h1 h2;injection h with h;subst h;simp only[aW,av.VP h1 a,Fi a h2]
   ·cases h
def Qe (h a:Nat):SB->Option SB
 | .cells cs tot ty=>(match rP h cs with
   | some az=>A (.eD (λb=>I b a) az tot ty H)
   | none=>C)
 | .rows z n az H _ _=>(match Cf az with
   | some d=>A (.dQ (λb=>I b a&& !(z&&I n 0)) (λ_=>n) d H)
   | none=>C)
 | _=>C
theorem VI {h:Nat}(hF:Qe h a B=A F)(E:Nat->Nat)(x:Nat)(hx:F.gB a x):B.gB a x/\(∀ o,bK E (B.el x) o->bK E (F.el x) o)/\(F.ro=H->B.ro=H):=by
 unfold Qe at hF;split at hF
 ·rename_i cs tot ty;split at hF
  ·rename_i az hc;injection hF with hF;subst hF;have hx:I x a=true:=hx;obtain rfl:=a_ hx;refine⟨⟨rfl,rfl⟩,λo ⟨c,fr,h1,h2,h3,h4⟩=>⟨c,fr,h1,h2,λi v hv=> ?_,h4⟩,λ_=>rfl⟩;have e:=wF E x hc;have:((az.map (av.at x)).map (SV.val E))[i]?=A (v.val E):=by rw[L,hv];rfl
   rw[e,L] at this;cases hi:cs[i]? with
   | none=>rw[hi] at this;cases this
   | some u=>rw[hi] at this;injection this with this;rw[← this];exact h3 i u hi
  ·cases hF
 ·rename_i z n az tot ty;split at hF
  ·rename_i d hd;injection hF with hF;subst hF;have hx:(I x a&& !(z&&I n 0))=true:=hx;simp only[S,Bool.not_eq_true'] at hx;obtain rfl:=a_ hx.1;refine⟨⟨hx.2,rfl⟩,λo ⟨c,fr,h1,h2,h3,h4,h5⟩=> ?_,λ_=>rfl⟩;show bK E (.view H 0 n (d.map (cg.at x))) o;rw[Fi x hd];exact⟨c,ty,fr,h1,λi k col hi hk=>by rw[Q];exact h5 i k col hi hk⟩
  ·cases hF
 ·cases hF
def C2 (D:Nat->Bool):av->av->Option av
 | .int k f,.int k' g=>if k=k' then A (.int k λb=>bif D b then f b else g b)else C
 | .bool f,.bool g=>A (.bool λb=>bif D b then f b else g b)
 | .str f,.str g=>A (.str λb=>bif D b then f b else g b)
 | .raw f,.raw g=>A (.raw λb=>bif D b then f b else g b)
 | .ref k f,.ref _ g=>A (.ref k λb=>bif D b then f b else g b)
 | .b7 k w z f n c,.b7 _ w' z' f' n' c'=>if w=w'/\z=z' then A (.b7 k w z (λb=>bif D b then f b else f' b) (λb=>bif D b then n b else n' b) λb=>bif D b then c b else c' b)else C
 | _,_=>C
theorem Il {D:Nat->Bool}{d e:av}(h:C2 D c d=A e)(E:Nat->Nat)(b:Nat):(e.at b).val E=bif D b then(c.at b).val E else(d.at b).val E:=by
 unfold C2 at h
 split at h<;>first
  | (injection h with h;subst h;cases hb:D b<;>simp[av.at,SV.val,hb];done)
  | (split at h
     ·rename_i e
      first | subst e | obtain⟨rfl,rfl⟩:=e
      injection h with h;subst h;cases hb:D b<;>simp[av.at,SV.val,hb]
     ·cases h)
  | cases h
def o5 (D:Nat->Bool):List av->List av->Option (List av)
 | [],[]=>A []
 | c::r,d::s=>match C2 D c d,o5 D r s with
   | some e,A l=>A (e::l)
   | _,_=>C
 | _,_=>C
theorem uR {D:Nat->Bool}(E:Nat->Nat)(b:Nat): ∀ {c d e:List av},o5 D c d=A e->(e.map (av.at b)).map (SV.val E)=bif D b then(c.map (av.at b)).map (SV.val E)else(d.map (av.at b)).map (SV.val E)
 | [],[],e,h=>by simp[o5] at h;subst h;cases D b<;>rfl
 | c::r,d::s,e,h=>by
   simp only[o5] at h;split at h
   ·rename_i x l h1 h2;injection h with h;subst h;have:=uR E b h2;simp only[aW,Il h1 E b,this];cases D b<;>rfl
   ·cases h
 | [],_::_,_,h=>by cases h
 | _::_,[],_,h=>by cases h
def zc (D:Nat->Bool):cg->cg->Option cg
 | .int k f,.int k' g=>if k=k' then A (.int k λb i=>bif D b then f b i else g b i)else C
 | .bool f,.bool g=>A (.bool λb i=>bif D b then f b i else g b i)
 | .str f,.str g=>A (.str λb i=>bif D b then f b i else g b i)
 | .ref k f,.ref _ g=>A (.ref k λb i=>bif D b then f b i else g b i)
 | _,_=>C
theorem Ez {D:Nat->Bool}{c d e:cg}(h:zc D c d=A e)(E:Nat->Nat)(b i:Nat):(((e.at b).at i)).val E=bif D b then((c.at b).at i).val E else((d.at b).at i).val E:=by
 unfold zc at h
 split at h<;>first
  | (injection h with h;subst h;cases hb:D b<;>simp[cg.at,av.at,SV.val,hb];done)
  | (split at h
     ·rename_i e;subst e;injection h with h;subst h;cases hb:D b<;>simp[cg.at,av.at,SV.val,hb]
     ·cases h)
  | cases h
def m6 (D:Nat->Bool):List cg->List cg->Option (List cg)
 | [],[]=>A []
 | c::r,d::s=>match zc D c d,m6 D r s with
   | some e,A l=>A (e::l)
   | _,_=>C
 | _,_=>C
theorem sB {D:Nat->Bool}(E:Nat->Nat)(b:Nat): ∀ {c d e:List cg},m6 D c d=A e->e.length=(bif D b then c else d).length /\
  ∀(k:Nat) (x:av),(e.map (cg.at b))[k]?=A x->∃ y:av,((bif D b then c else d).map (cg.at b))[k]?=A y/\∀ i,(x.at i).val E=(y.at i).val E
 | [],[],e,h=>by simp[m6] at h;subst h;cases D b<;>exact⟨rfl,λk x hx=>by simp at hx⟩
 | c::r,d::s,e,h=>by
   simp only[m6] at h;split at h
   ·rename_i x l h1 h2;injection h with h;subst h;obtain⟨g1,g2⟩:=sB E b h2;have g3:=Ez h1 E b;cases hb:D b with
    | true =>
      rw[hb] at g1 g2 g3;refine⟨by simpa using g1,λk x hx=> ?_⟩;cases k with
      | zero=>simp at hx;subst hx;exact⟨c.at b,rfl,g3⟩
      | succ k=>exact g2 k x (by simpa using hx)
    | false =>
      rw[hb] at g1 g2 g3;refine⟨by simpa using g1,λk x hx=> ?_⟩;cases k with
      | zero=>simp at hx;subst hx;exact⟨d.at b,rfl,g3⟩
      | succ k=>exact g2 k x (by simpa using hx)
   ·cases h
 | [],_::_,_,h=>by cases h
 | _::_,[],_,h=>by cases h
def xm:SB->SB->Option SB
 | .eD D cs tot ty ro,.eD D' cs' tot' ty' ro'=>if tot=tot'/\ty=ty'/\ro=ro' then(match o5 D cs cs' with
   | some l=>A (.eD (λb=>D b||D' b) l tot ty ro)
   | none=>C)else C
 | .dQ D n az ro,.dQ D' n' cols' ro'=>if ro=ro' then(match m6 D az cols' with
   | some l=>A (.dQ (λb=>D b||D' b) (λb=>bif D b then n b else n' b) l ro)
   | none=>C)else C
 | _,_=>C
theorem NS {B1 B2:SB}(h:xm B1 B2=A F)(E:Nat->Nat){b b1 b2 x:Nat}(hx:F.gB b x):(B1.gB b1 x/\(∀ o,bK E (B1.el x) o->bK E (F.el x) o)/\F.ro=B1.ro)∨(B2.gB b2 x/\(∀ o,bK E (B2.el x) o->bK E (F.el x) o)/\F.ro=B2.ro):=by
 unfold xm at h;split at h
 ·rename_i D cs tot ty ro D' cs' tot' ty' ro';split at h
  ·rename_i e;obtain⟨rfl,rfl,rfl⟩:=e;split at h
   ·rename_i l hl;injection h with h;subst h;have hv:=uR E x hl;have key: ∀ {c2:List av},(l.map (av.at x)).map (SV.val E)=(c2.map (av.at x)).map (SV.val E)->∀ o,bK E (.cells (c2.map (av.at x)) tot ty) o->bK E (.cells (l.map (av.at x)) tot ty) o:=by
     intro c2 e o ⟨c,fr,h1,h2,h3,h4⟩;refine⟨c,fr,h1,h2,λi v hv=> ?_,h4⟩;have:((l.map (av.at x)).map (SV.val E))[i]?=A (v.val E):=by rw[L,hv];rfl
     rw[e,L] at this;cases hi:(c2.map (av.at x))[i]? with
     | none=>rw[hi] at this;cases this
     | some u=>rw[hi] at this;injection this with this;rw[← this];exact h3 i u hi
    have hx:(D x||D' x)=true:=hx;cases hd:D x with
    | true=>rw[hd] at hv;exact .inl ⟨hd,key hv,rfl⟩
    | false=>rw[hd] at hv hx;exact .inr ⟨hx,key hv,rfl⟩
   ·cases h
  ·cases h
 ·rename_i D n az ro D' n' cols' ro';split at h
  ·rename_i e;subst e;split at h
   ·rename_i l hl;injection h with h;subst h;obtain⟨g1,g2⟩:=sB E x hl;have hx:(D x||D' x)=true:=hx;have key: ∀ {c2:List cg} {n2:Nat},l.length=c2.length->(∀(k:Nat) (y:av),(l.map (cg.at x))[k]?=A y->∃ z:av,(c2.map (cg.at x))[k]?=A z/\∀ i,(y.at i).val E=(z.at i).val E)->∀ o,bK E (.view H 0 n2 (c2.map (cg.at x))) o->bK E (.view H 0 n2 (l.map (cg.at x))) o:=by intro c2 n2 e1 e2 o ⟨c,ty,fr,h1,h2⟩;refine⟨c,ty,fr,h1,λi k col hi hk=> ?_⟩;obtain⟨z,z1,z2⟩:=e2 k col hk;rw[O,e1,z2];have:=h2 i k z hi z1;rw[O] at this;exact this
    cases hd:D x with
    | true =>
      rw[hd] at g1 g2;refine .inl ⟨hd,λo ho=> ?_,rfl⟩;show bK E (.view H 0 (bif D x then n x else n' x) (l.map (cg.at x))) o
      rw[hd];exact key g1 g2 o ho
    | false =>
      rw[hd] at g1 g2 hx;refine .inr ⟨hx,λo ho=> ?_,rfl⟩;show bK E (.view H 0 (bif D x then n x else n' x) (l.map (cg.at x))) o
      rw[hd];exact key g1 g2 o ho
   ·cases h
  ·cases h
 ·cases h
theorem aJ.merged {Γ E m nx w}(h:aJ Γ E m nx w){k1 k2:Nat}(hne:k1≠k2){B1 B2:SB}(h1:m.get k1=A B1)(h2:m.get k2=A B2)(hF:xm B1 B2=A F):aJ Γ E ((m.drop k2).put k1 F) nx w:=by
 have hg: ∀ {j Y a},((m.drop k2).put k1 F).get j=A Y->Y.gB (E j) a->∃ i X,m.get i=A X/\X.gB (E i) a/\(∀ o,bK E (X.el a) o->bK E (Y.el a) o)/\Y.ro=X.ro/\(i=j∨(i=k2/\j=k1))/\(i=k2->j=k1):=λ{j Y a} hj ha=>by
  rcases Mem.gJ hj with ⟨rfl,rfl,_⟩ | ⟨_,hj⟩
  ·rcases NS hF E (b1:=E j) (b2:=E k2) ha with ⟨g1,g2,g3⟩ | ⟨g1,g2,g3⟩
   ·exact⟨j,B1,h1,g1,g2,g3,.inl rfl,λe=>absurd e hne⟩
   ·exact⟨k2,B2,h2,g1,g2,g3,.inr ⟨rfl,rfl⟩,λ_=>rfl⟩
  ·obtain⟨g1,g2⟩:=Mem.fK hj;exact⟨j,Y,g2,ha,λ_ h=>h,rfl,.inl rfl,λe=>absurd e g1⟩
 refine⟨λj Y a hj ha=> ?_,λj j' Y Y' a hj ha hj' ha' hr=> ?_,λj Y hj=> ?_,λj Y a hj ha hr=> ?_,h.ext,h.cx,h.kp⟩
 ·obtain⟨i,X,g1,g2,g3,_⟩:=hg hj ha;obtain⟨o,ho,hb⟩:=h.hJ i X a g1 g2;exact⟨o,ho,g3 o hb⟩
 ·obtain⟨i,X,g1,g2,_,g4,g5,g6⟩:=hg hj ha;obtain⟨i',X',q1,q2,_,q4,q5,q6⟩:=hg hj' ha';have:=h.iw i i' X X' a g1 g2 q1 q2 (by rw[← g4,← q4];exact hr);subst this;by_cases e:i=k2
  ·rw[g6 e,q6 e]
  ·rcases g5 with g5 | ⟨g5,_⟩
   ·rcases q5 with q5 | ⟨q5,_⟩
    ·exact g5.symm.trans q5
    ·exact absurd q5 e
   ·exact absurd g5 e
 ·rcases Mem.gJ hj with ⟨rfl,_,_⟩ | ⟨_,hj⟩
  ·exact h.lt _ _ h1
  ·exact h.lt _ _ (Mem.fK hj).2
 ·obtain⟨i,X,g1,g2,_,g4,_⟩:=hg hj ha;exact h.iT i X a g1 g2 (by rw[← g4];exact hr)
def Cv (k2 k1:Nat):SV->SV
 | .ga j a o=>.ga (bif I j k2 then k1 else j) a o
 | .b7 j w z a i n c=>.b7 (bif I j k2 then k1 else j) w z a i n c
 | .n7 j w a i k=>.n7 (bif I j k2 then k1 else j) w a i k
 | v=>v
theorem Nk (E:Nat->Nat)(k2 k1:Nat):Says (Cv k2 k1) E:=λv=>by cases v<;>exact⟨rfl,λ_ h=>h⟩
inductive Gh where
 | name (k h:Nat)
 | merge (k1 k2:Nat)
def sZ (f:SV->SV):List (Option SV)->List (Option SV)
 | []=>[]
 | some v::r=>A (v.leaf f)::sZ f r
 | none::r=>C::sZ f r
def SB.dom:SB->Nat->Bool
 | .eD D _ _ _ _=>D
 | .dQ D _ _ _=>D
 | _=>λ_=>H
theorem SB.PU {b:Nat}(h:B.dom a=G):B.gB b a:=by cases B<;>first | exact h | cases h
def Um:List Gh->List (Option SV)->Mem->(List (Option SV)->Mem->VC)->VC
 | [],tmps,m,K=>K tmps m
 | .name k h::r,tmps,m,K=>(match m.get k with
   | some B=>.all Nat λa=>(match Qe h a B with
     | some F=>Um r (sZ (K2 k a) tmps) (Mem.told (K2 k a) id (m.put k F)) K
     | none=>.fail "name: what block")
   | none=>.fail "name: no block")
 | .merge k1 k2::r,tmps,m,K=>if k1=k2 then .fail "merge: one" else(match m.get k1,m.get k2 with
   | some B1,A B2=>(match xm B1 B2 with
     | some F=>(match B1.ro with
       | false=>.imp (∀ b,B1.dom b=G->B2.dom b=H) (Um r (sZ (Cv k2 k1) tmps) (Mem.told (Cv k2 k1) (λj=>bif I j k2 then k1 else j) ((m.drop k2).put k1 F)) K)
       | true=>.fail "merge: read only")
     | none=>.fail "merge: other families")
   | _,_=>.fail "merge: no family")
structure uF (E:Nat->Nat)(t t':List (Option SV)):Prop where
 len:t'.length=t.length
 get: ∀(i:Nat) (v':SV),t'[i]?=A (A v')->∃ v:SV,t[i]?=A (A v)/\v'.val E=v.val E/\∀ nx,v.wf nx=G->v'.wf nx=G
theorem uF.refl (E:Nat->Nat)(t:List (Option SV)):uF E t t:=⟨rfl,λ_i v h=>⟨v,h,rfl,λ_ h=>h⟩⟩
theorem uF.trans {a b c:List (Option SV)}(h:uF E a b)(h':uF E b c):uF E a c :=
 ⟨h'.len.trans h.len,λi v hv=>by obtain⟨u,h1,h2,h3⟩:=h'.get i v hv;obtain⟨x,g1,g2,g3⟩:=h.get i u h1;exact⟨x,g1,h2.trans g2,λnx hx=>h3 nx (g3 nx hx)⟩⟩
theorem qR {f:SV->SV}{E:Nat->Nat}(hf:Says f E): ∀(t:List (Option SV)),uF E t (sZ f t)
 | []=>uF.refl E []
 | none::r=>by
   have:=qR hf r;refine⟨by simp[sZ,this.len],λi v h=> ?_⟩;cases i with
   | zero=>simp[sZ] at h
   | succ i=>exact this.get i v (by simpa [sZ] using h)
 | some x::r=>by
   have:=qR hf r;refine⟨by simp[sZ,this.len],λi v h=> ?_⟩;cases i with
   | zero=>simp[sZ] at h;subst h;exact⟨x,rfl,SV.xb hf x,λnx hx=>SV.HY hf x hx⟩
   | succ i=>exact this.get i v (by simpa [sZ] using h)
theorem Ck {K K':List (Option SV)->Mem->VC}(h: ∀ t m,(K t m).holds->(K' t m).holds): ∀ {l:List Gh} {tmps:List (Option SV)} {m:Mem},(Um l tmps m K).holds->(Um l tmps m K').holds
 | [],_,_,hh=>h _ _ hh
 | .name k x::r,tmps,m,hh=>by
   simp only[Um] at hh ⊢;revert hh;cases m.get k with
   | none=>exact id
   | some B =>
     intro hh a;have hh:=hh a;revert hh;dsimp only;cases Qe x a B with
     | none=>exact id
     | some F=>exact Ck h
 | .merge k1 k2::r,tmps,m,hh=>by
   simp only[Um] at hh ⊢;revert hh;by_cases e:k1=k2
   ·rw[r_ e,r_ e];exact id
   ·rw[s_ e,s_ e];cases m.get k1 with
    | none=>exact id
    | some B1=>cases m.get k2 with
      | none=>exact id
      | some B2 =>
        dsimp only;cases xm B1 B2 with
        | none=>exact id
        | some F =>
          dsimp only;cases B1.ro with
          | true=>exact id
          | false=>exact λhh hd=>Ck h (hh hd)
theorem oQ {Γ:aT}{E:Nat->Nat}{nx:Nat}{w:World}: ∀ {l:List Gh} {tmps:List (Option SV)} {m:Mem} {K:List (Option SV)->Mem->VC},(Um l tmps m K).holds->aJ Γ E m nx w ->
  ∃ tmps' m',uF E tmps tmps'/\aJ Γ E m' nx w/\(K tmps' m').holds
 | [],tmps,m,K,h,hs=>⟨tmps,m,uF.refl E tmps,hs,h⟩
 | .name k hh::r,tmps,m,K,h,hs=>by
   simp only[Um] at h;split at h
   ·rename_i B hB;have h:=h (E k);dsimp only at h;split at h
    ·rename_i F hF;have hs1:aJ Γ E (m.put k F) nx w:=hs.conv λj Y hj=>by
      rcases Mem.gJ hj with ⟨rfl,rfl,_⟩ | ⟨_,hj⟩
      ·exact⟨B,hB,λa ha=>VI hF E a ha⟩
      ·exact⟨Y,hj,λa ha=>⟨ha,λ_ h=>h,id⟩⟩
     have hf:=NX (E:=E) (k:=k) rfl;obtain⟨t',m',g1,g2,g3⟩:=oQ h (hs1.acA hf id);exact⟨t',m',(qR hf tmps).trans g1,g2,g3⟩
    ·exact h.elim
   ·exact h.elim
 | .merge k1 k2::r,tmps,m,K,h,hs=>by
   simp only[Um] at h;split at h
   ·exact h.elim
   ·rename_i hne;split at h
    ·rename_i B1 B2 h1 h2;split at h
     ·rename_i F hF;cases hro:B1.ro with
      | true=>rw[hro] at h;exact h.elim
      | false =>
        rw[hro] at h;have hd: ∀ b,B1.dom b=G->B2.dom b=false:=λb hb=>by
         cases hb2:B2.dom b with
         | false=>rfl
         | true=>exact absurd (hs.iw k1 k2 B1 B2 b h1 (SB.PU hb) h2 (SB.PU hb2) (.inl hro)) hne
        have hf:=Nk E k2 k1;obtain⟨t',m',g1,g2,g3⟩:=oQ (h hd) ((hs.merged hne h1 h2 hF).acA hf _);exact⟨t',m',(qR hf tmps).trans g1,g2,g3⟩
     ·exact h.elim
    ·exact h.elim
end Sx
end Go.Proofs.YtoibaecagklkaaaGreatDoor
