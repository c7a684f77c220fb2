/- A part of the proof. -/
import Derived.Test.YtoibaecagklkaaaGreatDoorMe
open Array renaming all_eq_true'->bf,getD_eq_getD_getElem?->L,getElem?_eq_getElem->M,getElem?_setIfInBounds->bl
open Bool renaming and_eq_true->G,and_true->V,false->D,not_eq_true'->an,or_eq_true->ay,true->C
open Go.Op renaming operands->O
open List renaming all_eq_true->T,contains_iff_mem->bn,erase_comm->a!,getD_eq_getElem?_getD->bU,length_cons->bW,length_erase_of_mem->W,mem_append->b_,mem_cons->F,mem_cons_of_mem->b!,mem_erase_of_ne->Y,mem_filter->Z,mem_map->cj,mem_of_mem_erase->I,mem_range->ct,mem_singleton->a_
open Option renaming getD_some->ag,map_some->cx,none->J,some->A
namespace Go.Proofs.YtoibaecagklkaaaGreatDoor
open Go Sx
variable {ops:Array Oper}{K K':KL}{rd:List (Nat×Nat)}{tmps tmps':List (Option SV)}{masks:List Nat}{m:Mem}{i j nx nx':Nat}{o:Oper}{σ σ':Operand->Option SV}{x:Option SV}{P:Program}{st:St}{t:TypeId}{call:yW->PT}
namespace Sx
open Go
noncomputable section
theorem J3 {σ σ':Operand->Option SV}: ∀ {l:List Operand},(∀ x∈ l,σ x=σ' x)->Yk σ l=Yk σ' l
 | [],_=>rfl
 | x::r,h=>by simp only[Yk];rw[h x (by simp),J3 λy hy=>h y (by simp[hy])]
theorem yB {σ σ':Operand->Option SV}: ∀ {l:List (Nat×Operand)},(∀ p∈ l,σ p.2=σ' p.2)->partsOf σ l=partsOf σ' l
 | [],_=>rfl
 | (i,x)::r,h=>by simp only[partsOf];rw[h (i,x) (by simp),yB λp hp=>h p (by simp[hp])]
theorem Co {d:Bool×Int}{x:Option Operand}(h: ∀ y,x=A y->σ y=σ' y):bound σ d x=bound σ' d x:=by
 cases x with
 | none=>rfl
 | some y=>grind [Sx.bound]
def keyOf (σ:Operand->Option SV):Op->Option Nat
 | .load _ a=>(match σ a with
   | some (.ptr key _ _)=>A key
   | some (.uI key _ _ _)=>A key
   | some (.qi key _ _ _ _)=>A key
   | some (.Aq key _ _ _)=>A key
   | some (.l7 key _ _)=>A key
   | some (.yp key _ _ _ _)=>A key
   | _=>J)
 | .convert _ _ a=>(match σ a with
   | some (.slc key _ _ _ _)=>A key
   | some (.bY key _ _ _ _ _)=>A key
   | _=>J)
 | .lookup _ x _ _=>(match σ x with
   | some (.map key)=>A key
   | _=>J)
 | .call c=>(match c.args.toList with
   | [x]=>(match σ x with
     | some (.map key)=>A key
     | _=>J)
   | _=>J)
 | _=>J
theorem akZ {look look':vn}{o:Op}{K:Option SV->VC}(h: ∀ x∈ o.operands,σ x=σ' x)(hl: ∀ k,keyOf σ o=A k->look k=look' k) :
  qop P look σ o K=qop P look' σ' o K:=by
 cases o<;>simp only[O] at h<;>simp only[qop]
 case move x=>grind
 case assign x=>grind
 case pick c a b=>grind
 case load t a =>
  simp only[keyOf] at hl;rw[h a (by simp)] at hl ⊢;unfold ag6;cases P.underlying t with
  | none=>rfl
  | some d =>grind
 case nilCheck x=>grind
 case binOp op t x y yt=>grind
 case unOp op t x=>grind
 case convert s d x =>
  simp only[keyOf] at hl;rw[h x (by simp)] at hl ⊢;cases hx:σ' x with
  | none=>rfl
  | some a =>
    simp only[need,WK];split
    ·unfold aeI
     grind
    ·rfl
 case makeInterface t x=>grind
 case makeFunc fn a b =>grind [J3]
 case slice t x lo hi mx =>
  have hx:=h x (by simp);have hlo: ∀ d,bound σ d lo=bound σ' d lo:=(by grind [Co])
  have hhi: ∀ d,bound σ d hi=bound σ' d hi:=(by grind [Co])
  have hmx: ∀ d,bound σ d mx=bound σ' d mx:=(by grind [Co])
  unfold WN;rw[hx];have e1: ∀ l s,zF σ l s lo hi K=zF σ' l s lo hi K:=(by grind [zF])
  have e2: ∀ m a key o n cl c,s9 σ m a key o n cl c lo hi K=s9 σ' m a key o n cl c lo hi K:=(by grind [s9])
  have e3: ∀ key w i n c,s8 σ key w i n c lo hi K=s8 σ' key w i n c lo hi K:=(by grind [s8])
  have e7: ∀ key w o i n c,wG σ key w o i n c lo hi K=wG σ' key w o i n c lo hi K:=(by grind [wG])
  have e4: ∀ key o n,zE σ key o n lo hi K=zE σ' key o n lo hi K:=(by grind [zE])
  have e5: ∀ n,Ey σ n lo hi=Ey σ' n lo hi:=(by grind [Ey])
  have e6: ∀ m key o n c z,mx=A z->A2 σ m key o n c lo hi z K=A2 σ' m key o n c lo hi z K:=λ_ _ _ _ _ z hz=>by simp_all [Sx.A2]
  split
  ·exact e1 _ _
  ·grind
  ·grind
  ·grind
  ·grind
  ·grind
  ·grind
  ·rfl
 case fieldAddr s x f=>grind
 case field t x f=>grind
 case indexAddr t x i=>grind
 case index t x i=>grind
 case typeAssert x t at_ ok=>grind
 case extract x i=>grind
 case build t parts =>grind [yB,WJ]
 case lookup t x k ok =>
  simp only[keyOf] at hl;rw[h x (by simp)] at hl ⊢;rw[h k (by simp)];unfold need;cases hx:σ' x with
  | none=>rfl
  | some v =>
    cases σ' k with
    | none=>rfl
    | some u =>
      simp only;unfold NC
      grind
 case call c =>
  obtain⟨callee,args,ats⟩:=c;cases callee with
  | value f=>rfl
  | invoke r m=>rfl
  | builtin b =>
    simp only[Call.operands] at h;simp only;unfold ag3;split
    ·rename_i x hx
     have hxe:=h x (by simp;have:x∈ args.toList:=by rw[hx];simp
                       grind)
     rw[hxe];cases args_ty:ats[0]? with
     | none=>rfl
     | some t =>
       simp only;unfold need;cases hv:σ' x with
       | none=>rfl
       | some v =>
         simp only;unfold ag5
         grind [keyOf]
    ·rename_i x hx;rw[h x (by simp;have:x∈ args.toList:=by rw[hx];simp
                              grind)]
    ·rename_i x y hx;have h1:x∈ args.toList:=by rw[hx];simp
     have h2:y∈ args.toList:=by rw[hx];simp
     grind
    ·rename_i x y hx;have h1:x∈ args.toList:=by rw[hx];simp
     have h2:y∈ args.toList:=by rw[hx];simp
     grind
    ·rfl
theorem tV {o:Op}(h: ∀ x∈ o.operands,σ x=σ' x):keyOf σ o=keyOf σ' o:=by
 cases o<;>simp only[keyOf]
 case load t a=>grind [O]
 case convert s d a=>grind [O]
 case lookup t x k ok=>grind [O]
 grind [O,Call.operands]
theorem aku {o:Op}(h: ∀ x∈ o.operands,σ x=σ' x):lop P call σ m nx o K=lop P call σ' m nx o K:=by
 cases o<;>simp only[O] at h<;>simp only[lop]
 case box t x=>grind
 case buildSlice t len parts =>grind [yB,tX]
 case makeSlice t x y=>grind
 case store t a x=>grind
 case makeMap t r=>cases r with
  | none=>rfl
  | some x=>grind
 case mapUpdate t x k v=>grind
 case insert t x k v=>grind
 case mapEntry t x k=>grind
 case entryStore t x k v=>grind
 case range t x=>grind
 case next x b=>grind
 case panic x=>grind
 grind [J3,Yk,Call.operands,LJ,invoke,builtin]
def bC (pt:PT):Prop:=∀ args m nx (K K':SV->Mem->Nat->VC),(∀ v m nx,(K v m nx).holds->(K' v m nx).holds)->(pt args m nx K).holds->(pt args m nx K').holds
theorem anJ {l:Bool}{c:Prop}[Decidable c]{t t':VC}(h:t.holds->t'.holds):(E7 l c t).holds->(E7 l c t').holds:=by
 unfold E7;cases l
 ·exact λx=>⟨x.1,h x.2⟩
 grind
theorem KD {t t':SV->VC}(h: ∀ v,(t v).holds->(t' v).holds):(need x t).holds->(need x t').holds:=by
 cases x with
 | none=>exact id
 | some v=>exact h v
theorem vw {d:TypeDesc}{k:SV}{t t':Hit->VC}(h: ∀ r,(t r).holds->(t' r).holds): ∀ {es:List (Nat×SV×SV)} {i:Nat},(nP d k t es i).holds->(nP d k t' es i).holds
 | [],i,hh=>h _ hh
 | e::r,i,hh=>by
   unfold nP at hh ⊢;split at hh
   ·split at hh
    ·exact h _ hh
    ·exact vw h hh
   ·rw[dY] at hh ⊢;split at hh
    ·exact h _ hh
    ·exact vw h hh
   ·exact hh
theorem JD {k:Option SV}{f f':TypeDesc->SV->Nat->List (Nat×SV×SV)->Nat->SV->VC}(h: ∀ d kv key es clock z,(f d kv key es clock z).holds->(f' d kv key es clock z).holds) :
  (Bp P t x k m f).holds->(Bp P t x k m f').holds:=by
 unfold Bp;split
 ·grind
 ·exact id
theorem M1 {k v:Option SV}(h: ∀ v m nx,(K v m nx).holds->(K' v m nx).holds):(sX P t x k v m nx K).holds->(sX P t x k v m nx K').holds:=by
 unfold sX;refine JD λd kv key es clock z=> ?_;split
 ·grind [vw]
 ·exact id
theorem ON {k:Option SV}(h: ∀ v m nx,(K v m nx).holds->(K' v m nx).holds):(vL P t x k m nx K).holds->(vL P t x k m nx K').holds:=by grind [JD,vw,vL]
theorem Kh {s v:Option SV}(h: ∀ v m nx,(K v m nx).holds->(K' v m nx).holds):(qE x s v m nx K).holds->(qE x s v m nx K').holds:=by
 unfold qE
 grind
theorem VW {ats:Array TypeId}{x k:SV}(_h: ∀ v m nx,(K v m nx).holds->(K' v m nx).holds):(Nv P ats x k m nx K).holds->(Nv P ats x k m nx K').holds:=id
theorem Ze (_h: ∀ v m nx,(K v m nx).holds->(K' v m nx).holds):(Wf P t x m nx K).holds->(Wf P t x m nx K').holds:=id
theorem aea {s:Bool}(_h: ∀ v m nx,(K v m nx).holds->(K' v m nx).holds):(agR x s m nx K).holds->(agR x s m nx K').holds:=id
theorem Zc (hm: ∀ f,bC (call f)){o:Op}(h: ∀ v m nx,(K v m nx).holds->(K' v m nx).holds) :
  (lop P call σ m nx o K).holds->(lop P call σ m nx o K').holds:=by
 have hnew: ∀ t z,(We t z m nx K).holds->(We t z m nx K').holds:=by grind [We,id]
 have hupd: ∀ t x k v,(n8 P t x k v m nx K).holds->(n8 P t x k v m nx K').holds:=λt x k v=>by
  unfold n8;split
  ·have hfu: ∀ key f c (v:Option SV) m,(qp P t key f c k v m nx K).holds->(qp P t key f c k v m nx K').holds:=λkey f c v m=>by
    unfold qp
    grind
   grind [Ot]
  exact M1 h
 have hgrown: ∀ e n cs s m nx,(grown e n cs s m nx K).holds->(grown e n cs s m nx K').holds:=λe n cs s m nx x c hc=>h _ _ _ (x c hc);unfold lop;split
 ·grind
 ·grind [KD]
 ·unfold tX;split
  ·grind [Sx.sz,Sx.mO,Sx.partsOf,Sx.CB,Sx.times,Sx.aec]
  ·exact id
 ·refine KD λa=>KD λb=> ?_;unfold LK;split
  ·grind [anJ]
  ·split
   ·split
    ·split
     ·exact λhh=>⟨hh.1,h _ _ _ hh.2⟩
     ·exact id
    ·exact id
   ·exact id
  ·exact id
 ·unfold yA;split
  ·grind
  ·split
   ·split
    ·split
     ·exact λx=>⟨x.1,h _ _ _ x.2⟩
     ·exact id
    ·exact id
   ·split
    ·exact λx=>⟨x.1,h _ _ _ x.2⟩
    ·exact id
   ·exact id
  ·split
   ·split
    ·split
     ·exact λx=>⟨x.1,h _ _ _ x.2⟩
     ·exact id
    ·exact id
   ·exact id
  ·split
   ·split
    ·split
     ·split
      ·exact λx=>⟨x.1,h _ _ _ x.2⟩
      ·exact id
     ·exact id
    ·exact id
   ·exact id
  ·split
   ·split
    ·split
     ·exact λx=>⟨x.1,h _ _ _ x.2⟩
     ·exact id
    ·exact id
   ·exact id
  ·exact id
 ·unfold LJ;split
  ·split
   ·exact hm _ _ _ _ _ _ λv m nx=>h _ _ _
   ·exact hm _ _ _ _ _ _ λv m nx=>h _ _ _
   ·exact id
  ·split
   ·split
    ·split
     ·exact hm _ _ _ _ _ _ λv m nx=>h _ _ _
     ·exact id
    ·exact id
   ·exact id
  ·unfold HI;split
   ·unfold Nu;split
    ·split
     ·split
      ·split
       ·split
        ·unfold Kk;split
         ·split
          ·split
           ·grind
           ·grind
           ·split
            ·split
             ·exact λx=>⟨x.1,λc hc=>h _ _ _ (x.2 c hc)⟩
             ·exact id
            ·exact id
           ·exact id
          ·exact id
         ·exact id
        ·exact id
       ·exact id
      ·exact id
     ·exact id
    ·exact id
   ·split
    ·grind [Kj]
    ·exact id
  ·unfold agK;split
   ·split
    ·split
     ·grind
     ·unfold HJ;split
      ·split
       ·exact λx=>⟨x.1,h _ _ _ x.2⟩
       ·exact id
      ·exact id
     ·exact id
    ·exact id
   ·exact id
  ·exact VW h
  ·exact id
 ·unfold HO
  grind
 ·exact hupd _ _ _ _
 ·exact hupd _ _ _ _
 ·unfold Ez;split
  ·unfold Ed;split
   ·split
    ·split
     ·split
      ·exact λhh b=>h _ _ _ (hh b)
      ·exact id
     ·exact id
    ·exact id
   ·exact id
  exact ON h
 ·unfold xU;split
  ·unfold Ee;split
   ·split
    ·exact λhh=>And.intro hh.1 (h _ _ _ hh.2)
    ·exact id
   ·exact id
  exact Kh h
 ·exact Ze h
 ·exact aea h
 ·exact id
 ·exact id
def names (ops:Array Oper)(o:Oper):List Nat:=o.looksAt ops
def qtr (P:Program)(ops:Array Oper)(j:Nat)(o:Oper)(tmps:List (Option SV))(m:Mem)(nx:Nat)(k:Option SV->VC):VC :=
 match guardOf ops o tmps with
 | some C=>qop P (λk=>m.get k) (ev tmps) o.op (λv=>aeF (Ek ops j) v nx k)
 | some D=>k (A (.dr []))
 | none=>.fail "a guard that is not known"
theorem o9 (hq:jC P o.op=C)(K:St->VC)(st:St) :
  iz P call ops j o K st=qtr P ops j o st.tmps st.m st.nx (λv=>K ⟨eU st.tmps o.dst v,st.m,st.nx⟩):=by
 unfold iz qtr;cases guardOf ops o st.tmps with
 | none=>rfl
 | some b=>cases b<;>simp only[hq]<;>rfl
theorem ND (P:Program)(ops:Array Oper)(j:Nat)(o:Oper)(tmps:List (Option SV))(m:Mem)(nx:Nat) :
  ∃(p:Prop) (u:Option SV),(∀ k,(qtr P ops j o tmps m nx k).holds↔p/\(k u).holds):=by
 unfold qtr;cases guardOf ops o tmps with
 | none=>exact⟨False,J,λk=>⟨λh=>h.elim,λh=>h.1.elim⟩⟩
 | some b =>
   cases b with
   | false=>exact⟨True,A (.dr []),(by grind)⟩
   | true =>obtain⟨obl,sv,h1,_⟩:=aeM (P:=P) (look:=λk=>m.get k) (σ:=ev tmps) o;obtain⟨p,u,g1,_,_⟩:=H8 (Ek ops j) sv nx;exact⟨obl/\p,u,(by grind)⟩
theorem O9 {t:Nat}(h:Operand.tmp t∈ o.op.operands):t∈ o.looksAt ops:=by simp only[Oper.looksAt,b_,List.mem_filterMap];exact .inl ⟨.tmp t,by simpa using h,rfl⟩
theorem HR {oj:Oper}{d:Nat}{b:Bool}(hg:o.guard=A (j,b))(hj:ops[j]?=A oj)(hd:oj.dst=A d):d∈ o.looksAt ops:=by grind [Oper.looksAt]
def Agree (ops:Array Oper)(o:Oper)(tmps tmps':List (Option SV)):Prop:=∀ t∈ o.looksAt ops,slot tmps t=slot tmps' t
theorem Agree.ev (h:Agree ops o tmps tmps'): ∀ x∈ o.op.operands,Sx.ev tmps x=Sx.ev tmps' x:=by
 intro x hx;cases x with
 | tmp t=>exact h t (O9 hx)
 | _=>rfl
theorem Agree.guard (h:Agree ops o tmps tmps'):guardOf ops o tmps=guardOf ops o tmps':=by
 unfold guardOf;split
 ·rfl
 ·rename_i j want hg;split
  ·rename_i oj hj;split
   ·rename_i d hd;rw[h d (HR hg hj hd)]
   ·rfl
  ·rfl
theorem KS {m':Mem}{k:Option SV->VC}(h:Agree ops o tmps tmps')
  (hl: ∀ key,keyOf (ev tmps) o.op=A key->m.get key=m'.get key):qtr P ops j o tmps m nx k=qtr P ops j o tmps' m' nx k:=by
 unfold qtr;rw[h.guard];cases guardOf ops o tmps' with
 | none=>rfl
 | some b =>
   cases b with
   | false=>rfl
   | true=>exact akZ h.ev hl
theorem MI: ∀ {tmps:List (Option SV)} {d t:Nat} {v:Option SV},d≠t->slot (tmps.set d v) t=slot tmps t
 | [],_,_,_,_=>rfl
 | _::_,0,0,_,h=>absurd rfl h
 | _::_,0,_+1,_,_=>rfl
 | _::_,_+1,0,_,_=>rfl
 | _::r,d+1,t+1,v,h=>MI (tmps:=r) (λe=>h (by rw[e]))
theorem oW {dst:Option Nat}{v:Option SV}(h: ∀ d,dst=A d->d∉ o.looksAt ops):Agree ops o (eU tmps dst v) tmps:=by
 intro t ht;cases dst with
 | none=>rfl
 | some d=>exact MI (by grind)
theorem Je {x y:Option Nat}{v u:Option SV}(h: ∀ d,x=A d->y≠A d):eU (eU tmps x v) y u=eU (eU tmps y u) x v:=by
 cases x with
 | none=>rfl
 | some d =>
   cases y with
   | none=>rfl
   | some e =>
     have:d≠e:=(by grind)
     grind [List.set_comm,eU]
def s7 (keys:List Nat)(m m':Mem)(t:VC):VC :=
 match keys with
 | []=>t
 | k::r=>.and (.atom (m'.get k=m.get k)) (s7 r m m' t)
theorem ny {keys:List Nat}{m':Mem}{t:VC}:(s7 keys m m' t).holds↔(∀ k∈ keys,m'.get k=m.get k)/\t.holds:=by
 induction keys with
 | nil=>simp[s7]
 | cons k r ih =>simp only[s7,VC.holds,ih,F,forall_eq_or_imp];exact⟨λh=>⟨⟨h.1,h.2.1⟩,h.2.2⟩,λh=>⟨h.1.1,h.1.2,h.2⟩⟩
def YB (nx nx':Nat)(t:VC):VC:=match Nat.ble nx nx' with
 | true=>t
 | false=>.fail "keys"
theorem vI {t:VC}:(YB nx nx' t).holds↔nx<=nx'/\t.holds:=by
 unfold YB;cases h:Nat.ble nx nx' with
 | true=>exact⟨λx=>⟨Nat.le_of_ble_eq_true h,x⟩,λx=>x.2⟩
 | false=>exact⟨λx=>x.elim,λx=>by have:=Nat.ble_eq_true_of_le x.1;rw[h] at this;cases this⟩
section
variable {P : Program} {call : yW-> PT} {ops : Array Oper}
theorem fj (hm: ∀ f,bC (call f)){K K':St->VC}
  (h: ∀ u m nx,(K ⟨eU st.tmps o.dst u,m,nx⟩).holds->(K' ⟨eU st.tmps o.dst u,m,nx⟩).holds) (hh:(iz P call ops j o K st).holds):(iz P call ops j o K' st).holds:=by
 cases hq:jC P o.op with
 | true =>rw[o9 hq] at hh ⊢;obtain⟨p,u,hd⟩:=ND P ops j o st.tmps st.m st.nx;rw[hd] at hh ⊢;exact⟨hh.1,h _ _ _ hh.2⟩
 | false =>
   unfold iz at hh ⊢;cases hg:guardOf ops o st.tmps with
   | none=>rw[hg] at hh;exact hh.elim
   | some b =>
     rw[hg] at hh;cases b with
     | false=>exact h _ _ _ hh
     | true =>
       simp only[hq] at hh ⊢;cases hw:Mem.wf st.nx st.m with
       | false=>rw[hw] at hh;exact hh.elim
       | true =>rw[hw] at hh;simp only at hh ⊢;refine Zc hm (λv m nx hp=> ?_) hh;obtain⟨p,u,g1,_,_⟩:=H8 (Ek ops j) v nx;unfold ap2 at hp ⊢;rw[g1] at hp ⊢;exact⟨hp.1,h _ _ _ hp.2⟩
def stepG (P:Program)(call:yW->PT)(ops:Array Oper)(i:Nat)(o:Oper)(H:List Nat)(K:St->VC)(st:St):VC :=iz P call ops i o (λst'=>s7 H st.m st'.m (YB st.nx st'.nx (K st'))) st
theorem akU {g:Bool}{v:Option SV}(hn:nx<=nx'){k:Option SV->VC}(h:(aeF g v nx k).holds):(aeF g v nx' k).holds:=by
 have hw:wfO nx v=C->wfO nx' v=true:=by cases v with
  | none=>exact id
  | some v=>exact SV.pz hn v
 unfold aeF at *;split at h
 ·exact h
 ·rename_i g' v' hne;cases hv:wfO nx v with
  | false=>rw[hv] at h;exact h.elim
  | true =>rw[hv] at h;rw[hw hv];exact h
theorem aqd (hn:nx<=nx'){k:Option SV->VC}(h:(qtr P ops j o tmps m nx k).holds):(qtr P ops j o tmps m nx' k).holds:=by
 unfold qtr at h ⊢;cases hg:guardOf ops o tmps with
 | none=>rw[hg] at h;exact h.elim
 | some b =>
   rw[hg] at h;cases b with
   | false=>exact h
   | true =>obtain⟨obl,sv,h1,_⟩:=aeM (P:=P) (look:=λk=>m.get k) (σ:=ev tmps) o;simp only at h ⊢;rw[h1] at h ⊢;refine⟨h.1,?_⟩;exact akU hn h.2
structure Lq (ops:Array Oper)(x y:Oper):Prop where
 a: ∀ d,x.dst=A d->d∉ y.looksAt ops
 b: ∀ d,x.dst=A d->y.dst≠A d
 c: ∀ d,y.dst=A d->d∉ x.looksAt ops
theorem alE (hm: ∀ f,bC (call f)){jp ji:Nat}{op oi:Oper}(hp:jC P op.op=C)(hi:jC P oi.op=D)(ha:Lq ops op oi){H H1:List Nat}{K:St->VC}
  (hH: ∀ k∈ H,k∈ H1) (hk: ∀ k,keyOf (ev st.tmps) op.op=A k->k∈ H1) (h:(iz P call ops jp op (stepG P call ops ji oi H1 K) st).holds) :
  (stepG P call ops ji oi H (iz P call ops jp op K) st).holds:=by
 obtain⟨tmps,m,nx⟩:=st;rw[o9 hp] at h;obtain⟨pp,u,hd⟩:=ND P ops jp op tmps m nx;obtain⟨hpp,h⟩:=(hd _).1 h;have hag:Agree ops oi (eU tmps op.dst u) tmps:=oW ha.a
 have fin: ∀(u':Option SV) (m':Mem) (nx':Nat),(s7 H1 m m' (YB nx nx' (K ⟨eU (eU tmps op.dst u) oi.dst u',m',nx'⟩))).holds->
   (s7 H m m' (YB nx nx' (iz P call ops jp op K ⟨eU tmps oi.dst u',m',nx'⟩))).holds:=by
  intro u' m' nx' hh;rw[ny,vI] at hh ⊢;refine⟨λk hk'=>hh.1 k (hH k hk'),hh.2.1,?_⟩;rw[o9 hp];have h1:(qtr P ops jp op tmps m nx (λv=>K ⟨eU (eU tmps oi.dst u') op.dst v,m',nx'⟩)).holds:=by rw[hd];refine⟨hpp,?_⟩;rw[Je (λd hd' he=>ha.b d he hd')];exact hh.2.2
  have h2:=aqd hh.2.1 h1;rw[KS (tmps':=eU tmps oi.dst u') (m':=m') (λt ht=>((oW (tmps:=tmps) (v:=u') ha.c) t ht).symm) (λkey hkey=>(hh.1 key (hk key hkey)).symm)] at h2;exact h2
 unfold stepG iz at h ⊢;rw[hag.guard] at h;cases hg:guardOf ops oi tmps with
 | none=>rw[hg] at h;exact h.elim
 | some b =>
   rw[hg] at h;cases b with
   | false=>exact fin _ _ _ h
   | true =>
     simp only[hi] at h ⊢;cases hw:Mem.wf nx m with
     | false=>rw[hw] at h;exact h.elim
     | true =>rw[hw] at h;simp only at h ⊢;rw[aku hag.ev] at h;refine Zc hm (λv m' nx' hpk=> ?_) h;obtain⟨p',u',g1,_,_⟩:=H8 (Ek ops ji) v nx';unfold ap2 at hpk ⊢;rw[g1] at hpk ⊢;exact⟨hpk.1,fin _ _ _ hpk.2⟩
theorem Q5 {jp ji:Nat}{op oi:Oper}(hp:jC P op.op=C)(hi:jC P oi.op=C)(ha:Lq ops op oi){K:St->VC}
  (h:(iz P call ops jp op (iz P call ops ji oi K) st).holds):(iz P call ops ji oi (iz P call ops jp op K) st).holds:=by
 obtain⟨tmps,m,nx⟩:=st;rw[o9 hp] at h;obtain⟨pp,u,hd⟩:=ND P ops jp op tmps m nx;obtain⟨hpp,h⟩:=(hd _).1 h;rw[o9 hi] at h ⊢;rw[KS (tmps':=tmps) (oW ha.a) (λ_ _=>rfl)] at h;obtain⟨pi,v,hd2⟩:=ND P ops ji oi tmps m nx;rw[hd2] at h ⊢;refine⟨h.1,?_⟩;rw[o9 hp];rw[KS (tmps':=tmps) (oW ha.c) (λ_ _=>rfl),hd];refine⟨hpp,?_⟩;have h2:=h.2;simp only at h2 ⊢;rw[Je (λd hd' he=>ha.b d he hd')];exact h2
def rz (mask:Nat)(rd:List (Nat×Nat)):List Nat :=
 match rd with
 | []=>[]
 | (p,k)::r=>match mask.testBit p with
   | true=>rz mask r
   | false=>k::rz mask r
theorem tW {mask:Nat}{k:Nat}: ∀ {rd:List (Nat×Nat)},k∈ rz mask rd↔∃ p,(p,k)∈ rd/\mask.testBit p=D
 | []=>by simp[rz]
 | (p,x)::r=>by
   simp only[rz];cases h:mask.testBit p with
   | true =>
     simp only[tW (rd:=r),F,Prod.mk.injEq];constructor
     ·rintro⟨q,h1,h2⟩;exact⟨q,.inr h1,h2⟩
     ·rintro⟨q,h1 | h1,h2⟩
      ·obtain⟨rfl,rfl⟩:=h1;rw[h] at h2;cases h2
      ·exact⟨q,h1,h2⟩
   | false =>
     simp only[F,tW (rd:=r),Prod.mk.injEq];constructor
     ·rintro(rfl | ⟨q,h1,h2⟩)
      ·exact⟨p,.inl ⟨rfl,rfl⟩,h⟩
      ·exact⟨q,.inr h1,h2⟩
     ·rintro⟨q,h1 | h1,h2⟩
      ·obtain⟨rfl,rfl⟩:=h1;exact .inl rfl
      ·exact .inr ⟨q,h1,h2⟩
def addKey (j:Nat)(k:Option Nat)(rd:List (Nat×Nat)):List (Nat×Nat) :=
 match k with
 | some k=>(j,k)::rd
 | none=>rd
def vW (f:Nat->VC):List Nat->VC
 | []=>.tt
 | j::r=>(match r with
   | []=>f j
   | _::_=>.and (f j) (vW f r))
theorem Av {f:Nat->VC}: ∀ {l:List Nat},(vW f l).holds->∀ j∈ l,(f j).holds
 | [],_,_,h=>by cases h
 | [j],h,k,hk=>by simp only[a_] at hk;subst hk;exact h
 | j::x::r,h,k,hk=>by
   rw[F] at hk;rcases hk with rfl | hk
   ·exact h.1
   ·exact Av (l:=x::r) h.2 k hk
theorem tG {f g:Nat->VC}(hfg: ∀ j,(f j).holds->(g j).holds): ∀ {l:List Nat},(vW f l).holds->(vW g l).holds
 | [],h=>h
 | [j],h=>hfg j h
 | j::x::r,h=>⟨hfg j h.1,tG hfg (l:=x::r) h.2⟩
def rB:List Nat->Nat
 | []=>0
 | q::r=>Nat.lor (Nat.pow 2 q) (rB r)
theorem Ta {k:Nat}: ∀ {l:List Nat},(rB l).testBit k=C->k∈ l
 | [],h=>by simp[rB] at h
 | q::r,h=>by
   have h:(2^ q ||| rB r).testBit k=true:=h;simp only[Nat.testBit_or,ay] at h;rcases h with h | h
   ·rw[Nat.testBit_two_pow] at h;simp at h;simp[h]
   ·exact b! _ (Ta h)
theorem Tb {k:Nat}: ∀ {l:List Nat},k∈ l->(rB l).testBit k=C
 | q::r,h=>by
   show(2^ q ||| rB r).testBit k=C;simp only[Nat.testBit_or,ay];rw[F] at h;rcases h with rfl | h
   ·left;simp[]
   ·exact .inr (Tb h)
def isReady (masks:List Nat)(lm:Nat)(j:Nat):Bool:=Nat.beq (Nat.land (masks.getD j 0) lm) 0
theorem qD {l:List Nat}:isReady masks (rB l) j=C↔∀ q∈ l,(masks.getD j 0).testBit q=false:=by
 unfold isReady;constructor
 ·intro h q hq;have h0:=Nat.eq_of_beq_eq_true h;have:(masks.getD j 0 &&& rB l).testBit q=false:=by show(Nat.land (masks.getD j 0) (rB l)).testBit q=D;rw[h0];exact Nat.zero_testBit q
  rw[Nat.testBit_and,Tb hq,V] at this;exact this
 ·intro h;have key: ∀ {a b:Nat},a=b->Nat.beq a b=true:=λe=>by subst e;exact Nat.beq_refl _
  apply key;apply Nat.eq_of_testBit_eq;intro k;show(masks.getD j 0 &&& rB l).testBit k=_;rw[Nat.testBit_and,Nat.zero_testBit];cases hk:(rB l).testBit k with
  | false=>simp
  | true=>rw[h k (Ta hk)];rfl
def quietAt (P:Program)(ops:Array Oper)(j:Nat):Bool:=match ops[j]? with
 | some o=>jC P o.op
 | none=>D
def Hy (P:Program)(ops:Array Oper)(masks:List Nat)(lm:Nat):List Nat->Option Nat
 | []=>J
 | j::r=>match quietAt P ops j&&isReady masks lm j with
   | true=>A j
   | false=>Hy P ops masks lm r
theorem AE {masks:List Nat}{lm j:Nat}: ∀ {l:List Nat},Hy P ops masks lm l=A j->j∈ l/\quietAt P ops j=C/\isReady masks lm j=C
 | [],h=>by cases h
 | k::r,h=>by
   unfold Hy at h;split at h
   ·rename_i hk;injection h with h;subst h;rw[G] at hk;exact⟨by simp,hk⟩
   ·have:=AE h;exact⟨by simp[this.1],this.2⟩
theorem AD {masks:List Nat}{lm:Nat}: ∀ {l:List Nat},Hy P ops masks lm l=J->∀ j∈ l,(quietAt P ops j&&isReady masks lm j)=D
 | [],_,_,hj=>by cases hj
 | k::r,h,j,hj=>by
   unfold Hy at h;split at h
   ·cases h
   ·rename_i hk;rw[F] at hj;rcases hj with rfl | hj
    ·exact hk
    ·exact AD h j hj
def Qx (P:Program)(ops:Array Oper)(masks:List Nat)(l:List Nat):List Nat :=l.filter λj=>!quietAt P ops j&&isReady masks (rB l) j
def fA (P:Program)(call:yW->PT)(ops:Array Oper)(masks:List Nat):Nat->List Nat->List (Nat×Nat)->(St->VC)->St->VC
 | _,[],_,K,st=>K st
 | 0,_::_,_,_,_=>.fail "a region that is too long"
 | n+1,x::r,rd,K,st=>match Hy P ops masks (rB (x::r)) (x::r)with
   | some i=>(match ops[i]? with
     | some o=>iz P call ops i o (fA P call ops masks n ((x::r).erase i) (addKey i (keyOf (ev st.tmps) o.op) rd) K) st
     | none=>.fail "no operation")
   | none=>vW (λj=>match ops[j]? with
      | some oj=>stepG P call ops j oj (rz (masks.getD j 0) rd) (fA P call ops masks n ((x::r).erase j) rd K) st
      | none=>.fail "no operation") (Qx P ops masks (x::r))
theorem xQ {n:Nat}{K:St->VC}:fA P call ops masks n [] rd K st=K st:=by cases n<;>rfl
theorem XE {k:Option Nat}{rd':List (Nat×Nat)}(h: ∀ x∈ rd,x∈ rd'): ∀ x∈ addKey i k rd,x∈ addKey i k rd':=by
 intro x hx;cases k with
 | none=>exact h x hx
 | some k=>simp only[addKey,F] at hx ⊢;exact hx.imp id (h x)
theorem ack {k:Option Nat}: ∀ x∈ rd,x∈ addKey i k rd:=by
 intro x hx;cases k with
 | none=>exact hx
 | some k=>exact b! _ hx
theorem Ls {k k':Option Nat}: ∀ x∈ addKey i k (addKey j k' rd),x∈ addKey j k' (addKey i k rd):=by intro x hx;cases k<;>cases k'<;>simp only[addKey,F] at hx ⊢ <;> first | exact hx | (rcases hx with h | h | h<;>simp[h])
theorem v7 (hm: ∀ f,bC (call f)){masks:List Nat}{K:St->VC}: ∀ {n:Nat} {l:List Nat} {rd rd':List (Nat×Nat)} {st:St},(∀ x∈ rd,x∈ rd')->(fA P call ops masks n l rd' K st).holds->(fA P call ops masks n l rd K st).holds
 | n,[],_,_,_,_,h=>by rw[xQ] at h ⊢;exact h
 | 0,_::_,_,_,_,_,h=>h.elim
 | n+1,x::r,rd,rd',st,hr,h=>by
   simp only[fA] at h ⊢;split at h
   ·split at h
    ·exact fj hm (λu m nx hh=>v7 hm (XE hr) hh) h
    ·exact h.elim
   ·refine tG (λj hj=> ?_) h;cases hoj:ops[j]? with
    | none=>rw[hoj] at hj;exact hj.elim
    | some oj =>rw[hoj] at hj;simp only at hj ⊢;refine fj hm (λu m nx hh=> ?_) hj;rw[ny,vI] at hh ⊢;refine⟨λk hk=>hh.1 k ?_,hh.2.1,v7 hm hr hh.2.2⟩;rw[tW] at hk ⊢;obtain⟨p,h1,h2⟩:=hk;exact⟨p,hr _ h1,h2⟩
theorem Lq.symm {x y:Oper}(h:Lq ops x y):Lq ops y x:=⟨h.c,λd hd he=>h.b d he hd,h.a⟩
def Rel (P:Program)(ops:Array Oper)(masks:List Nat)(p i:Nat):Prop :=∃ op oi,ops[p]?=A op/\ops[i]?=A oi/\((masks.getD i 0).testBit p=C∨(masks.getD p 0).testBit i=C∨(jC P op.op=D/\jC P oi.op=D)∨Lq ops op oi)
def aci (P:Program)(ops:Array Oper)(masks:List Nat)(R:List Nat):Prop:=∀ p∈ R,∀ i∈ R,p≠i->Rel P ops masks p i
theorem aci.erase {R:List Nat}(h:aci P ops masks R)(q:Nat):aci P ops masks (R.erase q):=λp hp i hi=>h p (I hp) i (I hi)
def Pu (P:Program)(call:yW->PT)(ops:Array Oper)(masks:List Nat)(n:Nat)(i:Nat)(oi:Oper)(R:List Nat)(rd:List (Nat×Nat))(K:St->VC)(st:St):VC :=
 match jC P oi.op with
 | true=>iz P call ops i oi (fA P call ops masks n R (addKey i (keyOf (ev st.tmps) oi.op) rd) K) st
 | false=>stepG P call ops i oi (rz (masks.getD i 0) rd) (fA P call ops masks n R rd K) st
theorem ayb (hm: ∀ f,bC (call f)){K:St->VC}: ∀(n:Nat),
  (∀ {R:List Nat} {rd:List (Nat×Nat)} {st:St} {i:Nat} {oi:Oper},R.length<=n+1->aci P ops masks R->i∈ R->ops[i]?=A oi->(∀ q∈ R,(masks.getD i 0).testBit q=D)->
    (fA P call ops masks (n+1) R rd K st).holds->(Pu P call ops masks n i oi (R.erase i) rd K st).holds)/\
  (∀ {X:List Nat} {rd:List (Nat×Nat)} {st:St} {q:Nat} {oq:Oper},X.length<=n+1->aci P ops masks X->q∈ X->ops[q]?=A oq->jC P oq.op=C->(∀ p∈ X,(masks.getD q 0).testBit p=D)->
    (iz P call ops q oq (fA P call ops masks n (X.erase q) (addKey q (keyOf (ev st.tmps) oq.op) rd) K) st).holds->(fA P call ops masks (n+1) X rd K st).holds):=by
 have apart: ∀ {R:List Nat} {q i:Nat} {oq oi:Oper},aci P ops masks R->q∈ R->i∈ R->q≠i->ops[q]?=A oq->ops[i]?=A oi->jC P oq.op=C->
   (∀ p∈ R,(masks.getD q 0).testBit p=D)->(∀ p∈ R,(masks.getD i 0).testBit p=D)->Lq ops oq oi:=by
  intro R q i oq oi hR hq hi hne hoq hoi hqq h1 h2;obtain⟨op,oi',e1,e2,h⟩:=hR q hq i hi hne;rw[hoq] at e1;injection e1 with e1;subst e1;rw[hoi] at e2;injection e2 with e2;subst e2;rcases h with h | h | h | h
  ·rw[h2 q hq] at h;cases h
  ·rw[h1 i hi] at h;cases h
  ·rw[hqq] at h;cases h.1
  ·exact h
 intro n;induction n with
 | zero =>
   refine⟨λ{R rd st i oi} hl hR hi ho hrd h=> ?_,λ{X rd st q oq} hl hX hq ho hqq hrd h=> ?_⟩
   ·have hR1:R=[i]:=by
     match R,hl,hi with
     | [x],_,hi=>simp only[a_] at hi;rw[hi]
    subst hR1;simp only[fA] at h;split at h
    ·rename_i j hj;obtain⟨g1,g2,_⟩:=AE hj;simp only[a_] at g1;subst g1;simp only[quietAt,ho] at g2;rw[ho] at h;simp only[Pu,g2];exact h
    ·rename_i hj;have hnq:=AD hj i (by simp);have hre:isReady masks (rB [i]) i=true:=qD.2 hrd;simp only[hre,V,quietAt,ho] at hnq;have:=Av h i (by simp only[Qx,Z,quietAt,ho,hnq,hre];simp);rw[ho] at this;simp only[Pu,hnq];exact this
   ·have hX1:X=[q]:=by
     match X,hl,hq with
     | [x],_,hi=>simp only[a_] at hi;rw[hi]
    subst hX1;simp only[fA];have hre:isReady masks (rB [q]) q=true:=qD.2 hrd;simp only[Hy,quietAt,ho,hqq,hre,V];exact h
 | succ m ih =>
   obtain⟨ih1,ih2⟩:=ih;refine⟨λ{R rd st i oi} hl hR hi ho hrd h=> ?_,λ{X rd st q oq} hl hX hq ho hqq hrd h=> ?_⟩
   ·obtain⟨x,r,hxr⟩: ∃ x r,R=x::r:=by
     match R,hi with
     | x::r,_=>exact⟨x,r,rfl⟩
    have hdr:fA P call ops masks (m+1+1) R rd K st=(match Hy P ops masks (rB R) R with
     | some i=>(match ops[i]? with
       | some o=>iz P call ops i o (fA P call ops masks (m+1) (R.erase i) (addKey i (keyOf (ev st.tmps) o.op) rd) K) st
       | none=>.fail "no operation")
     | none=>vW (λj=>match ops[j]? with
        | some oj=>stepG P call ops j oj (rz (masks.getD j 0) rd) (fA P call ops masks (m+1) (R.erase j) rd K) st
        | none=>.fail "no operation") (Qx P ops masks R)):=by rw[hxr];rfl
    rw[hdr] at h;split at h
    ·rename_i q hq;obtain⟨g1,g2,g3⟩:=AE hq;rw[qD] at g3;cases hoq:ops[q]? with
     | none=>rw[hoq] at h;exact h.elim
     | some oq =>
       rw[hoq] at h;simp only at h;simp only[quietAt,hoq] at g2;by_cases e:q=i
       ·subst e;rw[hoq] at ho;injection ho with ho;subst ho;simp only[Pu,g2];exact h
       ·have hap:=apart hR g1 hi e hoq ho g2 g3 hrd;have hi':i∈ R.erase q:=(Y (λx=>e x.symm)).2 hi;have hq':q∈ R.erase i:=(Y e).2 g1;have hl1:(R.erase q).length<=m+1:=by rw[W g1];omega
        have hl2:(R.erase i).length<=m+1:=by rw[W hi];omega
        cases hqi:jC P oi.op with
        | true =>
          simp only[Pu,hqi];have hk: ∀ u,keyOf (ev (eU st.tmps oq.dst u)) oi.op=keyOf (ev st.tmps) oi.op:=λu=>tV (oW hap.a).ev
          have h1:(iz P call ops q oq (iz P call ops i oi (fA P call ops masks m ((R.erase q).erase i) (addKey i (keyOf (ev st.tmps) oi.op) (addKey q (keyOf (ev st.tmps) oq.op) rd)) K)) st).holds :=
           fj hm (λu m' nx' hh=>by have:=ih1 hl1 (hR.erase q) hi' ho (λp hp=>hrd p (I hp)) hh;simp only[Pu,hqi,hk] at this;exact this) h
          have h2:=Q5 g2 hqi hap h1;refine fj hm (λu m' nx' hh=> ?_) h2;refine ih2 hl2 (hR.erase i) hq' hoq g2 (λp hp=>g3 p (I hp)) ?_;have hk2:keyOf (ev (eU st.tmps oi.dst u)) oq.op=keyOf (ev st.tmps) oq.op:=tV (oW hap.c).ev;simp only[hk2];rw[a!];exact fj hm (λu m' nx' hh=>v7 hm Ls hh) hh
        | false =>
          simp only[Pu,hqi]
          have h1:(iz P call ops q oq (stepG P call ops i oi (rz (masks.getD i 0) (addKey q (keyOf (ev st.tmps) oq.op) rd)) (fA P call ops masks m ((R.erase q).erase i) (addKey q (keyOf (ev st.tmps) oq.op) rd) K)) st).holds :=
           fj hm (λu m' nx' hh=>by have:=ih1 hl1 (hR.erase q) hi' ho (λp hp=>hrd p (I hp)) hh;simp only[Pu,hqi] at this;exact this) h
          have h2:=alE hm g2 hqi hap (H:=rz (masks.getD i 0) rd) (λk hk=>by
            rw[tW] at hk ⊢;obtain⟨p,y1,y2⟩:=hk;exact⟨p,ack _ y1,y2⟩) (λk hk=>by
            rw[tW,hk];exact⟨q,by simp[addKey],hrd q g1⟩) h1
          unfold stepG at h2 ⊢;refine fj hm (λu m' nx' hh=> ?_) h2;rw[ny,vI] at hh ⊢;refine⟨hh.1,hh.2.1,?_⟩;refine ih2 hl2 (hR.erase i) hq' hoq g2 (λp hp=>g3 p (I hp)) ?_;have hk2:keyOf (ev (eU st.tmps oi.dst u)) oq.op=keyOf (ev st.tmps) oq.op:=tV (oW hap.c).ev;simp only[hk2];rw[a!];exact hh.2.2
    ·rename_i hj;have hnq:=AD hj i hi;have hre:isReady masks (rB R) i=true:=qD.2 hrd;simp only[hre,V,quietAt,ho] at hnq;have:=Av h i (by unfold Qx;rw[Z];refine⟨hi,?_⟩;simp only[quietAt,ho,hnq,hre];rfl);rw[ho] at this;simp only[Pu,hnq];exact this
   ·obtain⟨y,r,hxr⟩: ∃ x r,X=x::r:=by
     match X,hq with
     | x::r,_=>exact⟨x,r,rfl⟩
    have hdr:fA P call ops masks (m+1+1) X rd K st=(match Hy P ops masks (rB X) X with
     | some i=>(match ops[i]? with
       | some o=>iz P call ops i o (fA P call ops masks (m+1) (X.erase i) (addKey i (keyOf (ev st.tmps) o.op) rd) K) st
       | none=>.fail "no operation")
     | none=>vW (λj=>match ops[j]? with
        | some oj=>stepG P call ops j oj (rz (masks.getD j 0) rd) (fA P call ops masks (m+1) (X.erase j) rd K) st
        | none=>.fail "no operation") (Qx P ops masks X)):=by rw[hxr];rfl
    rw[hdr];split
    ·rename_i x hx;obtain⟨g1,g2,g3⟩:=AE hx;rw[qD] at g3;have hox: ∃ ox,ops[x]?=A ox/\jC P ox.op=true:=by
      unfold quietAt at g2;split at g2
      ·rename_i ox hox;exact⟨ox,hox,g2⟩
      ·cases g2
     obtain⟨ox,hox,hqx⟩:=hox;rw[hox];simp only;by_cases e:x=q
     ·subst e;rw[hox] at ho;injection ho with ho;subst ho;exact h
     ·have hap:=apart hX hq g1 (λh=>e h.symm) ho hox hqq hrd g3;have hx':x∈ X.erase q:=(Y e).2 g1;have hq':q∈ X.erase x:=(Y (λh=>e h.symm)).2 hq;have hl1:(X.erase q).length<=m+1:=by rw[W hq];omega
      have hl2:(X.erase x).length<=m+1:=by rw[W g1];omega
      have hk: ∀ u,keyOf (ev (eU st.tmps oq.dst u)) ox.op=keyOf (ev st.tmps) ox.op:=λu=>tV (oW hap.a).ev
      have h1:(iz P call ops q oq (iz P call ops x ox (fA P call ops masks m ((X.erase q).erase x) (addKey x (keyOf (ev st.tmps) ox.op) (addKey q (keyOf (ev st.tmps) oq.op) rd)) K)) st).holds :=
       fj hm (λu m' nx' hh=>by have:=ih1 hl1 (hX.erase q) hx' hox (λp hp=>g3 p (I hp)) hh;simp only[Pu,hqx,hk] at this;exact this) h
      have h2:=Q5 hqq hqx hap h1;refine fj hm (λu m' nx' hh=> ?_) h2;refine ih2 hl2 (hX.erase x) hq' ho hqq (λp hp=>hrd p (I hp)) ?_;have hk2:keyOf (ev (eU st.tmps ox.dst u)) oq.op=keyOf (ev st.tmps) oq.op:=tV (oW hap.c).ev;simp only[hk2];rw[a!];exact fj hm (λu m' nx' hh=>v7 hm Ls hh) hh
    ·rename_i hj;have hnq:=AD hj q hq;have hre:isReady masks (rB X) q=true:=qD.2 hrd;simp only[hre,V,quietAt,ho,hqq] at hnq;cases hnq
end
def sS (o:Oper):List Nat:=(o.after.toList.filter λe=>Region.binds .any e).map (·.on)
def zy (acc:List Nat)(ds:List Nat):Nat:=match ds with
 | []=>0
 | d::r=>2^ d ||| acc.getD d 0 ||| zy acc r
def Wi:List Oper->List Nat->List Nat
 | [],acc=>acc
 | o::r,acc=>Wi r (acc++[zy acc (sS o)])
def Reach (ops:Array Oper)(i j:Nat):Prop :=∀ S:Nat->Prop,(∀ k o,ops[k]?=A o->S k->∀ d∈ sS o,S d)->(∀ o,ops[i]?=A o->∀ d∈ sS o,S d)->S j
theorem Wg {acc ds:List Nat}(h:(zy acc ds).testBit j=C): ∃ d∈ ds,d=j∨(acc.getD d 0).testBit j=true:=by
 induction ds with
 | nil=>simp[zy] at h
 | cons d r ih =>
   simp only[zy,Nat.testBit_or,ay] at h;rcases h with (h | h) | h
   ·rw[Nat.testBit_two_pow] at h;exact⟨d,by simp,.inl (by simpa using h)⟩
   ·exact⟨d,by simp,.inr h⟩
   ·obtain⟨e,he,hh⟩:=ih h;exact⟨e,by simp[he],hh⟩
theorem O6 {ops:Array Oper}: ∀(l:List Oper) (acc:List Nat),(∀ k,l[k]?=ops[acc.length+k]?)->
  (∀ i j,(acc.getD i 0).testBit j=C->Reach ops i j)->∀ i j,((Wi l acc).getD i 0).testBit j=C->Reach ops i j
 | [],acc,_,h,i,j,hb=>h i j hb
 | o::r,acc,hl,h,i,j,hb=>by
   refine O6 r (acc++[zy acc (sS o)]) (λk=> ?_) (λi j hb=> ?_) i j hb
   ·have:=hl (k+1);simp only[List.getElem?_cons_succ] at this;rw[this];congr 1;simp;omega
   ·rw[bU] at hb;by_cases hi:i<acc.length
    ·rw[List.getElem?_append_left hi,← bU] at hb;exact h i j hb
    ·rw[List.getElem?_append_right (by omega)] at hb;by_cases he:i=acc.length
     ·subst he;simp only[Nat.sub_self,List.getElem?_cons_zero,ag] at hb;obtain⟨d,hd,hh⟩:=Wg hb;have ho:ops[acc.length]?=A o:=by have:=hl 0;simpa using this.symm
      intro S hS hi;have hSd:=hi o ho d hd;rcases hh with rfl | hh
      ·exact hSd
      ·exact h d j hh S hS (λo' ho' e he=>hS d o' ho' hSd e he)
     ·rw[List.getElem?_eq_none (by simp;omega)] at hb;simp at hb
def agS (ops:Array Oper):List Nat:=Wi ops.toList []
theorem aed (h:((agS ops).getD i 0).testBit j=C):Reach ops i j :=O6 ops.toList [] (λk=>by simp) (λi j h=>by simp at h) i j h
def apZ (P:Program)(ops:List Oper)(quiet:Bool)(done:Nat)(i:Nat):Option Nat :=
 match ops with
 | []=>J
 | o::r=>if(!done.testBit i&&(!quiet||jC P o.op)&&(sS o).all λd=>done.testBit d)=C then A i else apZ P r quiet done (i+1)
def CV (P:Program)(ops:List Oper):Nat->Nat->List Nat
 | 0,_=>[]
 | n+1,done=>match apZ P ops C done 0 with
   | some i=>i::CV P ops n (done ||| 2^ i)
   | none=>(match apZ P ops D done 0 with
     | some i=>i::CV P ops n (done ||| 2^ i)
     | none=>[])
def aeZ (P:Program)(ops:Array Oper)(masks:List Nat)(p i:Nat):Bool :=
 match ops[p]?,ops[i]? with
 | some op,A oi=>!(sS op).contains i&& !Nat.beq p i&&((masks.getD i 0).testBit p||(masks.getD p 0).testBit i||(!jC P op.op&& !jC P oi.op)||Oper.apart ops op oi)
 | _,_=>D
def CX (P:Program)(ops:Array Oper)(masks:List Nat):List Nat->Bool
 | []=>C
 | p::r=>r.all (aeZ P ops masks p)&&CX P ops masks r
def axb (P:Program)(ops:Array Oper)(masks N:List Nat):Bool :=
 (List.range ops.size).all (λi=>N.contains i)&&N.all (λi=>Nat.blt i ops.size&&match ops[i]? with
   | some o=>(sS o).all λd=>!Nat.beq d i&&Nat.blt d ops.size
   | none=>D)&&CX P ops masks N
def draw (P:Program)(call:yW->PT)(ops:Array Oper)(K:St->VC)(st:St):VC :=
 let masks:=agS ops;let N:=CV P ops.toList ops.size 0
 match axb P ops masks N with
 | true=>fA P call ops masks ops.size N [] K st
 | false=>.fail "a region that draws its order"
theorem Tp {P:Program}{ops:Array Oper}{masks:List Nat}: ∀ {R:List Nat},CX P ops masks R=C->∀ {p i:Nat},p∈ R->i∈ R->p≠i->aeZ P ops masks p i=C∨aeZ P ops masks i p=C
 | [],_,_,_,h,_,_=>by cases h
 | q::R,hp,p,i,h1,h2,hne=>by
   simp only[CX,G,T] at hp;rw[F] at h1 h2;rcases h1 with rfl | h1<;>rcases h2 with rfl | h2
   ·exact absurd rfl hne
   ·exact .inl (hp.1 _ h2)
   ·exact .inr (hp.1 _ h1)
   ·exact Tp hp.2 h1 h2 hne
theorem abb {p:Nat}(h:aeZ P ops masks p i=C):Rel P ops masks p i/\Rel P ops masks i p:=by
 unfold aeZ at h;split at h
 ·rename_i op oi h1 h2;simp only[G,ay,an] at h;have h3:=h.2;have ap:Oper.apart ops op oi=C->Lq ops op oi:=λhb=>by obtain⟨s1,s2,s3⟩:=Oper.apart_spec hb;exact⟨s1,s2,s3⟩
  refine⟨⟨op,oi,h1,h2,?_⟩,⟨oi,op,h2,h1,?_⟩⟩
  ·rcases h3 with ((h | h) | h) | h
   ·exact .inl h
   ·exact .inr (.inl h)
   ·exact .inr (.inr (.inl h))
   ·exact .inr (.inr (.inr (ap h)))
  ·rcases h3 with ((h | h) | h) | h
   ·exact .inr (.inl h)
   ·exact .inl h
   ·exact .inr (.inr (.inl ⟨h.2,h.1⟩))
   ·exact .inr (.inr (.inr (ap h).symm))
 ·cases h
theorem aeA {R:List Nat}(h:CX P ops masks R=C):aci P ops masks R:=λp hp i hi hne=>by
 rcases Tp h hp hi hne with h | h
 ·exact(abb h).1
 ·exact(abb h).2
theorem LP {P:Program}{ops:Array Oper}{masks:List Nat}{i:Nat}: ∀ {R:List Nat},CX P ops masks R=C->CX P ops masks (R.erase i)=C/\(i∉ R.erase i)
 | [],_=>⟨rfl,by simp⟩
 | q::R,hp=>by
   simp only[CX,G,T] at hp;by_cases e:q=i
   ·subst e;rw[List.erase_cons_head];refine⟨hp.2,λhm=> ?_⟩;have:=hp.1 _ hm;unfold aeZ at this;split at this
    ·simp at this
    ·cases this
   ·rw[List.erase_cons_tail (by simpa using e)];obtain⟨h1,h2⟩:=LP (i:=i) hp.2;refine⟨by simp only[CX,G,T];exact⟨λx hx=>hp.1 x (I hx),h1⟩,λhm=> ?_⟩;rw[F] at hm;rcases hm with h | h
    ·exact e h.symm
    ·exact h2 h
theorem KX {md:Region.Mode}{listed:Array Bool}:i∈ Region.ready md ops listed ↔
  i<ops.size/\listed.getD i C=D/\∃ o,ops[i]?=A o/\∀ e∈ o.after,Region.binds md e=C->listed.getD e.on D=true:=by
 unfold Region.ready;simp only[Z,ct,G,an];constructor
 ·rintro⟨h1,h2,h3⟩;refine⟨h1,h2,?_⟩;have ho:ops[i]?=A ops[i]:=M h1;rw[ho] at h3;simp only[cx,ag] at h3;refine⟨_,ho,λe he hb=> ?_⟩;rw[bf] at h3;have:=h3 e he;simpa [hb] using this
 ·rintro⟨h1,h2,o,ho,h3⟩;refine⟨h1,h2,?_⟩;rw[ho];simp only[cx,ag,bf];intro e he;by_cases hb:Region.binds md e=C
  ·simp[hb,h3 e he hb]
  ·simp[hb]
section
variable {P : Program} {call : yW-> PT} {ops : Array Oper}
theorem aus {Γ:b5}{ro:Option Nat}{KP:PK}(hm: ∀ f,bC (call f))(hcall: ∀ c,Ao P Γ KP c (call c))(hmask: ∀ i j,(masks.getD i 0).testBit j=C->Reach ops i j)
  {Q:Exit->Act->World->Prop} {K:St->VC} {E0:Nat->Nat} {E9:Nat} {T0:List (Option SV)} (hP: ∀ e a w,gj E0 (unsure ops T0) a->xH KP Γ E0 E9 e a w->Q e a w): ∀(fuel:Nat) (R:List Nat) (listed:Array Bool) {st:St} {E:Nat->Nat} {a:Act} {w:World},
   gj E0 (unsure ops T0) a->(∀ k,k<E9->E k=E0 k)->E9<=st.nx->R.length<=fuel->(∀ i,i∈ R↔i<ops.size/\listed.getD i C=D)->CX P ops masks R=C->(∀ i∈ R,∀ o,ops[i]?=A o->∀ d∈ sS o,d≠i/\d<ops.size)->
   listed.size=ops.size->(∀ k o,ops[k]?=A o->listed.getD k D=C->∀ d∈ sS o,listed.getD d D=C)->
   (fA P call ops masks fuel R [] K st).holds->Sat Γ E st a w->(∀ a w,qn K Γ E st.nx a w->Q .normal a w)->wpAnyIn (Fr ro) 0 P .any ops Q fuel listed a w:=by
 intro fuel;induction fuel with
 | zero =>intro R listed st E a w hF hE0 hn0 hlen hR hpair hself hsize hcl h hs hQ;have hnil:R=[]:=List.eq_nil_of_length_eq_zero (by omega);subst hnil;refine⟨?_,hQ _ _ ⟨E,st,λ_ _=>rfl,Nat.le_refl _,hs,h⟩⟩;rw[List.eq_nil_iff_forall_not_mem];intro i hi;rw[KX] at hi;have:=(hR i).2 ⟨hi.1,hi.2.1⟩;cases this
 | succ fuel ih =>
   intro R listed st E a w hF hE0 hn0 hlen hR hpair hself hsize hcl h hs hQ;refine⟨λhnone=> ?_,λi hi=> ?_⟩
   ·
    cases R with
    | nil=>exact hQ _ _ ⟨E,st,λ_ _=>rfl,Nat.le_refl _,hs,by rw[xQ] at h;exact h⟩
    | cons r0 R =>
      exfalso;have hr0:=(hR r0).1 (by simp);have ho:ops[r0]?=A ops[r0]:=M hr0.1;have:r0∈ Region.ready .any ops listed:=by
       rw[KX];refine⟨hr0.1,hr0.2,_,ho,λe he hb=> ?_⟩;have hd:e.on∈ sS ops[r0]:=by simp only[sS,cj,Z];exact⟨e,⟨by simpa using he,hb⟩,rfl⟩
       generalize e.on=d at hd ⊢;cases hl:listed.getD d D with
       | true=>rfl
       | false =>
         exfalso;have hself0:=hself r0 (by simp) _ ho d hd;have hlt:=hself0.2;have hmem:d∈ r0::R:=(hR d).2 ⟨hlt,by rw[L] at hl ⊢;rw[M (by omega)] at hl ⊢;exact hl⟩
         rw[F] at hmem;rcases hmem with e1 | hmem
         ·exact hself0.1 e1
         ·simp only[CX,G,T] at hpair;have hrel:=hpair.1 _ hmem;simp only[aeZ,ho] at hrel;split at hrel
          ·rename_i op oi e1 _;injection e1 with e1;subst e1;simp only[G,an] at hrel;have h1:=hrel.1.1;rw[bn.2 hd] at h1;cases h1
          ·cases hrel
      rw[hnone] at this;cases this
   ·rw[KX] at hi;obtain⟨hlt,hnl,oi,ho,hdeps⟩:=hi;have hmem:i∈ R:=(hR i).2 ⟨hlt,hnl⟩;have hdl: ∀ d∈ sS oi,listed.getD d D=true:=by intro d hd;simp only[sS,cj,Z] at hd;obtain⟨e,⟨he,hb⟩,rfl⟩:=hd;exact hdeps e (by simpa using he) hb
    have hbits: ∀ p∈ R,(masks.getD i 0).testBit p=false:=by
     intro p hp;cases hb:(masks.getD i 0).testBit p with
     | false=>rfl
     | true =>exfalso;have:=hmask i p hb (λk=>listed.getD k D=C) (λk o hk hS d hd=>hcl k o hk hS d hd) (λo' ho' d hd=>by rw[ho] at ho';injection ho' with ho';subst ho';exact hdl d hd);have hpl:=((hR p).1 hp).2;have hps:=((hR p).1 hp).1;rw[L] at this hpl;rw[M (by omega)] at this hpl;simp only[ag] at this hpl;rw[this] at hpl;cases hpl
    have hb:=(ayb hm fuel).1 hlen (aeA hpair) hmem ho hbits h;obtain⟨hpair',hne⟩:=LP (i:=i) hpair;have hstep:(iz P call ops i oi (λst'=>.and (.atom (st.nx<=st'.nx∨True)) (fA P call ops masks fuel (R.erase i) [] K st')) st).holds:=by
     unfold Pu at hb;cases hq:jC P oi.op with
     | true =>rw[hq] at hb;exact fj hm (λu m nx hh=>⟨.inr trivial,v7 hm (λx hx=>by cases hx) hh⟩) hb
     | false =>rw[hq] at hb;exact fj hm (λu m nx hh=>by rw[ny,vI] at hh;exact⟨.inr trivial,hh.2.2⟩) hb
    have hmemO:oi∈ ops.toList:=by have ho':=ho;rw[← Array.getElem?_toList] at ho';exact List.mem_of_getElem? ho'
    have hsound:=Jl (ro:=ro) hcall hstep hs Q (λe w hb=>hP e a w hF (hb.weaken hE0 hn0));have go: ∀ a' w',((∃ r,a'=a.put oi.dst r)/\qn (λst'=>.and (.atom (st.nx<=st'.nx∨True)) (fA P call ops masks fuel (R.erase i) [] K st')) Γ E st.nx a' w')->wpAnyIn (Fr ro) 0 P .any ops Q fuel (listed.setIfInBounds i C) a' w':=by
     rintro a' w' ⟨⟨rr,ha⟩,E',st',g1,g2,g3,g4⟩
     refine ih (R.erase i) (listed.setIfInBounds i C) (ha▸ gj.Rg hF hmemO rr) (λk hk=>(g1 k (Nat.lt_of_lt_of_le hk hn0)).trans (hE0 k hk)) (Nat.le_trans hn0 g2) (by rw[W hmem];omega) (λj=> ?_) hpair' (λj hj=>hself j (I hj)) (by simpa using hsize) (λk o hk hl d hd=> ?_) g4.2 g3
      (λa'' w'' hbh=>hQ a'' w'' ?_)
     ·rw[L,bl];by_cases e:i=j
      ·subst e;simp only[if_true];rw[o_ (by omega)];simp only[ag];constructor
       ·intro hj;exact absurd hj hne
       ·rintro⟨_,hh⟩;cases hh
      ·rw[p_ e,← L,← hR j];exact Y (λh=>e h.symm)
     ·rw[L,bl] at hl ⊢;by_cases ed:i=d
      ·rw[o_ ed,o_ (by omega)];rfl
      ·rw[p_ ed,← L];by_cases ek:i=k
       ·subst ek;rw[ho] at hk;injection hk with hk;subst hk;exact hdl d hd
       ·rw[p_ ek,← L] at hl;exact hcl k o hk hl d hd
     ·obtain⟨E'',st'',k1,k2,k3,k4⟩:=hbh;exact⟨E'',st'',λk hk=>(k1 k (Nat.lt_of_lt_of_le hk g2)).trans (g1 k hk),Nat.le_trans g2 k2,k3,k4⟩
    unfold wpOpIn;rw[ho];simp only;split
    ·rename_i hw;rw[o_ hw] at hsound;exact Oper.wpIn_mono go hsound
    ·rename_i hw;rw[p_ hw] at hsound;exact⟨NN ro,go _ _ ⟨⟨_,rfl⟩,hsound⟩⟩
theorem ac3 {Γ:b5}{ro:Option Nat}{KP:PK}(hmix:P.follows .mixedOrders=C)(hm: ∀ f,bC (call f))(hcall: ∀ c,Ao P Γ KP c (call c)){id:Nat}{Q:Exit->Act->World->Prop}{K:St->VC}
   {E:Nat->Nat} {a:Act} {w:World} (h:(draw P call ops K st).holds) (hs:Sat Γ E st a w) (hP: ∀ e a w,gj E (unsure ops st.tmps) a->xH KP Γ E st.nx e a w->Q e a w) (hQ: ∀ a w,qn K Γ E st.nx a w->Q .normal a w):(Code.region id ops C).wpIn (Fr ro) 0 P Q a w:=by
 unfold draw at h;simp only at h;split at h
 ·rename_i hg;simp only[axb,G,T] at hg;obtain⟨⟨h1,h2⟩,h3⟩:=hg;refine wpIn_region_any hmix ?_;have hs':Sat Γ E st a {w with drawn:=w.drawn+1}:=⟨hs.tm,hs.wt,hs.df,hs.mm.drew _⟩
  have hlen:(CV P ops.toList ops.size 0).length<=ops.size:=by
   have: ∀(n d:Nat),(CV P ops.toList n d).length<=n:=by
    intro n;induction n with
    | zero=>intro d;simp[CV]
    | succ n ih =>
      intro d;simp only[CV];split
      ·have:=ih (d ||| 2^ (by assumption));simp only[bW];omega
      ·split
       ·have:=ih (d ||| 2^ (by assumption));simp only[bW];omega
       ·simp
   exact this _ _
  refine aus hm hcall (λi j hb=>aed hb) (T0:=st.tmps) hP ops.size (CV P ops.toList ops.size 0) _ hs.tm.unsure (λ_ _=>rfl) (Nat.le_refl _) hlen (λi=> ?_) h3 (λi hi o ho d hd=> ?_) (by simp) (λk o hk hl d hd=> ?_) h hs' hQ
  ·constructor
   ·intro hi;have:=h2 i hi;simp only[Nat.blt_eq] at this;refine⟨this.1,?_⟩;rw[L,M (by simpa using this.1)];simp
   ·rintro⟨hi,_⟩;have:=h1 i (ct.2 hi)
    rwa [bn] at this
  ·have:=h2 i hi;rw[ho] at this;simp only[T,G,an,Nat.blt_eq] at this;have hd':=this.2 d hd;refine⟨λe=> ?_,hd'.2⟩;have h5:=hd'.1;rw[e] at h5;simp at h5
  ·exfalso;rw[L] at hl;by_cases hks:k<ops.size
   ·rw[M (by simpa using hks)] at hl;simp at hl
   ·rw[Array.getElem?_eq_none (by simpa using hks)] at hl;simp at hl
 ·exact h.elim
end
end
end Sx
end Go.Proofs.YtoibaecagklkaaaGreatDoor
