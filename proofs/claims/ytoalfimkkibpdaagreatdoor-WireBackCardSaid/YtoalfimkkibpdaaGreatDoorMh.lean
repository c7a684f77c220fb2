/-
  The framework's thirteenth part: a region that draws its order: one order of our own serves every order.
-/
import Derived.Test.YtoalfimkkibpdaaGreatDoorMg
namespace Go.Proofs.YtoalfimkkibpdaaGreatDoor.Sx
open Go
noncomputable section
theorem evs_congr {σ σ':Operand→Option SV}: ∀ {l:List Operand},(∀ x∈ l,σ x=σ' x)→evs σ l=evs σ' l
 | [],_=>rfl
 | x::r,h=>by simp only[evs];rw[h x (by simp),evs_congr fun y hy=>h y (by simp[hy])]
theorem partsOf_congr {σ σ':Operand→Option SV}: ∀ {l:List (Nat×Operand)},(∀ p∈ l,σ p.2=σ' p.2)→partsOf σ l=partsOf σ' l
 | [],_=>rfl
 | (i,x)::r,h=>by simp only[partsOf];rw[h (i,x) (by simp),partsOf_congr fun p hp=>h p (by simp[hp])]
theorem bound_congr {σ σ':Operand→Option SV} {d:Bool×Int} {x:Option Operand} (h: ∀ y,x=some y→σ y=σ' y):bound σ d x=bound σ' d x:=by
 cases x with
 | none=>rfl
 | some y=>simp only[bound,h y rfl]
def keyOf (σ:Operand→Option SV):Op→Option Nat
 | .load _ a=>(match σ a with
   | some (.ptr key _ _)=>some key
   | some (.eptr key _ _ _)=>some key
   | some (.veptr key _ _ _ _)=>some key
   | some (.aptr key _ _ _)=>some key
   | _=>none)
 | .convert _ _ a=>(match σ a with
   | some (.slc key _ _ _ _)=>some key
   | some (.rslc key _ _ _ _ _)=>some key
   | _=>none)
 | .lookup _ x _ _=>(match σ x with
   | some (.map key)=>some key
   | _=>none)
 | .call c=>(match c.args.toList with
   | [x]=>(match σ x with
     | some (.map key)=>some key
     | _=>none)
   | _=>none)
 | _=>none
theorem qop_congr {P:Program} {look look':Look} {σ σ':Operand→Option SV} {o:Op} {K:Option SV→VC} (h: ∀ x∈ o.operands,σ x=σ' x)(hl: ∀ k,keyOf σ o=some k→look k=look' k) :
  qop P look σ o K=qop P look' σ' o K:=by
 cases o<;>simp only[Op.operands] at h<;>simp only[qop]
 case move x=>rw[h x (by simp)]
 case assign x=>rw[h x (by simp)]
 case pick c a b=>rw[h c (by simp),h a (by simp),h b (by simp)]
 case load t a =>
  simp only[keyOf] at hl
  rw[h a (by simp)] at hl ⊢
  unfold qload
  cases P.underlying t with
  | none=>rfl
  | some d =>
    simp only
    split
    ·rename_i key o hx;rw[hx] at hl;rw[hl key rfl]
    ·rename_i key w i k hx;rw[hx] at hl;rw[hl key rfl]
    ·rename_i key w o i k hx;rw[hx] at hl;rw[hl key rfl]
    ·rename_i key base n i hx;rw[hx] at hl;rw[hl key rfl]
    ·rfl
    ·rfl
 case nilCheck x=>rw[h x (by simp)]
 case binOp op t x y yt=>rw[h x (by simp),h y (by simp)]
 case unOp op t x=>rw[h x (by simp)]
 case convert s d x =>
  simp only[keyOf] at hl
  rw[h x (by simp)] at hl ⊢
  cases hx:σ' x with
  | none=>rfl
  | some a =>
    simp only[need,qconvB]
    split
    ·unfold qbytes
     split
     ·rfl
     ·rename_i key o n cl c;rw[hx] at hl;rw[hl key rfl]
     ·rename_i key i n c;rw[hx] at hl;rw[hl key rfl]
     ·rfl
    ·rfl
 case makeInterface t x=>rw[h x (by simp)]
 case makeFunc fn a b =>
  rw[evs_congr (l:=a.toList) fun x hx=>h x (by simp;exact .inl (by simpa using hx)),evs_congr (l:=b.toList) fun x hx=>h x (by simp;exact .inr (by simpa using hx))]
 case slice t x lo hi mx =>
  have hx:=h x (by simp)
  have hlo: ∀ d,bound σ d lo=bound σ' d lo:=fun d=>bound_congr fun y hy=>h y (by simp[hy])
  have hhi: ∀ d,bound σ d hi=bound σ' d hi:=fun d=>bound_congr fun y hy=>h y (by simp[hy])
  have hmx: ∀ d,bound σ d mx=bound σ' d mx:=fun d=>bound_congr fun y hy=>h y (by simp[hy])
  unfold qslice
  rw[hx]
  have e1: ∀ l s,qsliceStr σ l s lo hi K=qsliceStr σ' l s lo hi K:=fun _ _=>by simp only[qsliceStr,hlo,hhi]
  have e2: ∀ m a key o n cl c,qsliceSlc σ m a key o n cl c lo hi K=qsliceSlc σ' m a key o n cl c lo hi K:=fun _ _ _ _ _ _ _=>by simp only[qsliceSlc,hlo,hhi]
  have e3: ∀ key w i n c,qsliceRow σ key w i n c lo hi K=qsliceRow σ' key w i n c lo hi K:=fun _ _ _ _ _=>by simp only[qsliceRow,hlo,hhi]
  have e4: ∀ key o n,qsliceArr σ key o n lo hi K=qsliceArr σ' key o n lo hi K:=fun _ _ _=>by simp only[qsliceArr,hlo,hhi]
  have e5: ∀ n,litBounds σ n lo hi=litBounds σ' n lo hi:=fun _=>by simp only[litBounds,hlo,hhi]
  have e6: ∀ m key o n c z,mx=some z→qslice3 σ m key o n c lo hi z K=qslice3 σ' m key o n c lo hi z K:=fun _ _ _ _ _ z hz=>by
   subst hz
   simp only[qslice3,hlo,hhi,hmx]
  split
  ·exact e1 _ _
  ·split
   ·rw[e5,e4]
    split
    ·rfl
    ·exact e2 _ _ _ _ _ _ _
   ·rfl
  ·split
   ·exact e6 _ _ _ _ _ _ rfl
   ·rfl
  ·split
   ·exact e6 _ _ _ _ _ _ rfl
   ·rfl
  ·split
   ·exact e2 _ _ _ _ _ _ _
   ·rfl
  ·split
   ·rw[e3]
   ·rfl
  ·rfl
 case fieldAddr s x f=>rw[h x (by simp)]
 case field t x f=>rw[h x (by simp)]
 case indexAddr t x i=>rw[h x (by simp),h i (by simp)]
 case index t x i=>rw[h x (by simp),h i (by simp)]
 case typeAssert x t at_ ok=>rw[h x (by simp)]
 case extract x i=>rw[h x (by simp)]
 case build t parts =>
  unfold qbuild
  rw[partsOf_congr (l:=parts.toList) fun p hp=>h p.2 (by simp;exact⟨p.1,by simpa using hp⟩)]
 case lookup t x k ok =>
  simp only[keyOf] at hl
  rw[h x (by simp)] at hl ⊢
  rw[h k (by simp)]
  unfold need
  cases hx:σ' x with
  | none=>rfl
  | some v =>
    cases σ' k with
    | none=>rfl
    | some u =>
      simp only
      unfold qlookup
      split
      ·split
       ·split
        ·rfl
        ·rename_i key _
         rw[hx] at hl
         rw[hl key rfl]
        ·rfl
       ·rfl
      ·rfl
 case call c =>
  obtain⟨callee,args,ats⟩:=c
  cases callee with
  | value f=>rfl
  | invoke r m=>rfl
  | builtin b =>
    simp only[Call.operands] at h
    simp only
    unfold qcall
    split
    ·rename_i x hx
     have hxe:=h x (by simp;have:x∈ args.toList:=by rw[hx];simp
                       simpa using this)
     rw[hxe]
     cases args_ty:ats[0]? with
     | none=>rfl
     | some t =>
       simp only
       unfold need
       cases hv:σ' x with
       | none=>rfl
       | some v =>
         simp only
         unfold qlenM
         split
         ·rename_i key
          have:=hl key (by simp only[keyOf,hx,hxe,hv])
          rw[this]
         ·rfl
    ·rename_i x hx;rw[h x (by simp;have:x∈ args.toList:=by rw[hx];simp
                              simpa using this)]
    ·rename_i x y hx
     have h1:x∈ args.toList:=by rw[hx];simp
     have h2:y∈ args.toList:=by rw[hx];simp
     rw[h x (by simpa using h1),h y (by simpa using h2)]
    ·rename_i x y hx
     have h1:x∈ args.toList:=by rw[hx];simp
     have h2:y∈ args.toList:=by rw[hx];simp
     rw[h x (by simpa using h1),h y (by simpa using h2)]
    ·rfl
theorem keyOf_congr {σ σ':Operand→Option SV} {o:Op} (h: ∀ x∈ o.operands,σ x=σ' x):keyOf σ o=keyOf σ' o:=by
 cases o<;>simp only[keyOf]
 case load t a=>rw[h a (by simp[Op.operands])]
 case convert s d a=>rw[h a (by simp[Op.operands])]
 case lookup t x k ok=>rw[h x (by simp[Op.operands])]
 case call c =>
  split
  ·rename_i x hx
   have hm:x∈ c.args.toList:=by rw[hx];simp
   rw[h x (by simp only[Op.operands,Call.operands];cases c.callee<;>simp<;>first | exact .inr (by simpa using hm) | simpa using hm)]
  ·rfl
theorem lop_congr {P:Program} {call:Cal→PT} {σ σ':Operand→Option SV} {m:Mem} {nx:Nat} {o:Op} {K:KL} (h: ∀ x∈ o.operands,σ x=σ' x):lop P call σ m nx o K=lop P call σ' m nx o K:=by
 cases o<;>simp only[Op.operands] at h<;>simp only[lop]
 case box t x=>rw[h x (by simp)]
 case buildSlice t len parts =>
  unfold lbuildSlice
  rw[partsOf_congr (l:=parts.toList) fun p hp=>h p.2 (by simp;exact⟨p.1,by simpa using hp⟩)]
 case makeSlice t x y=>rw[h x (by simp),h y (by simp)]
 case store t a x=>rw[h a (by simp),h x (by simp)]
 case makeMap t r=>cases r with
  | none=>rfl
  | some x=>simp only[Option.map_some];rw[h x (by simp)]
 case mapUpdate t x k v=>rw[h x (by simp),h k (by simp),h v (by simp)]
 case insert t x k v=>rw[h x (by simp),h k (by simp),h v (by simp)]
 case mapEntry t x k=>rw[h x (by simp),h k (by simp)]
 case entryStore t x k v=>rw[h x (by simp),h k (by simp),h v (by simp)]
 case range t x=>rw[h x (by simp)]
 case next x b=>rw[h x (by simp)]
 case panic x=>rw[h x (by simp)]
 case call c =>
  obtain⟨callee,args,ats⟩:=c
  have he:evs σ args.toList=evs σ' args.toList:=evs_congr fun x hx=>h x (by simp only[Call.operands];cases callee<;>simp<;>first | exact .inr (by simpa using hx) | simpa using hx)
  unfold lcall
  simp only[he]
  cases evs σ' args.toList with
  | none=>cases callee<;>first | rfl | (rename_i b;cases b<;>rfl)
  | some avs =>
    cases callee with
    | value f=>have:=h f (by simp[Call.operands]);dsimp only;rw[this]
    | invoke r m=>have:=h r (by simp[Call.operands]);dsimp only;rw[this]
    | builtin b=>cases b<;>first | rfl | (cases avs with | nil=>rfl | cons x r=>cases r with | nil=>rfl | cons y r=>cases r<;>rfl)
def MonoPT (pt:PT):Prop:=∀ args m nx (K K':SV→Mem→Nat→VC),(∀ v m nx,(K v m nx).holds→(K' v m nx).holds)→(pt args m nx K).holds→(pt args m nx K').holds
theorem chk_mono {l:Bool} {c:Prop} [Decidable c] {t t':VC} (h:t.holds→t'.holds):(chk l c t).holds→(chk l c t').holds:=by
 unfold chk
 cases l
 ·exact fun x=>⟨x.1,h x.2⟩
 ·by_cases hc:c
  ·simp only[if_pos hc];exact h
  ·simp only[if_neg hc];exact id
theorem need_mono {x:Option SV} {t t':SV→VC} (h: ∀ v,(t v).holds→(t' v).holds):(need x t).holds→(need x t').holds:=by
 cases x with
 | none=>exact id
 | some v=>exact h v
theorem mapFind_mono {d:TypeDesc} {k:SV} {t t':Hit→VC} (h: ∀ r,(t r).holds→(t' r).holds): ∀ {es:List (Nat×SV×SV)} {i:Nat},(mapFind d k t es i).holds→(mapFind d k t' es i).holds
 | [],i,hh=>h _ hh
 | e::r,i,hh=>by
   unfold mapFind at hh ⊢
   split at hh
   ·split at hh
    ·exact h _ hh
    ·exact mapFind_mono h hh
   ·rw[fork_iff] at hh ⊢
    split at hh
    ·exact h _ hh
    ·exact mapFind_mono h hh
   ·exact hh
theorem withMap_mono {P:Program} {t:TypeId} {x k:Option SV} {m:Mem} {f f':TypeDesc→SV→Nat→List (Nat×SV×SV)→Nat→SV→VC} (h: ∀ d kv key es clock z,(f d kv key es clock z).holds→(f' d kv key es clock z).holds) :
  (withMap P t x k m f).holds→(withMap P t x k m f').holds:=by
 unfold withMap
 split
 ·split
  ·split
   ·exact h _ _ _ _ _ _
   ·exact id
  ·exact id
 ·exact id
theorem allNext_mono {f f':Option (Nat×SV×SV)→VC} (h: ∀ e,(f e).holds→(f' e).holds): ∀ {l:List (Option (Nat×SV×SV))},(allNext f l).holds→(allNext f' l).holds
 | [],hh=>hh
 | [_],hh=>h _ hh
 | _::_::_,hh=>⟨h _ hh.1,allNext_mono h hh.2⟩
theorem lop_mono {P:Program} {call:Cal→PT} (hm: ∀ f,MonoPT (call f)) {σ:Operand→Option SV} {m:Mem} {nx:Nat} {o:Op} {K K':KL} (h: ∀ v m nx,(K v m nx).holds→(K' v m nx).holds) :
  (lop P call σ m nx o K).holds→(lop P call σ m nx o K').holds:=by
 have hnew: ∀ t z,(lnew t z m nx K).holds→(lnew t z m nx K').holds:=by
  intro t z;unfold lnew;split
  ·exact h _ _ _
  ·exact id
 have hupd: ∀ t x k v,(lmapUpdate P t x k v m nx K).holds→(lmapUpdate P t x k v m nx K').holds:=fun t x k v=>by
  unfold lmapUpdate
  split
  ·unfold fmapUpdate
   split
   ·split
    ·exact h _ _ _
    ·exact id
   ·exact id
  refine withMap_mono fun d kv key es clock z=> ?_
  split
  ·exact mapFind_mono fun r=>by
    cases r with
    | none=>exact h _ _ _
    | some q=>exact h _ _ _
  ·exact id
 have hgrown: ∀ e n cs s m nx,(grown e n cs s m nx K).holds→(grown e n cs s m nx K').holds:=fun e n cs s m nx x c hc=>h _ _ _ (x c hc)
 unfold lop
 split
 ·split
  ·exact hnew _ _
  ·exact id
 ·exact need_mono fun v=>hnew _ _
 ·unfold lbuildSlice
  split
  ·split
   ·split
    ·split
     ·exact h _ _ _
     ·exact id
    ·exact id
   ·exact id
  ·exact id
 ·refine need_mono fun a=>need_mono fun b=> ?_
  unfold lmake
  split
  ·split
   ·split
    ·exact chk_mono (h _ _ _)
    ·exact id
   ·exact id
  ·split
   ·split
    ·split
     ·exact fun hh=>⟨hh.1,h _ _ _ hh.2⟩
     ·exact id
    ·exact id
   ·exact id
  ·exact id
 ·unfold lstore
  split
  ·split
   ·split
    ·exact h _ _ _
    ·exact id
   ·exact id
  ·split
   ·split
    ·split
     ·exact fun x=>⟨x.1,h _ _ _ x.2⟩
     ·exact id
    ·exact id
   ·split
    ·exact fun x=>⟨x.1,h _ _ _ x.2⟩
    ·exact id
   ·exact id
  ·split
   ·split
    ·split
     ·exact fun x=>⟨x.1,h _ _ _ x.2⟩
     ·exact id
    ·exact id
   ·exact id
  ·split
   ·split
    ·split
     ·split
      ·exact fun x=>⟨x.1,h _ _ _ x.2⟩
      ·exact id
     ·exact id
    ·exact id
   ·exact id
  ·exact id
 ·unfold lcall
  split
  ·split
   ·exact hm _ _ _ _ _ _ fun v m nx=>h _ _ _
   ·exact hm _ _ _ _ _ _ fun v m nx=>h _ _ _
   ·exact id
  ·split
   ·split
    ·split
     ·exact hm _ _ _ _ _ _ fun v m nx=>h _ _ _
     ·exact id
    ·exact id
   ·exact id
  ·unfold lappend2
   split
   ·unfold lappend
    split
    ·split
     ·split
      ·split
       ·split
        ·unfold lappendTo
         split
         ·split
          ·split
           ·split
            ·exact h _ _ _
            ·exact hgrown _ _ _ _ _ _
           ·split
            ·split
             ·split
              ·exact h _ _ _
              ·exact id
             ·exact hgrown _ _ _ _ _ _
            ·exact id
           ·split
            ·split
             ·exact fun x=>⟨x.1,fun c hc=>h _ _ _ (x.2 c hc)⟩
             ·exact id
            ·exact id
           ·exact id
          ·exact id
         ·exact id
        ·exact id
       ·exact id
      ·exact id
     ·exact id
    ·exact id
   ·split
    ·split
     ·split
      ·split
       ·exact lappendRows_mono fun u m nx=>h _ _ _
       ·exact id
      ·exact id
     ·exact id
    ·exact id
  ·unfold lcopy
   split
   ·split
    ·split
     ·split
      ·split
       ·exact h _ _ _
       ·exact id
      ·exact id
     ·unfold lcopyStr
      split
      ·split
       ·exact fun x=>⟨x.1,h _ _ _ x.2⟩
       ·exact id
      ·exact id
     ·exact id
    ·exact id
   ·exact id
  ·unfold ldelete
   split
   ·split
    ·split
     ·split
      ·split
       ·exact h _ _ _
       ·exact id
      ·exact id
     ·exact id
    ·exact withMap_mono fun d kv key es clock z=>mapFind_mono fun r=>by
      cases r with
      | none=>exact h _ _ _
      | some q=>exact h _ _ _
   ·exact id
  ·exact id
 ·unfold lmakeMap
  split
  ·exact h _ _ _
  ·split
   ·exact h _ _ _
   ·exact id
  ·exact id
 ·exact hupd _ _ _ _
 ·exact hupd _ _ _ _
 ·unfold lmapEntry
  split
  ·unfold fmapEntry
   split
   ·split
    ·split
     ·split
      ·exact fun hh b=>h _ _ _ (hh b)
      ·exact id
     ·exact id
    ·exact id
   ·exact id
  exact withMap_mono fun d kv key es clock z=>mapFind_mono fun r=>by
   cases r with
   | none=>exact h _ _ _
   | some q=>exact h _ _ _
 ·unfold lentryStore
  split
  ·unfold fmapStore
   split
   ·split
    ·exact fun hh=>And.intro hh.1 (h _ _ _ hh.2)
    ·exact id
   ·exact id
  split
  ·split
   ·split
    ·exact h _ _ _
    ·exact id
   ·exact id
  ·exact id
 ·unfold lrange
  split
  ·exact h _ _ _
  ·split
   ·exact h _ _ _
   ·exact id
  ·exact id
 ·unfold lnext
  split
  ·split
   ·exact h _ _ _
   ·split
    ·split
     ·exact id
     ·exact allNext_mono fun e=>by
       cases e with
       | none=>exact h _ _ _
       | some e=>exact h _ _ _
    ·exact id
   ·exact id
  ·exact id
 ·exact id
 ·exact id
def names (ops:Array Oper)(o:Oper):List Nat:=o.looksAt ops
def qtr (P:Program)(ops:Array Oper)(j:Nat)(o:Oper)(tmps:List (Option SV))(m:Mem)(nx:Nat)(k:Option SV→VC):VC :=
 match guardOf ops o tmps with
 | some true=>qop P (fun k=>m.get k) (ev tmps) o.op (fun v=>putV (isGuard ops j) v nx k)
 | some false=>k (some (.tup []))
 | none=>.fail "a guard that is not known"
theorem stepOp_quiet {P:Program} {call:Cal→PT} {ops:Array Oper} {j:Nat} {o:Oper} (hq:isQuiet P o.op=true)(K:St→VC)(st:St) :
  stepOp P call ops j o K st=qtr P ops j o st.tmps st.m st.nx (fun v=>K ⟨setSlot st.tmps o.dst v,st.m,st.nx⟩):=by
 unfold stepOp qtr
 cases guardOf ops o st.tmps with
 | none=>rfl
 | some b=>cases b<;>simp only[hq]<;>rfl
theorem qtr_det (P:Program)(ops:Array Oper)(j:Nat)(o:Oper)(tmps:List (Option SV))(m:Mem)(nx:Nat) :
  ∃(p:Prop) (u:Option SV),(∀ k,(qtr P ops j o tmps m nx k).holds↔p∧(k u).holds):=by
 unfold qtr
 cases guardOf ops o tmps with
 | none=>exact⟨False,none,fun k=>⟨fun h=>h.elim,fun h=>h.1.elim⟩⟩
 | some b =>
   cases b with
   | false=>exact⟨True,some (.tup []),fun k=>⟨fun h=>⟨trivial,h⟩,fun h=>h.2⟩⟩
   | true =>
     obtain⟨obl,sv,h1,_⟩:=qop_ok (P:=P) (look:=fun k=>m.get k) (σ:=ev tmps) o
     obtain⟨p,u,g1,_,_⟩:=putV_iff (isGuard ops j) sv nx
     exact⟨obl∧p,u,fun k=>by simp only[h1,g1];exact⟨fun h=>⟨⟨h.1,h.2.1⟩,h.2.2⟩,fun h=>⟨h.1.1,h.1.2,h.2⟩⟩⟩
theorem mem_looksAt_op {ops:Array Oper} {o:Oper} {t:Nat} (h:Operand.tmp t∈ o.op.operands):t∈ o.looksAt ops:=by
 simp only[Oper.looksAt,List.mem_append,List.mem_filterMap]
 exact .inl ⟨.tmp t,by simpa using h,rfl⟩
theorem mem_looksAt_guard {ops:Array Oper} {o oj:Oper} {j d:Nat} {b:Bool} (hg:o.guard=some (j,b))(hj:ops[j]?=some oj)(hd:oj.dst=some d):d∈ o.looksAt ops:=by
 simp only[Oper.looksAt,List.mem_append]
 right;simp[hg,hj,hd]
def Agree (ops:Array Oper)(o:Oper)(tmps tmps':List (Option SV)):Prop:=∀ t∈ o.looksAt ops,slot tmps t=slot tmps' t
theorem Agree.ev {ops:Array Oper} {o:Oper} {tmps tmps':List (Option SV)} (h:Agree ops o tmps tmps'): ∀ x∈ o.op.operands,Sx.ev tmps x=Sx.ev tmps' x:=by
 intro x hx
 cases x with
 | tmp t=>exact h t (mem_looksAt_op hx)
 | _=>rfl
theorem Agree.guard {ops:Array Oper} {o:Oper} {tmps tmps':List (Option SV)} (h:Agree ops o tmps tmps'):guardOf ops o tmps=guardOf ops o tmps':=by
 unfold guardOf
 split
 ·rfl
 ·rename_i j want hg
  split
  ·rename_i oj hj
   split
   ·rename_i d hd
    rw[h d (mem_looksAt_guard hg hj hd)]
   ·rfl
  ·rfl
theorem qtr_congr {P:Program} {ops:Array Oper} {j:Nat} {o:Oper} {tmps tmps':List (Option SV)} {m m':Mem} {nx:Nat} {k:Option SV→VC} (h:Agree ops o tmps tmps')
  (hl: ∀ key,keyOf (ev tmps) o.op=some key→m.get key=m'.get key):qtr P ops j o tmps m nx k=qtr P ops j o tmps' m' nx k:=by
 unfold qtr
 rw[h.guard]
 cases guardOf ops o tmps' with
 | none=>rfl
 | some b =>
   cases b with
   | false=>rfl
   | true=>exact qop_congr h.ev hl
theorem slot_set_ne: ∀ {tmps:List (Option SV)} {d t:Nat} {v:Option SV},d≠t→slot (tmps.set d v) t=slot tmps t
 | [],_,_,_,_=>rfl
 | _::_,0,0,_,h=>absurd rfl h
 | _::_,0,_+1,_,_=>rfl
 | _::_,_+1,0,_,_=>rfl
 | _::r,d+1,t+1,v,h=>slot_set_ne (tmps:=r) (fun e=>h (by rw[e]))
theorem agree_set {ops:Array Oper} {o:Oper} {tmps:List (Option SV)} {dst:Option Nat} {v:Option SV} (h: ∀ d,dst=some d→d∉ o.looksAt ops):Agree ops o (setSlot tmps dst v) tmps:=by
 intro t ht
 cases dst with
 | none=>rfl
 | some d=>exact slot_set_ne (fun e=>h d rfl (e▸ ht))
theorem setSlot_comm {tmps:List (Option SV)} {x y:Option Nat} {v u:Option SV} (h: ∀ d,x=some d→y≠some d):setSlot (setSlot tmps x v) y u=setSlot (setSlot tmps y u) x v:=by
 cases x with
 | none=>rfl
 | some d =>
   cases y with
   | none=>rfl
   | some e =>
     have:d≠e:=fun he=>h d rfl (he▸ rfl)
     simp only[setSlot];exact List.set_comm _ _ this
end
end Go.Proofs.YtoalfimkkibpdaaGreatDoor.Sx
namespace Go.Proofs.YtoalfimkkibpdaaGreatDoor.Sx
open Go
noncomputable section
def preserved (keys:List Nat)(m m':Mem)(t:VC):VC :=
 match keys with
 | []=>t
 | k::r=>.and (.atom (m'.get k=m.get k)) (preserved r m m' t)
theorem preserved_iff {keys:List Nat} {m m':Mem} {t:VC}:(preserved keys m m' t).holds↔(∀ k∈ keys,m'.get k=m.get k)∧t.holds:=by
 induction keys with
 | nil=>simp[preserved]
 | cons k r ih =>
   simp only[preserved,VC.holds,ih,List.mem_cons,forall_eq_or_imp]
   exact⟨fun h=>⟨⟨h.1,h.2.1⟩,h.2.2⟩,fun h=>⟨h.1.1,h.1.2,h.2⟩⟩
def grows (nx nx':Nat)(t:VC):VC:=match Nat.ble nx nx' with
 | true=>t
 | false=>.fail "keys"
theorem grows_iff {nx nx':Nat} {t:VC}:(grows nx nx' t).holds↔nx≤nx'∧t.holds:=by
 unfold grows
 cases h:Nat.ble nx nx' with
 | true=>exact⟨fun x=>⟨Nat.le_of_ble_eq_true h,x⟩,fun x=>x.2⟩
 | false=>exact⟨fun x=>x.elim,fun x=>by have:=Nat.ble_eq_true_of_le x.1;rw[h] at this;cases this⟩
section
variable {P : Program} {call : Cal → PT} {ops : Array Oper}
theorem stepOp_mono (hm: ∀ f,MonoPT (call f)) {j:Nat} {o:Oper} {K K':St→VC} {st:St}
  (h: ∀ u m nx,(K ⟨setSlot st.tmps o.dst u,m,nx⟩).holds→(K' ⟨setSlot st.tmps o.dst u,m,nx⟩).holds) (hh:(stepOp P call ops j o K st).holds):(stepOp P call ops j o K' st).holds:=by
 cases hq:isQuiet P o.op with
 | true =>
   rw[stepOp_quiet hq] at hh ⊢
   obtain⟨p,u,hd⟩:=qtr_det P ops j o st.tmps st.m st.nx
   rw[hd] at hh ⊢
   exact⟨hh.1,h _ _ _ hh.2⟩
 | false =>
   unfold stepOp at hh ⊢
   cases hg:guardOf ops o st.tmps with
   | none=>rw[hg] at hh;exact hh.elim
   | some b =>
     rw[hg] at hh
     cases b with
     | false=>exact h _ _ _ hh
     | true =>
       simp only[hq] at hh ⊢
       cases hw:Mem.wf st.nx st.m with
       | false=>rw[hw] at hh;exact hh.elim
       | true =>
         rw[hw] at hh
         simp only at hh ⊢
         refine lop_mono hm (fun v m nx hp=> ?_) hh
         obtain⟨p,u,g1,_,_⟩:=putV_iff (isGuard ops j) v nx
         unfold putK at hp ⊢
         rw[g1] at hp ⊢
         exact⟨hp.1,h _ _ _ hp.2⟩
def stepG (P:Program)(call:Cal→PT)(ops:Array Oper)(i:Nat)(o:Oper)(H:List Nat)(K:St→VC)(st:St):VC :=
 stepOp P call ops i o (fun st'=>preserved H st.m st'.m (grows st.nx st'.nx (K st'))) st
theorem putV_grow {g:Bool} {v:Option SV} {nx nx':Nat} (hn:nx≤nx') {k:Option SV→VC} (h:(putV g v nx k).holds):(putV g v nx' k).holds:=by
 have hw:wfO nx v=true→wfO nx' v=true:=by cases v with
  | none=>exact id
  | some v=>exact SV.wf_mono hn v
 unfold putV at *
 split at h
 ·exact h
 ·rename_i g' v' hne
  cases hv:wfO nx v with
  | false=>rw[hv] at h;exact h.elim
  | true =>
    rw[hv] at h
    rw[hw hv];exact h
theorem qtr_grow {j:Nat} {o:Oper} {tmps:List (Option SV)} {m:Mem} {nx nx':Nat} (hn:nx≤nx') {k:Option SV→VC} (h:(qtr P ops j o tmps m nx k).holds):(qtr P ops j o tmps m nx' k).holds:=by
 unfold qtr at h ⊢
 cases hg:guardOf ops o tmps with
 | none=>rw[hg] at h;exact h.elim
 | some b =>
   rw[hg] at h
   cases b with
   | false=>exact h
   | true =>
     obtain⟨obl,sv,h1,_⟩:=qop_ok (P:=P) (look:=fun k=>m.get k) (σ:=ev tmps) o
     simp only at h ⊢
     rw[h1] at h ⊢
     refine⟨h.1,?_⟩
     exact putV_grow hn h.2
structure Apart (ops:Array Oper)(x y:Oper):Prop where
 a: ∀ d,x.dst=some d→d∉ y.looksAt ops
 b: ∀ d,x.dst=some d→y.dst≠some d
 c: ∀ d,y.dst=some d→d∉ x.looksAt ops
theorem swap_loud (hm: ∀ f,MonoPT (call f)) {jp ji:Nat} {op oi:Oper} (hp:isQuiet P op.op=true)(hi:isQuiet P oi.op=false)(ha:Apart ops op oi) {H H1:List Nat} {K:St→VC} {st:St}
  (hH: ∀ k∈ H,k∈ H1) (hk: ∀ k,keyOf (ev st.tmps) op.op=some k→k∈ H1) (h:(stepOp P call ops jp op (stepG P call ops ji oi H1 K) st).holds) :
  (stepG P call ops ji oi H (stepOp P call ops jp op K) st).holds:=by
 obtain⟨tmps,m,nx⟩:=st
 rw[stepOp_quiet hp] at h
 obtain⟨pp,u,hd⟩:=qtr_det P ops jp op tmps m nx
 obtain⟨hpp,h⟩:=(hd _).1 h
 have hag:Agree ops oi (setSlot tmps op.dst u) tmps:=agree_set ha.a
 have fin: ∀(u':Option SV) (m':Mem) (nx':Nat),(preserved H1 m m' (grows nx nx' (K ⟨setSlot (setSlot tmps op.dst u) oi.dst u',m',nx'⟩))).holds →
   (preserved H m m' (grows nx nx' (stepOp P call ops jp op K ⟨setSlot tmps oi.dst u',m',nx'⟩))).holds:=by
  intro u' m' nx' hh
  rw[preserved_iff,grows_iff] at hh ⊢
  refine⟨fun k hk'=>hh.1 k (hH k hk'),hh.2.1,?_⟩
  rw[stepOp_quiet hp]
  have h1:(qtr P ops jp op tmps m nx (fun v=>K ⟨setSlot (setSlot tmps oi.dst u') op.dst v,m',nx'⟩)).holds:=by
   rw[hd]
   refine⟨hpp,?_⟩
   rw[setSlot_comm (fun d hd' he=>ha.b d he hd')]
   exact hh.2.2
  have h2:=qtr_grow hh.2.1 h1
  rw[qtr_congr (tmps':=setSlot tmps oi.dst u') (m':=m') (fun t ht=>((agree_set (tmps:=tmps) (v:=u') ha.c) t ht).symm) (fun key hkey=>(hh.1 key (hk key hkey)).symm)] at h2
  exact h2
 unfold stepG stepOp at h ⊢
 rw[hag.guard] at h
 cases hg:guardOf ops oi tmps with
 | none=>rw[hg] at h;exact h.elim
 | some b =>
   rw[hg] at h
   cases b with
   | false=>exact fin _ _ _ h
   | true =>
     simp only[hi] at h ⊢
     cases hw:Mem.wf nx m with
     | false=>rw[hw] at h;exact h.elim
     | true =>
       rw[hw] at h
       simp only at h ⊢
       rw[lop_congr hag.ev] at h
       refine lop_mono hm (fun v m' nx' hpk=> ?_) h
       obtain⟨p',u',g1,_,_⟩:=putV_iff (isGuard ops ji) v nx'
       unfold putK at hpk ⊢
       rw[g1] at hpk ⊢
       exact⟨hpk.1,fin _ _ _ hpk.2⟩
theorem swap_quiet {jp ji:Nat} {op oi:Oper} (hp:isQuiet P op.op=true)(hi:isQuiet P oi.op=true)(ha:Apart ops op oi) {K:St→VC} {st:St}
  (h:(stepOp P call ops jp op (stepOp P call ops ji oi K) st).holds):(stepOp P call ops ji oi (stepOp P call ops jp op K) st).holds:=by
 obtain⟨tmps,m,nx⟩:=st
 rw[stepOp_quiet hp] at h
 obtain⟨pp,u,hd⟩:=qtr_det P ops jp op tmps m nx
 obtain⟨hpp,h⟩:=(hd _).1 h
 rw[stepOp_quiet hi] at h ⊢
 rw[qtr_congr (tmps':=tmps) (agree_set ha.a) (fun _ _=>rfl)] at h
 obtain⟨pi,v,hd2⟩:=qtr_det P ops ji oi tmps m nx
 rw[hd2] at h ⊢
 refine⟨h.1,?_⟩
 rw[stepOp_quiet hp]
 rw[qtr_congr (tmps':=tmps) (agree_set ha.c) (fun _ _=>rfl),hd]
 refine⟨hpp,?_⟩
 have h2:=h.2
 simp only at h2 ⊢
 rw[setSlot_comm (fun d hd' he=>ha.b d he hd')]
 exact h2
def keysFor (mask:Nat)(rd:List (Nat×Nat)):List Nat :=
 match rd with
 | []=>[]
 | (p,k)::r=>match mask.testBit p with
   | true=>keysFor mask r
   | false=>k::keysFor mask r
theorem keysFor_mem {mask:Nat} {k:Nat}: ∀ {rd:List (Nat×Nat)},k∈ keysFor mask rd↔∃ p,(p,k)∈ rd∧mask.testBit p=false
 | []=>by simp[keysFor]
 | (p,x)::r=>by
   simp only[keysFor]
   cases h:mask.testBit p with
   | true =>
     simp only[keysFor_mem (rd:=r),List.mem_cons,Prod.mk.injEq]
     constructor
     ·rintro⟨q,h1,h2⟩;exact⟨q,.inr h1,h2⟩
     ·rintro⟨q,h1 | h1,h2⟩
      ·obtain⟨rfl,rfl⟩:=h1;rw[h] at h2;cases h2
      ·exact⟨q,h1,h2⟩
   | false =>
     simp only[List.mem_cons,keysFor_mem (rd:=r),Prod.mk.injEq]
     constructor
     ·rintro(rfl | ⟨q,h1,h2⟩)
      ·exact⟨p,.inl ⟨rfl,rfl⟩,h⟩
      ·exact⟨q,.inr h1,h2⟩
     ·rintro⟨q,h1 | h1,h2⟩
      ·obtain⟨rfl,rfl⟩:=h1;exact .inl rfl
      ·exact .inr ⟨q,h1,h2⟩
def addKey (j:Nat)(k:Option Nat)(rd:List (Nat×Nat)):List (Nat×Nat) :=
 match k with
 | some k=>(j,k)::rd
 | none=>rd
def branches (f:Nat→VC):List Nat→VC
 | []=>.tt
 | j::r=>(match r with
   | []=>f j
   | _::_=>.and (f j) (branches f r))
theorem branches_mem {f:Nat→VC}: ∀ {l:List Nat},(branches f l).holds→∀ j∈ l,(f j).holds
 | [],_,_,h=>by cases h
 | [j],h,k,hk=>by simp only[List.mem_singleton] at hk;subst hk;exact h
 | j::x::r,h,k,hk=>by
   rw[List.mem_cons] at hk
   rcases hk with rfl | hk
   ·exact h.1
   ·exact branches_mem (l:=x::r) h.2 k hk
theorem branches_mono {f g:Nat→VC} (hfg: ∀ j,(f j).holds→(g j).holds): ∀ {l:List Nat},(branches f l).holds→(branches g l).holds
 | [],h=>h
 | [j],h=>hfg j h
 | j::x::r,h=>⟨hfg j h.1,branches_mono hfg (l:=x::r) h.2⟩
def lmask:List Nat→Nat
 | []=>0
 | q::r=>Nat.lor (Nat.pow 2 q) (lmask r)
theorem lmask_bit {k:Nat}: ∀ {l:List Nat},(lmask l).testBit k=true→k∈ l
 | [],h=>by simp[lmask] at h
 | q::r,h=>by
   have h:(2^ q ||| lmask r).testBit k=true:=h
   simp only[Nat.testBit_or,Bool.or_eq_true] at h
   rcases h with h | h
   ·rw[Nat.testBit_two_pow] at h;simp at h;simp[h]
   ·exact List.mem_cons_of_mem _ (lmask_bit h)
theorem lmask_mem {k:Nat}: ∀ {l:List Nat},k∈ l→(lmask l).testBit k=true
 | q::r,h=>by
   show(2^ q ||| lmask r).testBit k=true
   simp only[Nat.testBit_or,Bool.or_eq_true]
   rw[List.mem_cons] at h
   rcases h with rfl | h
   ·left;simp[]
   ·exact .inr (lmask_mem h)
def isReady (masks:List Nat)(lm:Nat)(j:Nat):Bool:=Nat.beq (Nat.land (masks.getD j 0) lm) 0
theorem isReady_iff {masks l:List Nat} {j:Nat}:isReady masks (lmask l) j=true↔∀ q∈ l,(masks.getD j 0).testBit q=false:=by
 unfold isReady
 constructor
 ·intro h q hq
  have h0:=Nat.eq_of_beq_eq_true h
  have:(masks.getD j 0 &&& lmask l).testBit q=false:=by
   show(Nat.land (masks.getD j 0) (lmask l)).testBit q=false
   rw[h0];exact Nat.zero_testBit q
  rw[Nat.testBit_and,lmask_mem hq,Bool.and_true] at this
  exact this
 ·intro h
  have key: ∀ {a b:Nat},a=b→Nat.beq a b=true:=fun e=>by subst e;exact Nat.beq_refl _
  apply key
  apply Nat.eq_of_testBit_eq
  intro k
  show(masks.getD j 0 &&& lmask l).testBit k=_
  rw[Nat.testBit_and,Nat.zero_testBit]
  cases hk:(lmask l).testBit k with
  | false=>simp
  | true=>rw[h k (lmask_bit hk)];rfl
def quietAt (P:Program)(ops:Array Oper)(j:Nat):Bool:=match ops[j]? with
 | some o=>isQuiet P o.op
 | none=>false
def findQ (P:Program)(ops:Array Oper)(masks:List Nat)(lm:Nat):List Nat→Option Nat
 | []=>none
 | j::r=>match quietAt P ops j&&isReady masks lm j with
   | true=>some j
   | false=>findQ P ops masks lm r
theorem findQ_some {masks:List Nat} {lm j:Nat}: ∀ {l:List Nat},findQ P ops masks lm l=some j→j∈ l∧quietAt P ops j=true∧isReady masks lm j=true
 | [],h=>by cases h
 | k::r,h=>by
   unfold findQ at h
   split at h
   ·rename_i hk
    injection h with h;subst h
    rw[Bool.and_eq_true] at hk
    exact⟨by simp,hk⟩
   ·have:=findQ_some h
    exact⟨by simp[this.1],this.2⟩
theorem findQ_none {masks:List Nat} {lm:Nat}: ∀ {l:List Nat},findQ P ops masks lm l=none→∀ j∈ l,(quietAt P ops j&&isReady masks lm j)=false
 | [],_,_,hj=>by cases hj
 | k::r,h,j,hj=>by
   unfold findQ at h
   split at h
   ·cases h
   ·rename_i hk
    rw[List.mem_cons] at hj
    rcases hj with rfl | hj
    ·exact hk
    ·exact findQ_none h j hj
def readyL (P:Program)(ops:Array Oper)(masks:List Nat)(l:List Nat):List Nat :=
 l.filter fun j=>!quietAt P ops j&&isReady masks (lmask l) j
def drawOps (P:Program)(call:Cal→PT)(ops:Array Oper)(masks:List Nat):Nat→List Nat→List (Nat×Nat)→(St→VC)→St→VC
 | _,[],_,K,st=>K st
 | 0,_::_,_,_,_=>.fail "a region that is too long"
 | n+1,x::r,rd,K,st=>match findQ P ops masks (lmask (x::r)) (x::r)with
   | some i=>(match ops[i]? with
     | some o=>stepOp P call ops i o (drawOps P call ops masks n ((x::r).erase i) (addKey i (keyOf (ev st.tmps) o.op) rd) K) st
     | none=>.fail "no operation")
   | none=>branches (fun j=>match ops[j]? with
      | some oj=>stepG P call ops j oj (keysFor (masks.getD j 0) rd) (drawOps P call ops masks n ((x::r).erase j) rd K) st
      | none=>.fail "no operation") (readyL P ops masks (x::r))
theorem drawOps_nil {masks:List Nat} {n:Nat} {rd:List (Nat×Nat)} {K:St→VC} {st:St}:drawOps P call ops masks n [] rd K st=K st:=by cases n<;>rfl
theorem addKey_mono {i:Nat} {k:Option Nat} {rd rd':List (Nat×Nat)} (h: ∀ x∈ rd,x∈ rd'): ∀ x∈ addKey i k rd,x∈ addKey i k rd':=by
 intro x hx
 cases k with
 | none=>exact h x hx
 | some k=>simp only[addKey,List.mem_cons] at hx ⊢;exact hx.imp id (h x)
theorem addKey_sub {i:Nat} {k:Option Nat} {rd:List (Nat×Nat)}: ∀ x∈ rd,x∈ addKey i k rd:=by
 intro x hx
 cases k with
 | none=>exact hx
 | some k=>exact List.mem_cons_of_mem _ hx
theorem addKey_comm {i j:Nat} {k k':Option Nat} {rd:List (Nat×Nat)}: ∀ x∈ addKey i k (addKey j k' rd),x∈ addKey j k' (addKey i k rd):=by
 intro x hx
 cases k<;>cases k'<;>simp only[addKey,List.mem_cons] at hx ⊢ <;> first | exact hx | (rcases hx with h | h | h<;>simp[h])
theorem drawOps_rd (hm: ∀ f,MonoPT (call f)) {masks:List Nat} {K:St→VC}: ∀ {n:Nat} {l:List Nat} {rd rd':List (Nat×Nat)} {st:St},(∀ x∈ rd,x∈ rd')→(drawOps P call ops masks n l rd' K st).holds→(drawOps P call ops masks n l rd K st).holds
 | n,[],_,_,_,_,h=>by rw[drawOps_nil] at h ⊢;exact h
 | 0,_::_,_,_,_,_,h=>h.elim
 | n+1,x::r,rd,rd',st,hr,h=>by
   simp only[drawOps] at h ⊢
   split at h
   ·split at h
    ·exact stepOp_mono hm (fun u m nx hh=>drawOps_rd hm (addKey_mono hr) hh) h
    ·exact h.elim
   ·refine branches_mono (fun j hj=> ?_) h
    cases hoj:ops[j]? with
    | none=>rw[hoj] at hj;exact hj.elim
    | some oj =>
      rw[hoj] at hj
      simp only at hj ⊢
      refine stepOp_mono hm (fun u m nx hh=> ?_) hj
      rw[preserved_iff,grows_iff] at hh ⊢
      refine⟨fun k hk=>hh.1 k ?_,hh.2.1,drawOps_rd hm hr hh.2.2⟩
      rw[keysFor_mem] at hk ⊢
      obtain⟨p,h1,h2⟩:=hk
      exact⟨p,hr _ h1,h2⟩
theorem Apart.symm {x y:Oper} (h:Apart ops x y):Apart ops y x:=⟨h.c,fun d hd he=>h.b d he hd,h.a⟩
def Rel (P:Program)(ops:Array Oper)(masks:List Nat)(p i:Nat):Prop :=
 ∃ op oi,ops[p]?=some op∧ops[i]?=some oi∧((masks.getD i 0).testBit p=true∨(masks.getD p 0).testBit i=true∨(isQuiet P op.op=false∧isQuiet P oi.op=false)∨Apart ops op oi)
def Rels (P:Program)(ops:Array Oper)(masks:List Nat)(R:List Nat):Prop:=∀ p∈ R,∀ i∈ R,p≠i→Rel P ops masks p i
theorem Rels.erase {masks:List Nat} {R:List Nat} (h:Rels P ops masks R)(q:Nat):Rels P ops masks (R.erase q):=fun p hp i hi=>h p (List.mem_of_mem_erase hp) i (List.mem_of_mem_erase hi)
def outI (P:Program)(call:Cal→PT)(ops:Array Oper)(masks:List Nat)(n:Nat)(i:Nat)(oi:Oper)(R:List Nat)(rd:List (Nat×Nat))(K:St→VC)(st:St):VC :=
 match isQuiet P oi.op with
 | true=>stepOp P call ops i oi (drawOps P call ops masks n R (addKey i (keyOf (ev st.tmps) oi.op) rd) K) st
 | false=>stepG P call ops i oi (keysFor (masks.getD i 0) rd) (drawOps P call ops masks n R rd K) st
theorem bubble (hm: ∀ f,MonoPT (call f)) {masks:List Nat} {K:St→VC}: ∀(n:Nat),
  (∀ {R:List Nat} {rd:List (Nat×Nat)} {st:St} {i:Nat} {oi:Oper},R.length≤n+1→Rels P ops masks R→i∈ R→ops[i]?=some oi→(∀ q∈ R,(masks.getD i 0).testBit q=false) →
    (drawOps P call ops masks (n+1) R rd K st).holds→(outI P call ops masks n i oi (R.erase i) rd K st).holds) ∧
  (∀ {X:List Nat} {rd:List (Nat×Nat)} {st:St} {q:Nat} {oq:Oper},X.length≤n+1→Rels P ops masks X→q∈ X→ops[q]?=some oq→isQuiet P oq.op=true→(∀ p∈ X,(masks.getD q 0).testBit p=false) →
    (stepOp P call ops q oq (drawOps P call ops masks n (X.erase q) (addKey q (keyOf (ev st.tmps) oq.op) rd) K) st).holds→(drawOps P call ops masks (n+1) X rd K st).holds):=by
 have apart: ∀ {R:List Nat} {q i:Nat} {oq oi:Oper},Rels P ops masks R→q∈ R→i∈ R→q≠i→ops[q]?=some oq→ops[i]?=some oi→isQuiet P oq.op=true →
   (∀ p∈ R,(masks.getD q 0).testBit p=false)→(∀ p∈ R,(masks.getD i 0).testBit p=false)→Apart ops oq oi:=by
  intro R q i oq oi hR hq hi hne hoq hoi hqq h1 h2
  obtain⟨op,oi',e1,e2,h⟩:=hR q hq i hi hne
  rw[hoq] at e1;injection e1 with e1;subst e1
  rw[hoi] at e2;injection e2 with e2;subst e2
  rcases h with h | h | h | h
  ·rw[h2 q hq] at h;cases h
  ·rw[h1 i hi] at h;cases h
  ·rw[hqq] at h;cases h.1
  ·exact h
 intro n
 induction n with
 | zero =>
   refine⟨fun {R rd st i oi} hl hR hi ho hrd h=> ?_,fun {X rd st q oq} hl hX hq ho hqq hrd h=> ?_⟩
   ·have hR1:R=[i]:=by
     match R,hl,hi with
     | [x],_,hi=>simp only[List.mem_singleton] at hi;rw[hi]
    subst hR1
    simp only[drawOps] at h
    split at h
    ·rename_i j hj
     obtain⟨g1,g2,_⟩:=findQ_some hj
     simp only[List.mem_singleton] at g1;subst g1
     simp only[quietAt,ho] at g2
     rw[ho] at h
     simp only[outI,g2]
     exact h
    ·rename_i hj
     have hnq:=findQ_none hj i (by simp)
     have hre:isReady masks (lmask [i]) i=true:=isReady_iff.2 hrd
     simp only[hre,Bool.and_true,quietAt,ho] at hnq
     have:=branches_mem h i (by simp only[readyL,List.mem_filter,quietAt,ho,hnq,hre];simp)
     rw[ho] at this
     simp only[outI,hnq]
     exact this
   ·have hX1:X=[q]:=by
     match X,hl,hq with
     | [x],_,hi=>simp only[List.mem_singleton] at hi;rw[hi]
    subst hX1
    simp only[drawOps]
    have hre:isReady masks (lmask [q]) q=true:=isReady_iff.2 hrd
    simp only[findQ,quietAt,ho,hqq,hre,Bool.and_true]
    exact h
 | succ m ih =>
   obtain⟨ih1,ih2⟩:=ih
   refine⟨fun {R rd st i oi} hl hR hi ho hrd h=> ?_,fun {X rd st q oq} hl hX hq ho hqq hrd h=> ?_⟩
   ·obtain⟨x,r,hxr⟩: ∃ x r,R=x::r:=by
     match R,hi with
     | x::r,_=>exact⟨x,r,rfl⟩
    have hdr:drawOps P call ops masks (m+1+1) R rd K st=(match findQ P ops masks (lmask R) R with
     | some i=>(match ops[i]? with
       | some o=>stepOp P call ops i o (drawOps P call ops masks (m+1) (R.erase i) (addKey i (keyOf (ev st.tmps) o.op) rd) K) st
       | none=>.fail "no operation")
     | none=>branches (fun j=>match ops[j]? with
        | some oj=>stepG P call ops j oj (keysFor (masks.getD j 0) rd) (drawOps P call ops masks (m+1) (R.erase j) rd K) st
        | none=>.fail "no operation") (readyL P ops masks R)):=by rw[hxr];rfl
    rw[hdr] at h
    split at h
    ·rename_i q hq
     obtain⟨g1,g2,g3⟩:=findQ_some hq
     rw[isReady_iff] at g3
     cases hoq:ops[q]? with
     | none=>rw[hoq] at h;exact h.elim
     | some oq =>
       rw[hoq] at h
       simp only at h
       simp only[quietAt,hoq] at g2
       by_cases e:q=i
       ·subst e
        rw[hoq] at ho;injection ho with ho;subst ho
        simp only[outI,g2]
        exact h
       ·have hap:=apart hR g1 hi e hoq ho g2 g3 hrd
        have hi':i∈ R.erase q:=(List.mem_erase_of_ne (fun x=>e x.symm)).2 hi
        have hq':q∈ R.erase i:=(List.mem_erase_of_ne e).2 g1
        have hl1:(R.erase q).length≤m+1:=by rw[List.length_erase_of_mem g1];omega
        have hl2:(R.erase i).length≤m+1:=by rw[List.length_erase_of_mem hi];omega
        cases hqi:isQuiet P oi.op with
        | true =>
          simp only[outI,hqi]
          have hk: ∀ u,keyOf (ev (setSlot st.tmps oq.dst u)) oi.op=keyOf (ev st.tmps) oi.op:=fun u=>keyOf_congr (agree_set hap.a).ev
          have h1:(stepOp P call ops q oq (stepOp P call ops i oi (drawOps P call ops masks m ((R.erase q).erase i) (addKey i (keyOf (ev st.tmps) oi.op) (addKey q (keyOf (ev st.tmps) oq.op) rd)) K)) st).holds :=
           stepOp_mono hm (fun u m' nx' hh=>by
            have:=ih1 hl1 (hR.erase q) hi' ho (fun p hp=>hrd p (List.mem_of_mem_erase hp)) hh
            simp only[outI,hqi,hk] at this
            exact this) h
          have h2:=swap_quiet g2 hqi hap h1
          refine stepOp_mono hm (fun u m' nx' hh=> ?_) h2
          refine ih2 hl2 (hR.erase i) hq' hoq g2 (fun p hp=>g3 p (List.mem_of_mem_erase hp)) ?_
          have hk2:keyOf (ev (setSlot st.tmps oi.dst u)) oq.op=keyOf (ev st.tmps) oq.op:=keyOf_congr (agree_set hap.c).ev
          simp only[hk2]
          rw[List.erase_comm]
          exact stepOp_mono hm (fun u m' nx' hh=>drawOps_rd hm addKey_comm hh) hh
        | false =>
          simp only[outI,hqi]
          have h1:(stepOp P call ops q oq (stepG P call ops i oi (keysFor (masks.getD i 0) (addKey q (keyOf (ev st.tmps) oq.op) rd)) (drawOps P call ops masks m ((R.erase q).erase i) (addKey q (keyOf (ev st.tmps) oq.op) rd) K)) st).holds :=
           stepOp_mono hm (fun u m' nx' hh=>by
            have:=ih1 hl1 (hR.erase q) hi' ho (fun p hp=>hrd p (List.mem_of_mem_erase hp)) hh
            simp only[outI,hqi] at this
            exact this) h
          have h2:=swap_loud hm g2 hqi hap (H:=keysFor (masks.getD i 0) rd) (fun k hk=>by
            rw[keysFor_mem] at hk ⊢
            obtain⟨p,y1,y2⟩:=hk
            exact⟨p,addKey_sub _ y1,y2⟩) (fun k hk=>by
            rw[keysFor_mem,hk]
            exact⟨q,by simp[addKey],hrd q g1⟩) h1
          unfold stepG at h2 ⊢
          refine stepOp_mono hm (fun u m' nx' hh=> ?_) h2
          rw[preserved_iff,grows_iff] at hh ⊢
          refine⟨hh.1,hh.2.1,?_⟩
          refine ih2 hl2 (hR.erase i) hq' hoq g2 (fun p hp=>g3 p (List.mem_of_mem_erase hp)) ?_
          have hk2:keyOf (ev (setSlot st.tmps oi.dst u)) oq.op=keyOf (ev st.tmps) oq.op:=keyOf_congr (agree_set hap.c).ev
          simp only[hk2]
          rw[List.erase_comm]
          exact hh.2.2
    ·rename_i hj
     have hnq:=findQ_none hj i hi
     have hre:isReady masks (lmask R) i=true:=isReady_iff.2 hrd
     simp only[hre,Bool.and_true,quietAt,ho] at hnq
     have:=branches_mem h i (by unfold readyL;rw[List.mem_filter];refine⟨hi,?_⟩;simp only[quietAt,ho,hnq,hre];rfl)
     rw[ho] at this
     simp only[outI,hnq]
     exact this
   ·obtain⟨y,r,hxr⟩: ∃ x r,X=x::r:=by
     match X,hq with
     | x::r,_=>exact⟨x,r,rfl⟩
    have hdr:drawOps P call ops masks (m+1+1) X rd K st=(match findQ P ops masks (lmask X) X with
     | some i=>(match ops[i]? with
       | some o=>stepOp P call ops i o (drawOps P call ops masks (m+1) (X.erase i) (addKey i (keyOf (ev st.tmps) o.op) rd) K) st
       | none=>.fail "no operation")
     | none=>branches (fun j=>match ops[j]? with
        | some oj=>stepG P call ops j oj (keysFor (masks.getD j 0) rd) (drawOps P call ops masks (m+1) (X.erase j) rd K) st
        | none=>.fail "no operation") (readyL P ops masks X)):=by rw[hxr];rfl
    rw[hdr]
    split
    ·rename_i x hx
     obtain⟨g1,g2,g3⟩:=findQ_some hx
     rw[isReady_iff] at g3
     have hox: ∃ ox,ops[x]?=some ox∧isQuiet P ox.op=true:=by
      unfold quietAt at g2
      split at g2
      ·rename_i ox hox;exact⟨ox,hox,g2⟩
      ·cases g2
     obtain⟨ox,hox,hqx⟩:=hox
     rw[hox]
     simp only
     by_cases e:x=q
     ·subst e
      rw[hox] at ho;injection ho with ho;subst ho
      exact h
     ·have hap:=apart hX hq g1 (fun h=>e h.symm) ho hox hqq hrd g3
      have hx':x∈ X.erase q:=(List.mem_erase_of_ne e).2 g1
      have hq':q∈ X.erase x:=(List.mem_erase_of_ne (fun h=>e h.symm)).2 hq
      have hl1:(X.erase q).length≤m+1:=by rw[List.length_erase_of_mem hq];omega
      have hl2:(X.erase x).length≤m+1:=by rw[List.length_erase_of_mem g1];omega
      have hk: ∀ u,keyOf (ev (setSlot st.tmps oq.dst u)) ox.op=keyOf (ev st.tmps) ox.op:=fun u=>keyOf_congr (agree_set hap.a).ev
      have h1:(stepOp P call ops q oq (stepOp P call ops x ox (drawOps P call ops masks m ((X.erase q).erase x) (addKey x (keyOf (ev st.tmps) ox.op) (addKey q (keyOf (ev st.tmps) oq.op) rd)) K)) st).holds :=
       stepOp_mono hm (fun u m' nx' hh=>by
        have:=ih1 hl1 (hX.erase q) hx' hox (fun p hp=>g3 p (List.mem_of_mem_erase hp)) hh
        simp only[outI,hqx,hk] at this
        exact this) h
      have h2:=swap_quiet hqq hqx hap h1
      refine stepOp_mono hm (fun u m' nx' hh=> ?_) h2
      refine ih2 hl2 (hX.erase x) hq' ho hqq (fun p hp=>hrd p (List.mem_of_mem_erase hp)) ?_
      have hk2:keyOf (ev (setSlot st.tmps ox.dst u)) oq.op=keyOf (ev st.tmps) oq.op:=keyOf_congr (agree_set hap.c).ev
      simp only[hk2]
      rw[List.erase_comm]
      exact stepOp_mono hm (fun u m' nx' hh=>drawOps_rd hm addKey_comm hh) hh
    ·rename_i hj
     have hnq:=findQ_none hj q hq
     have hre:isReady masks (lmask X) q=true:=isReady_iff.2 hrd
     simp only[hre,Bool.and_true,quietAt,ho,hqq] at hnq
     cases hnq
end
end
end Go.Proofs.YtoalfimkkibpdaaGreatDoor.Sx
namespace Go.Proofs.YtoalfimkkibpdaaGreatDoor.Sx
open Go
noncomputable section
def depsOf (o:Oper):List Nat:=(o.after.toList.filter fun e=>Region.binds .any e).map (·.on)
def maskStep (acc:List Nat)(ds:List Nat):Nat:=match ds with
 | []=>0
 | d::r=>2^ d ||| acc.getD d 0 ||| maskStep acc r
def masksGo:List Oper→List Nat→List Nat
 | [],acc=>acc
 | o::r,acc=>masksGo r (acc++[maskStep acc (depsOf o)])
def Reach (ops:Array Oper)(i j:Nat):Prop :=
 ∀ S:Nat→Prop,(∀ k o,ops[k]?=some o→S k→∀ d∈ depsOf o,S d)→(∀ o,ops[i]?=some o→∀ d∈ depsOf o,S d)→S j
theorem maskStep_bit {acc ds:List Nat} {j:Nat} (h:(maskStep acc ds).testBit j=true): ∃ d∈ ds,d=j∨(acc.getD d 0).testBit j=true:=by
 induction ds with
 | nil=>simp[maskStep] at h
 | cons d r ih =>
   simp only[maskStep,Nat.testBit_or,Bool.or_eq_true] at h
   rcases h with (h | h) | h
   ·rw[Nat.testBit_two_pow] at h;exact⟨d,by simp,.inl (by simpa using h)⟩
   ·exact⟨d,by simp,.inr h⟩
   ·obtain⟨e,he,hh⟩:=ih h;exact⟨e,by simp[he],hh⟩
theorem masksGo_ok {ops:Array Oper}: ∀(l:List Oper)(acc:List Nat),(∀ k,l[k]?=ops[acc.length+k]?) →
  (∀ i j,(acc.getD i 0).testBit j=true→Reach ops i j)→∀ i j,((masksGo l acc).getD i 0).testBit j=true→Reach ops i j
 | [],acc,_,h,i,j,hb=>h i j hb
 | o::r,acc,hl,h,i,j,hb=>by
   refine masksGo_ok r (acc++[maskStep acc (depsOf o)]) (fun k=> ?_) (fun i j hb=> ?_) i j hb
   ·have:=hl (k+1)
    simp only[List.getElem?_cons_succ] at this
    rw[this];congr 1;simp;omega
   ·rw[List.getD_eq_getElem?_getD] at hb
    by_cases hi:i<acc.length
    ·rw[List.getElem?_append_left hi,← List.getD_eq_getElem?_getD] at hb;exact h i j hb
    ·rw[List.getElem?_append_right (by omega)] at hb
     by_cases he:i=acc.length
     ·subst he
      simp only[Nat.sub_self,List.getElem?_cons_zero,Option.getD_some] at hb
      obtain⟨d,hd,hh⟩:=maskStep_bit hb
      have ho:ops[acc.length]?=some o:=by have:=hl 0;simpa using this.symm
      intro S hS hi
      have hSd:=hi o ho d hd
      rcases hh with rfl | hh
      ·exact hSd
      ·exact h d j hh S hS (fun o' ho' e he=>hS d o' ho' hSd e he)
     ·rw[List.getElem?_eq_none (by simp;omega)] at hb;simp at hb
def masksOf (ops:Array Oper):List Nat:=masksGo ops.toList []
theorem masksOf_ok {ops:Array Oper} {i j:Nat} (h:((masksOf ops).getD i 0).testBit j=true):Reach ops i j :=
 masksGo_ok ops.toList [] (fun k=>by simp) (fun i j h=>by simp at h) i j h
def pickB (P:Program)(ops:List Oper)(quiet:Bool)(done:Nat)(i:Nat):Option Nat :=
 match ops with
 | []=>none
 | o::r=>if(!done.testBit i&&(!quiet||isQuiet P o.op)&&(depsOf o).all fun d=>done.testBit d)=true then some i else pickB P r quiet done (i+1)
def normGo (P:Program)(ops:List Oper):Nat→Nat→List Nat
 | 0,_=>[]
 | n+1,done=>match pickB P ops true done 0 with
   | some i=>i::normGo P ops n (done ||| 2^ i)
   | none=>(match pickB P ops false done 0 with
     | some i=>i::normGo P ops n (done ||| 2^ i)
     | none=>[])
def relB (P:Program)(ops:Array Oper)(masks:List Nat)(p i:Nat):Bool :=
 match ops[p]?,ops[i]? with
 | some op,some oi=>!(depsOf op).contains i&& !Nat.beq p i&&((masks.getD i 0).testBit p||(masks.getD p 0).testBit i||(!isQuiet P op.op&& !isQuiet P oi.op)||Oper.apart ops op oi)
 | _,_=>false
def pairB (P:Program)(ops:Array Oper)(masks:List Nat):List Nat→Bool
 | []=>true
 | p::r=>r.all (relB P ops masks p)&&pairB P ops masks r
def goodB (P:Program)(ops:Array Oper)(masks N:List Nat):Bool :=
 (List.range ops.size).all (fun i=>N.contains i)&&N.all (fun i=>Nat.blt i ops.size&&match ops[i]? with
   | some o=>(depsOf o).all fun d=>!Nat.beq d i&&Nat.blt d ops.size
   | none=>false)&&pairB P ops masks N
def draw (P:Program)(call:Cal→PT)(ops:Array Oper)(K:St→VC)(st:St):VC :=
 let masks:=masksOf ops
 let N:=normGo P ops.toList ops.size 0
 match goodB P ops masks N with
 | true=>drawOps P call ops masks ops.size N [] K st
 | false=>.fail "a region that draws its order"
theorem pairB_mem {P:Program} {ops:Array Oper} {masks:List Nat}: ∀ {R:List Nat},pairB P ops masks R=true→∀ {p i:Nat},p∈ R→i∈ R→p≠i→relB P ops masks p i=true∨relB P ops masks i p=true
 | [],_,_,_,h,_,_=>by cases h
 | q::R,hp,p,i,h1,h2,hne=>by
   simp only[pairB,Bool.and_eq_true,List.all_eq_true] at hp
   rw[List.mem_cons] at h1 h2
   rcases h1 with rfl | h1<;>rcases h2 with rfl | h2
   ·exact absurd rfl hne
   ·exact .inl (hp.1 _ h2)
   ·exact .inr (hp.1 _ h1)
   ·exact pairB_mem hp.2 h1 h2 hne
theorem relB_rel {P:Program} {ops:Array Oper} {masks:List Nat} {p i:Nat} (h:relB P ops masks p i=true):Rel P ops masks p i∧Rel P ops masks i p:=by
 unfold relB at h
 split at h
 ·rename_i op oi h1 h2
  simp only[Bool.and_eq_true,Bool.or_eq_true,Bool.not_eq_true'] at h
  have h3:=h.2
  have ap:Oper.apart ops op oi=true→Apart ops op oi:=fun hb=>by
   obtain⟨s1,s2,s3⟩:=Oper.apart_spec hb
   exact⟨s1,s2,s3⟩
  refine⟨⟨op,oi,h1,h2,?_⟩,⟨oi,op,h2,h1,?_⟩⟩
  ·rcases h3 with ((h | h) | h) | h
   ·exact .inl h
   ·exact .inr (.inl h)
   ·exact .inr (.inr (.inl h))
   ·exact .inr (.inr (.inr (ap h)))
  ·rcases h3 with ((h | h) | h) | h
   ·exact .inr (.inl h)
   ·exact .inl h
   ·exact .inr (.inr (.inl ⟨h.2,h.1⟩))
   ·exact .inr (.inr (.inr (ap h).symm))
 ·cases h
theorem pairB_rels {P:Program} {ops:Array Oper} {masks R:List Nat} (h:pairB P ops masks R=true):Rels P ops masks R:=fun p hp i hi hne=>by
 rcases pairB_mem h hp hi hne with h | h
 ·exact(relB_rel h).1
 ·exact(relB_rel h).2
theorem pairB_erase {P:Program} {ops:Array Oper} {masks:List Nat} {i:Nat}: ∀ {R:List Nat},pairB P ops masks R=true→pairB P ops masks (R.erase i)=true∧(i∉ R.erase i)
 | [],_=>⟨rfl,by simp⟩
 | q::R,hp=>by
   simp only[pairB,Bool.and_eq_true,List.all_eq_true] at hp
   by_cases e:q=i
   ·subst e
    rw[List.erase_cons_head]
    refine⟨hp.2,fun hm=> ?_⟩
    have:=hp.1 _ hm
    unfold relB at this
    split at this
    ·simp at this
    ·cases this
   ·rw[List.erase_cons_tail (by simpa using e)]
    obtain⟨h1,h2⟩:=pairB_erase (i:=i) hp.2
    refine⟨by simp only[pairB,Bool.and_eq_true,List.all_eq_true];exact⟨fun x hx=>hp.1 x (List.mem_of_mem_erase hx),h1⟩,fun hm=> ?_⟩
    rw[List.mem_cons] at hm
    rcases hm with h | h
    ·exact e h.symm
    ·exact h2 h
theorem ready_mem {md:Region.Mode} {ops:Array Oper} {listed:Array Bool} {i:Nat}:i∈ Region.ready md ops listed ↔
  i<ops.size∧listed.getD i true=false∧∃ o,ops[i]?=some o∧∀ e∈ o.after,Region.binds md e=true→listed.getD e.on false=true:=by
 unfold Region.ready
 simp only[List.mem_filter,List.mem_range,Bool.and_eq_true,Bool.not_eq_true']
 constructor
 ·rintro⟨h1,h2,h3⟩
  refine⟨h1,h2,?_⟩
  have ho:ops[i]?=some ops[i]:=Array.getElem?_eq_getElem h1
  rw[ho] at h3
  simp only[Option.map_some,Option.getD_some] at h3
  refine⟨_,ho,fun e he hb=> ?_⟩
  rw[Array.all_eq_true'] at h3
  have:=h3 e he
  simpa [hb] using this
 ·rintro⟨h1,h2,o,ho,h3⟩
  refine⟨h1,h2,?_⟩
  rw[ho]
  simp only[Option.map_some,Option.getD_some,Array.all_eq_true']
  intro e he
  by_cases hb:Region.binds md e=true
  ·simp[hb,h3 e he hb]
  ·simp[hb]
section
variable {P : Program} {call : Cal → PT} {ops : Array Oper}
theorem draw_go {Γ:Base} {ro:Option Nat} {KP:PK} (hm: ∀ f,MonoPT (call f))(hcall: ∀ c,COk P Γ KP c (call c)) {masks:List Nat} (hmask: ∀ i j,(masks.getD i 0).testBit j=true→Reach ops i j)
  {Q:Exit→Act→World→Prop} {K:St→VC} {E0:Nat→Nat} {nx0:Nat} {T0:List (Option SV)} (hP: ∀ e a w,TmpsOk E0 (unsure ops T0) a→BehindP KP Γ E0 nx0 e a w→Q e a w): ∀(fuel:Nat) (R:List Nat) (listed:Array Bool) {st:St} {E:Nat→Nat} {a:Act} {w:World},
   TmpsOk E0 (unsure ops T0) a→(∀ k,k<nx0→E k=E0 k)→nx0≤st.nx→R.length≤fuel→(∀ i,i∈ R↔i<ops.size∧listed.getD i true=false)→pairB P ops masks R=true→(∀ i∈ R,∀ o,ops[i]?=some o→∀ d∈ depsOf o,d≠i∧d<ops.size) →
   listed.size=ops.size→(∀ k o,ops[k]?=some o→listed.getD k false=true→∀ d∈ depsOf o,listed.getD d false=true) →
   (drawOps P call ops masks fuel R [] K st).holds→Sat Γ E st a w→(∀ a w,Behind K Γ E st.nx a w→Q .normal a w)→wpAnyIn (Fr ro) 0 P .any ops Q fuel listed a w:=by
 intro fuel
 induction fuel with
 | zero =>
   intro R listed st E a w hF hE0 hn0 hlen hR hpair hself hsize hcl h hs hQ
   have hnil:R=[]:=List.eq_nil_of_length_eq_zero (by omega)
   subst hnil
   refine⟨?_,hQ _ _ ⟨E,st,fun _ _=>rfl,Nat.le_refl _,hs,h⟩⟩
   rw[List.eq_nil_iff_forall_not_mem]
   intro i hi
   rw[ready_mem] at hi
   have:=(hR i).2 ⟨hi.1,hi.2.1⟩
   cases this
 | succ fuel ih =>
   intro R listed st E a w hF hE0 hn0 hlen hR hpair hself hsize hcl h hs hQ
   refine⟨fun hnone=> ?_,fun i hi=> ?_⟩
   ·
    cases R with
    | nil=>exact hQ _ _ ⟨E,st,fun _ _=>rfl,Nat.le_refl _,hs,by rw[drawOps_nil] at h;exact h⟩
    | cons r0 R =>
      exfalso
      have hr0:=(hR r0).1 (by simp)
      have ho:ops[r0]?=some ops[r0]:=Array.getElem?_eq_getElem hr0.1
      have:r0∈ Region.ready .any ops listed:=by
       rw[ready_mem]
       refine⟨hr0.1,hr0.2,_,ho,fun e he hb=> ?_⟩
       have hd:e.on∈ depsOf ops[r0]:=by
        simp only[depsOf,List.mem_map,List.mem_filter]
        exact⟨e,⟨by simpa using he,hb⟩,rfl⟩
       generalize e.on=d at hd ⊢
       cases hl:listed.getD d false with
       | true=>rfl
       | false =>
         exfalso
         have hself0:=hself r0 (by simp) _ ho d hd
         have hlt:=hself0.2
         have hmem:d∈ r0::R:=(hR d).2 ⟨hlt,by
          rw[Array.getD_eq_getD_getElem?] at hl ⊢
          rw[Array.getElem?_eq_getElem (by omega)] at hl ⊢
          exact hl⟩
         rw[List.mem_cons] at hmem
         rcases hmem with e1 | hmem
         ·exact hself0.1 e1
         ·simp only[pairB,Bool.and_eq_true,List.all_eq_true] at hpair
          have hrel:=hpair.1 _ hmem
          simp only[relB,ho] at hrel
          split at hrel
          ·rename_i op oi e1 _
           injection e1 with e1;subst e1
           simp only[Bool.and_eq_true,Bool.not_eq_true'] at hrel
           have h1:=hrel.1.1
           rw[List.contains_iff_mem.2 hd] at h1;cases h1
          ·cases hrel
      rw[hnone] at this;cases this
   ·rw[ready_mem] at hi
    obtain⟨hlt,hnl,oi,ho,hdeps⟩:=hi
    have hmem:i∈ R:=(hR i).2 ⟨hlt,hnl⟩
    have hdl: ∀ d∈ depsOf oi,listed.getD d false=true:=by
     intro d hd
     simp only[depsOf,List.mem_map,List.mem_filter] at hd
     obtain⟨e,⟨he,hb⟩,rfl⟩:=hd
     exact hdeps e (by simpa using he) hb
    have hbits: ∀ p∈ R,(masks.getD i 0).testBit p=false:=by
     intro p hp
     cases hb:(masks.getD i 0).testBit p with
     | false=>rfl
     | true =>
       exfalso
       have:=hmask i p hb (fun k=>listed.getD k false=true) (fun k o hk hS d hd=>hcl k o hk hS d hd) (fun o' ho' d hd=>by rw[ho] at ho';injection ho' with ho';subst ho';exact hdl d hd)
       have hpl:=((hR p).1 hp).2
       have hps:=((hR p).1 hp).1
       rw[Array.getD_eq_getD_getElem?] at this hpl
       rw[Array.getElem?_eq_getElem (by omega)] at this hpl
       simp only[Option.getD_some] at this hpl
       rw[this] at hpl;cases hpl
    have hb:=(bubble hm fuel).1 hlen (pairB_rels hpair) hmem ho hbits h
    obtain⟨hpair',hne⟩:=pairB_erase (i:=i) hpair
    have hstep:(stepOp P call ops i oi (fun st'=>.and (.atom (st.nx≤st'.nx∨True)) (drawOps P call ops masks fuel (R.erase i) [] K st')) st).holds:=by
     unfold outI at hb
     cases hq:isQuiet P oi.op with
     | true =>
       rw[hq] at hb
       exact stepOp_mono hm (fun u m nx hh=>⟨.inr trivial,drawOps_rd hm (fun x hx=>by cases hx) hh⟩) hb
     | false =>
       rw[hq] at hb
       exact stepOp_mono hm (fun u m nx hh=>by rw[preserved_iff,grows_iff] at hh;exact⟨.inr trivial,hh.2.2⟩) hb
    have hmemO:oi∈ ops.toList:=by
     have ho':=ho
     rw[← Array.getElem?_toList] at ho';exact List.mem_of_getElem? ho'
    have hsound:=stepOp_sound (ro:=ro) hcall hstep hs Q (fun e w hb=>hP e a w hF (hb.weaken hE0 hn0))
    have go: ∀ a' w',((∃ r,a'=a.put oi.dst r)∧Behind (fun st'=>.and (.atom (st.nx≤st'.nx∨True)) (drawOps P call ops masks fuel (R.erase i) [] K st')) Γ E st.nx a' w')→wpAnyIn (Fr ro) 0 P .any ops Q fuel (listed.setIfInBounds i true) a' w':=by
     rintro a' w' ⟨⟨rr,ha⟩,E',st',g1,g2,g3,g4⟩
     refine ih (R.erase i) (listed.setIfInBounds i true) (ha▸ TmpsOk.unsure_put hF hmemO rr) (fun k hk=>(g1 k (Nat.lt_of_lt_of_le hk hn0)).trans (hE0 k hk)) (Nat.le_trans hn0 g2) (by rw[List.length_erase_of_mem hmem];omega) (fun j=> ?_) hpair' (fun j hj=>hself j (List.mem_of_mem_erase hj)) (by simpa using hsize) (fun k o hk hl d hd=> ?_) g4.2 g3
      (fun a'' w'' hbh=>hQ a'' w'' ?_)
     ·rw[Array.getD_eq_getD_getElem?,Array.getElem?_setIfInBounds]
      by_cases e:i=j
      ·subst e
       simp only[if_true]
       rw[if_pos (by omega)]
       simp only[Option.getD_some]
       constructor
       ·intro hj;exact absurd hj hne
       ·rintro⟨_,hh⟩;cases hh
      ·rw[if_neg e,← Array.getD_eq_getD_getElem?,← hR j]
       exact List.mem_erase_of_ne (fun h=>e h.symm)
     ·rw[Array.getD_eq_getD_getElem?,Array.getElem?_setIfInBounds] at hl ⊢
      by_cases ed:i=d
      ·rw[if_pos ed,if_pos (by omega)];rfl
      ·rw[if_neg ed,← Array.getD_eq_getD_getElem?]
       by_cases ek:i=k
       ·subst ek
        rw[ho] at hk;injection hk with hk;subst hk
        exact hdl d hd
       ·rw[if_neg ek,← Array.getD_eq_getD_getElem?] at hl
        exact hcl k o hk hl d hd
     ·obtain⟨E'',st'',k1,k2,k3,k4⟩:=hbh
      exact⟨E'',st'',fun k hk=>(k1 k (Nat.lt_of_lt_of_le hk g2)).trans (g1 k hk),Nat.le_trans g2 k2,k3,k4⟩
    unfold wpOpIn
    rw[ho]
    simp only
    split
    ·rename_i hw
     rw[if_pos hw] at hsound
     exact Oper.wpIn_mono go hsound
    ·rename_i hw
     rw[if_neg hw] at hsound
     exact⟨about_fr ro,go _ _ ⟨⟨_,rfl⟩,hsound⟩⟩
theorem draw_sound {Γ:Base} {ro:Option Nat} {KP:PK} (hmix:P.follows .mixedOrders=true)(hm: ∀ f,MonoPT (call f))(hcall: ∀ c,COk P Γ KP c (call c)) {id:Nat} {Q:Exit→Act→World→Prop} {K:St→VC}
  {st:St} {E:Nat→Nat} {a:Act} {w:World} (h:(draw P call ops K st).holds) (hs:Sat Γ E st a w) (hP: ∀ e a w,TmpsOk E (unsure ops st.tmps) a→BehindP KP Γ E st.nx e a w→Q e a w) (hQ: ∀ a w,Behind K Γ E st.nx a w→Q .normal a w):(Code.region id ops true).wpIn (Fr ro) 0 P Q a w:=by
 unfold draw at h
 simp only at h
 split at h
 ·rename_i hg
  simp only[goodB,Bool.and_eq_true,List.all_eq_true] at hg
  obtain⟨⟨h1,h2⟩,h3⟩:=hg
  refine wpIn_region_any hmix ?_
  have hs':Sat Γ E st a {w with drawn:=w.drawn+1}:=⟨hs.tm,hs.wt,hs.df,hs.mm.drew _⟩
  have hlen:(normGo P ops.toList ops.size 0).length≤ops.size:=by
   have: ∀(n d:Nat),(normGo P ops.toList n d).length≤n:=by
    intro n
    induction n with
    | zero=>intro d;simp[normGo]
    | succ n ih =>
      intro d
      simp only[normGo]
      split
      ·have:=ih (d ||| 2^ (by assumption));simp only[List.length_cons];omega
      ·split
       ·have:=ih (d ||| 2^ (by assumption));simp only[List.length_cons];omega
       ·simp
   exact this _ _
  refine draw_go hm hcall (fun i j hb=>masksOf_ok hb) (T0:=st.tmps) hP ops.size (normGo P ops.toList ops.size 0) _ hs.tm.unsure (fun _ _=>rfl) (Nat.le_refl _) hlen (fun i=> ?_) h3 (fun i hi o ho d hd=> ?_) (by simp) (fun k o hk hl d hd=> ?_) h hs' hQ
  ·constructor
   ·intro hi
    have:=h2 i hi
    simp only[Nat.blt_eq] at this
    refine⟨this.1,?_⟩
    rw[Array.getD_eq_getD_getElem?,Array.getElem?_eq_getElem (by simpa using this.1)];simp
   ·rintro⟨hi,_⟩
    have:=h1 i (List.mem_range.2 hi)
    rwa [List.contains_iff_mem] at this
  ·have:=h2 i hi
   rw[ho] at this
   simp only[List.all_eq_true,Bool.and_eq_true,Bool.not_eq_true',Nat.blt_eq] at this
   have hd':=this.2 d hd
   refine⟨fun e=> ?_,hd'.2⟩
   have h5:=hd'.1
   rw[e] at h5
   simp at h5
  ·exfalso
   rw[Array.getD_eq_getD_getElem?] at hl
   by_cases hks:k<ops.size
   ·rw[Array.getElem?_eq_getElem (by simpa using hks)] at hl;simp at hl
   ·rw[Array.getElem?_eq_none (by simpa using hks)] at hl;simp at hl
 ·exact h.elim
end
end
end Go.Proofs.YtoalfimkkibpdaaGreatDoor.Sx
