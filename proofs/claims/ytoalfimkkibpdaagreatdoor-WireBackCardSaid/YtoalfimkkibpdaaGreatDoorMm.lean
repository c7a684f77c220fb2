/-
  The framework's part 23: contracts at arguments that are written out.
-/
import Derived.Test.YtoalfimkkibpdaaGreatDoorMk
import Derived.Test.YtoalfimkkibpdaaGreatDoorMl
namespace Go.Proofs.YtoalfimkkibpdaaGreatDoor.Sx
open Go
def lit1:SV→SV
 | .int k _ n=>.int k true n
 | .bool _ b=>.bool true b
 | .str _ s=>.str true s
 | v=>v
def lit2:SV→SV
 | .agg cs=>.agg (cs.map lit1)
 | v=>lit1 v
def lit:SV→SV
 | .tup vs=>.tup (vs.map lit2)
 | v=>lit2 v
theorem vals_map {f:SV→SV} {E:Nat→Nat} (hf: ∀ v,(f v).val E=v.val E): ∀ l:List SV,SV.vals E (l.map f)=SV.vals E l
 | []=>rfl
 | v::r=>by simp only[List.map_cons,SV.vals,hf,vals_map hf r]
theorem lit1_val (E:Nat→Nat)(v:SV):(lit1 v).val E=v.val E:=by cases v<;>rfl
theorem lit2_val (E:Nat→Nat)(v:SV):(lit2 v).val E=v.val E:=by
 cases v<;>first | rfl | simp only[lit2,SV.val,vals_map (lit1_val E)]
theorem lit_val (E:Nat→Nat)(v:SV):(lit v).val E=v.val E:=by
 cases v<;>first | rfl | simp only[lit,lit2,SV.val,vals_map (lit1_val E),vals_map (lit2_val E)]
def isLit1:SV→Bool
 | .int _ l _=>l
 | .bool l _=>l
 | .str l _=>l
 | _=>false
def isLit:SV→Bool
 | .agg cs=>cs.all isLit1
 | v=>isLit1 v
def allLit:List SV→Bool
 | []=>true
 | v::r=>isLit v&&allLit r
def rowCells (cols:List Col)(i:Nat):Nat→List SV
 | 0=>[]
 | n+1=>cols.map (fun c=>lit (c.at i))++rowCells cols (i+1) n
theorem rowCells_get {cols:List Col}: ∀ {n i0 j:Nat} {v:SV},(rowCells cols i0 n)[j]?=some v→∃ i k col,j=i*cols.length+k∧i<n∧cols[k]?=some col∧v=lit (col.at (i0+i))
 | 0,_,_,_,h=>by simp[rowCells] at h
 | n+1,i0,j,v,h=>by
   simp only[rowCells] at h
   by_cases hj:j<cols.length
   ·rw[List.getElem?_append_left (by simpa using hj),List.getElem?_map] at h
    cases hc:cols[j]? with
    | none=>rw[hc] at h;cases h
    | some c=>rw[hc] at h;injection h with h;exact⟨0,j,c,by simp,by omega,hc,h.symm⟩
   ·rw[List.getElem?_append_right (by simpa using hj)] at h
    obtain⟨i,k,col,h1,h2,h3,h4⟩:=rowCells_get h
    simp only[List.length_map] at h1
    refine⟨i+1,k,col,by rw[Nat.add_mul];omega,by omega,h3,?_⟩
    rw[h4];congr 2;omega
def fixB:SB→SB
 | .rows true 0 cols ro tot ty=>.rows true 0 cols ro tot ty
 | .rows _z n cols false tot ty=>.cells (rowCells cols 0 n) tot ty
 | B=>B
def fixV1:SV→SV
 | .rslc _ _ true _ 0 _=>.nilslc
 | .rslc k _ _ 0 n c=>.slc k 0 n false c
 | v=>v
def fixV2:SV→SV
 | .agg cs=>.agg (cs.map fixV1)
 | v=>fixV1 v
def fixV:SV→SV
 | .tup vs=>.tup (vs.map fixV2)
 | v=>fixV2 v
theorem fixB_le (B:SB):SBle B (fixB B):=by
 unfold fixB
 split
 ·exact SBle.refl _
 ·rename_i z n cols tot ty hne
  intro _
  have hno:(SB.rows z n cols false tot ty).no=false:=by
   cases z with
   | false=>rfl
   | true =>
     cases n with
     | zero=>exact(hne rfl rfl).elim
     | succ n=>rfl
  refine⟨hno,fun E o ⟨c,fr,h1,h2,h3,h4,h5⟩=>⟨c,fr,h1,h2 rfl,fun j v hv=> ?_,h4⟩,fun _=>rfl⟩
  obtain⟨i,k,col,g1,g2,g3,g4⟩:=rowCells_get hv
  rw[g4,lit_val,Nat.zero_add,g1]
  exact h5 i k col g2 g3
 ·exact SBle.refl _
theorem fixV1_val (E:Nat→Nat)(v:SV):(fixV1 v).val E=v.val E:=by
 unfold fixV1
 split
 ·rfl
 ·rename_i k w z n c hne
  have hz:(z&&Nat.beq n 0)=false:=by
   cases z with
   | false=>rfl
   | true =>
     cases n with
     | zero=>exact(hne rfl rfl).elim
     | succ n=>rfl
  simp[SV.val,hz]
 ·rfl
theorem fixV2_val (E:Nat→Nat)(v:SV):(fixV2 v).val E=v.val E:=by
 unfold fixV2
 split
 ·simp only[SV.val,vals_map (fixV1_val E)]
 ·exact fixV1_val E _
theorem fixV_val (E:Nat→Nat)(v:SV):(fixV v).val E=v.val E:=by
 unfold fixV
 split
 ·simp only[SV.val,vals_map (fixV2_val E)]
 ·exact fixV2_val E _
theorem SatM.swapHead {Γ E k B B' m nx w} (h:SatM Γ E ((k,B)::m) nx w)(hle:SBle B B'):SatM Γ E ((k,B')::m) nx w:=by
 have back: ∀ j X,Mem.get j ((k,B')::m)=some X→X.no=false→∃ Y,Mem.get j ((k,B)::m)=some Y∧Y.no=false∧(∀ E o,BlkOk E Y o→BlkOk E X o)∧(X.ro=false→Y.ro=false):=by
  intro j X hj hn
  by_cases e:k=j
  ·simp only[Mem.get,e,if_true,Option.some.injEq] at hj ⊢
   subst hj
   obtain⟨a,b,c⟩:=hle hn
   exact⟨B,rfl,a,b,c⟩
  ·simp only[Mem.get,e,if_false] at hj ⊢
   exact⟨X,hj,hn,fun _ _ h=>h,id⟩
 refine⟨fun j X hj hn=> ?_,fun j j' X X' hj hn hj' hn' hr he=> ?_,fun j X hj=> ?_,fun j X hj hn hro=> ?_,h.ext,h.cx,h.kp⟩
 ·obtain⟨Y,h1,h2,h3,_⟩:=back j X hj hn
  obtain⟨o,ho,hb⟩:=h.blk j Y h1 h2
  exact⟨o,ho,h3 _ _ hb⟩
 ·obtain⟨Y,h1,h2,_,h4⟩:=back j X hj hn
  obtain⟨Y',h1',h2',_,h4'⟩:=back j' X' hj' hn'
  exact h.inj j j' Y Y' h1 h2 h1' h2' (hr.imp h4 h4') he
 ·by_cases e:k=j
  ·exact h.lt j B (by simp only[Mem.get,e,if_true])
  ·exact h.lt j X (by simp only[Mem.get,e,if_false] at hj ⊢;exact hj)
 ·obtain⟨Y,h1,h2,_,h4⟩:=back j X hj hn
  exact h.own j Y h1 h2 (h4 hro)
def Ans.vcl (m:Mem)(nx:Nat)(K:SV→Mem→Nat→VC):Ans→VC
 | .ret v=>K (lit v) m nx
 | .new v B=>K (lit (fixV (v nx))) ((nx,fixB B)::m) (nx+1)
 | .all α f=>.all α fun x=>(f x).vcl m nx K
 | .req p a=>.imp p (a.vcl m nx K)
 | .fork b f=>match b with
   | true=>(f true).vcl m nx K
   | false=>(f false).vcl m nx K
def semK (Γ:Base)(E:Nat→Nat)(nx:Nat)(K:SV→Mem→Nat→VC):SV→Mem→Nat→VC:=fun v m' nx' =>
 .atom (∀(E':Nat→Nat) (w':World),(∀ k,k<nx→E' k=E k)→nx≤nx'→SatM Γ E' m' nx' w'→After (lift K) Γ E nx (v.val E') w')
theorem Ans.vcl_sem {Γ:Base} {E:Nat→Nat} {m:Mem} {nx:Nat} {K:SV→Mem→Nat→VC}: ∀ {a:Ans},(a.vcl m nx K).holds→(a.vc m nx (semK Γ E nx K)).holds
 | .ret v,h=>fun E' w' h1 h2 hs=>⟨E',some (lit v),m,nx,h1,h2,fun x hx=>by injection hx with hx;subst hx;rw[lit_val],hs,h⟩
 | .new v B,h=>fun E' w' h1 h2 hs=>⟨E',some (lit (fixV (v nx))),_,nx+1,h1,h2,fun x hx=>by injection hx with hx;subst hx;rw[lit_val,fixV_val],hs.swapHead (fixB_le B),h⟩
 | .all _ f,h=>fun x=>Ans.vcl_sem (a:=f x) (h x)
 | .req _ a,h=>fun x=>Ans.vcl_sem (a:=a) (h x)
 | .fork b f,h=>fork_iff.2 (by
    cases b with
    | true=>exact Ans.vcl_sem (a:=f true) h
    | false=>exact Ans.vcl_sem (a:=f false) h)
theorem Ans.vcl_mono {m:Mem} {nx:Nat} {K K':SV→Mem→Nat→VC} (hK: ∀ v m nx,(K v m nx).holds→(K' v m nx).holds): ∀ {a:Ans},(a.vcl m nx K).holds→(a.vcl m nx K').holds
 | .ret _,h=>hK _ _ _ h
 | .new _ _,h=>hK _ _ _ h
 | .all _ f,h=>fun x=>Ans.vcl_mono (a:=f x) hK (h x)
 | .req _ a,h=>fun x=>Ans.vcl_mono (a:=a) hK (h x)
 | .fork b f,h=>by
   cases b with
   | true=>exact Ans.vcl_mono (a:=f true) hK h
   | false=>exact Ans.vcl_mono (a:=f false) hK h
noncomputable def ansLPT (spec:List SV→Option (Prop×Ans)):PT:=fun args m nx K=>match allLit args with
 | true=>(match spec (args.map unlit)with
   | some (p,a)=>.and (.atom p) (a.vcl m nx K)
   | none=>.fail "arguments that nothing is said of")
 | false=>ansPT spec args m nx K
theorem ansLPT_mono (spec:List SV→Option (Prop×Ans)):MonoPT (ansLPT spec):=by
 intro args m nx K K' hK h
 unfold ansLPT at h ⊢
 split at h
 ·split at h
  ·exact⟨h.1,Ans.vcl_mono hK h.2⟩
  ·exact h
 ·exact ansPT_mono spec _ _ _ _ _ hK h
theorem After.relit {Γ:Base} {E:Nat→Nat} {nx:Nat} {r:Value} {w:World} {K:SV→Mem→Nat→VC} (h:After (lift (fun v m nx=>K (lit v) m nx)) Γ E nx r w):After (lift K) Γ E nx r w:=by
 obtain⟨E',sv,m',nx',h1,h2,h3,h4,h5⟩:=h
 cases sv with
 | none=>exact h5.elim
 | some v=>exact⟨E',some (lit v),m',nx',h1,h2,fun x hx=>by injection hx with hx;subst hx;rw[lit_val];exact h3 v rfl,h4,h5⟩
theorem ansL_ok {P:Program} {f:FuncId} {spec:List SV→Option (Prop×Ans)} (h:CallOk P f (ansPT spec)):CallOk P f (ansLPT spec):=by
 intro args m nx K hk hwf hargs Γ E w hs
 unfold ansLPT at hk
 split at hk
 ·have:(ansPT spec args m nx (semK Γ E nx K)).holds:=by
   unfold ansPT
   split at hk
   ·rename_i p a hsp
    first
     | exact⟨hk.1,Ans.vcl_sem hk.2⟩
     | (rw[hsp];exact⟨hk.1,Ans.vcl_sem hk.2⟩)
   ·exact hk.elim
  refine(h args m nx _ this hwf hargs Γ E w hs).mono (fun e w' hh=> ?_) (fun _ _ h=>h)
  obtain⟨E',sv,m',nx',h1,h2,h3,h4,h5⟩:=hh
  cases sv with
  | none=>exact h5.elim
  | some v=>rw[h3 v rfl];exact h5 E' w' h1 h2 h4
 ·exact h args m nx K hk hwf hargs Γ E w hs
noncomputable def pureLPT (spec:List SV→Option (Prop×SV)):PT:=fun args m nx K=>match allLit args with
 | true=>purePT spec args m nx (fun v m nx=>K (lit v) m nx)
 | false=>purePT spec args m nx K
theorem pureLPT_mono (spec:List SV→Option (Prop×SV)):MonoPT (pureLPT spec):=by
 intro args m nx K K' hK h
 unfold pureLPT at h ⊢
 split at h
 ·exact purePT_mono spec _ _ _ _ _ (fun v m nx=>hK _ _ _) h
 ·exact purePT_mono spec _ _ _ _ _ hK h
theorem pureL_ok {P:Program} {f:FuncId} {spec:List SV→Option (Prop×SV)} (h:CallOk P f (purePT spec)):CallOk P f (pureLPT spec):=by
 intro args m nx K hk hwf hargs Γ E w hs
 unfold pureLPT at hk
 split at hk
 ·exact(h args m nx _ hk hwf hargs Γ E w hs).mono (fun e w' hh=>After.relit hh) (fun _ _ h=>h)
 ·exact h args m nx K hk hwf hargs Γ E w hs
def litIf (t:List SV→Mem→Bool)(pt:PT):PT:=fun args m nx K=>match t args m with
 | true=>pt args m nx (fun v m nx=>K (lit v) m nx)
 | false=>pt args m nx K
theorem litIf_mono {t:List SV→Mem→Bool} {pt:PT} (h:MonoPT pt):MonoPT (litIf t pt):=by
 intro args m nx K K' hK hh
 unfold litIf at hh ⊢
 split at hh
 ·exact h _ _ _ _ _ (fun v m nx=>hK _ _ _) hh
 ·exact h _ _ _ _ _ hK hh
theorem litIf_ok {P:Program} {f:FuncId} {t:List SV→Mem→Bool} {pt:PT} (h:CallOk P f pt):CallOk P f (litIf t pt):=by
 intro args m nx K hk hwf hargs Γ E w hs
 unfold litIf at hk
 split at hk
 ·exact(h args m nx _ hk hwf hargs Γ E w hs).mono (fun e w' hh=>After.relit hh) (fun _ _ h=>h)
 ·exact h args m nx K hk hwf hargs Γ E w hs
def litCells (m:Mem):SV→Bool
 | .nilslc=>true
 | .slc key o n _ _=>(match m.get key with
   | some (.cells cs _ _)=>allLit ((cs.drop o).take n)
   | _=>false)
 | _=>false
end Go.Proofs.YtoalfimkkibpdaaGreatDoor.Sx
namespace Go.Proofs.YtoalfimkkibpdaaGreatDoor
open Go Sx
set_option maxRecDepth 20000
noncomputable def list7:List (FuncId×PT) :=
 (118,ansLPT itemsSpec)::(59,litIf (fun args m=>litCells m (args.headD .nilptr)) joinPT)::(80,ansLPT getSpec)::(31,pureLPT numSpec) ::
 (29,pureLPT textSpec)::(119,ansLPT splitSpec)::(158,ansLPT cutSpec)::(58,pureLPT headSpec)::reflList
theorem list7_ok:SummOk Tryz.prog (fun f=>lookPT f list7) :=
 .cons (ansL_ok items_ok) (ansLPT_mono _) (.cons (litIf_ok join_ok) (litIf_mono joinPT_mono) (.cons (ansL_ok get_ok) (ansLPT_mono _) (.cons (pureL_ok num_ok) (pureLPT_mono _)
  (.cons (pureL_ok text_ok) (pureLPT_mono _) (.cons (ansL_ok split_ok) (ansLPT_mono _) (.cons (ansL_ok cut_ok) (ansLPT_mono _) (.cons (pureL_ok head_ok) (pureLPT_mono _) reflList_ok)))))))
noncomputable def cfg7:Cfg:={cfg0 with summ:=fun f=>lookPT f list7,rounds:=4}
theorem good7:Sx.Good Tryz.prog cfg7:=⟨mixes,list7_ok,fns_ok⟩
end Go.Proofs.YtoalfimkkibpdaaGreatDoor
namespace Go.Proofs.YtoalfimkkibpdaaGreatDoor
open Go Sx
set_option maxRecDepth 20000
theorem byteAt_left {x y:List UInt8} {i:Int} (h0:0≤i)(h:i<x.length):byteAt (x++y) i=byteAt x i:=by
 unfold byteAt
 rw[List.getD_eq_getElem?_getD,List.getD_eq_getElem?_getD,List.getElem?_append_left (by omega)]
theorem byteAt_cons (b:UInt8)(l:List UInt8):byteAt (b::l) 0=(b.toNat:Int):=rfl
theorem byteAt_cons1 (b c:UInt8)(l:List UInt8):byteAt (b::c::l) 1=(c.toNat:Int):=rfl
theorem ofNat_toNat {n:Int} (h0:0≤n)(h:n<256):((UInt8.ofNat n.toNat).toNat:Int)=n:=by
 rw[UInt8.toNat_ofNat'];omega
theorem dig_zero {k:Nat} {n:Int} (h:n≤0):dig k n=[]:=by
 cases k with
 | zero=>rfl
 | succ k=>unfold dig;rw[if_neg (by omega)]
theorem dig_pos {k:Nat} {n:Int} (h:0<n):dig (k+1) n=dig k (n / 256)++[UInt8.ofNat (n% 256).toNat]:=by
 conv=>lhs;unfold dig
 rw[if_pos h]
theorem dig_num: ∀(k:Nat)(n:Int),0≤n→n<256^ k→num (dig k n)=n
 | 0,n,h0,h=>by
   have:n=0:=by simp at h;omega
   subst this;rfl
 | k+1,n,h0,h=>by
   by_cases hp:0<n
   ·rw[Int.pow_succ] at h
    rw[dig_pos hp,num_snoc,dig_num k (n / 256) (by omega) (by omega),ofNat_toNat (by omega) (by omega)]
    omega
   ·have:n=0:=by omega
    subst this;rw[dig_zero (Int.le_refl _)];rfl
theorem byteAt_snoc {x:List UInt8} {b:UInt8} (h:x≠[]):byteAt (x++[b]) 0=byteAt x 0:=by
 have:=List.length_pos_iff.2 h
 exact byteAt_left (Int.le_refl _) (by omega)
theorem dig_head: ∀(k:Nat)(n:Int),0<n→n<256^ k→dig k n≠[]∧byteAt (dig k n) 0≠0
 | 0,n,h0,h=>by simp at h;omega
 | k+1,n,h0,h=>by
   rw[Int.pow_succ] at h
   rw[dig_pos h0]
   refine⟨by simp,?_⟩
   by_cases hp:0<n / 256
   ·obtain⟨h1,h2⟩:=dig_head k (n / 256) hp (by omega)
    rw[byteAt_snoc h1];exact h2
   ·rw[dig_zero (by omega),List.nil_append,byteAt_cons,ofNat_toNat (by omega) (by omega)]
    omega
theorem num_pos': ∀(n:Nat)(l:List UInt8),l.length≤n→byteAt l 0≠0→0<num l
 | 0,l,hn,h=>by
   have:l=[]:=List.length_eq_zero_iff.1 (by omega)
   subst this;exact absurd rfl h
 | n+1,l,hn,h=>by
   rcases List.eq_nil_or_concat l with rfl | ⟨r,b,rfl⟩
   ·exact absurd rfl h
   ·rw[List.concat_eq_append] at h hn ⊢
    rw[num_snoc]
    by_cases hr:r=[]
    ·subst hr
     rw[List.nil_append,byteAt_cons] at h
     have:num []=0:=rfl
     rw[this]
     omega
    ·rw[byteAt_snoc hr] at h
     have h2:=num_pos' n r (by simp at hn;omega) h
     omega
theorem num_pos (l:List UInt8)(h:byteAt l 0≠0):0<num l:=num_pos' l.length l (Nat.le_refl _) h
theorem dig_of: ∀(k:Nat)(l:List UInt8),l.length≤k→(l=[]∨byteAt l 0≠0)→dig k (num l)=l
 | 0,l,h,_=>by
   have:l=[]:=List.length_eq_zero_iff.1 (by omega)
   subst this;rfl
 | k+1,l,h,hl=>by
   rcases List.eq_nil_or_concat l with rfl | ⟨r,b,rfl⟩
   ·exact dig_zero (Int.le_refl _)
   ·rw[List.concat_eq_append] at hl h ⊢
    have hne:byteAt (r++[b]) 0≠0:=by
     rcases hl with hl | hl
     ·simp at hl
     ·exact hl
    have hp:=num_pos _ hne
    have hb:=b.toNat_lt
    rw[dig_pos hp]
    rw[num_snoc] at hp ⊢
    have e1:(num r*256+(b.toNat:Int)) / 256=num r:=by omega
    have e2:((num r*256+(b.toNat:Int))% 256).toNat=b.toNat:=by omega
    rw[e1,e2,UInt8.ofNat_toNat]
    congr 1
    refine dig_of k r (by simp at h;omega) ?_
    by_cases hr:r=[]
    ·exact .inl hr
    ·rw[byteAt_snoc hr] at hne;exact .inr hne
theorem dig_short: ∀(j k:Nat)(n:Int),n<256^ j→(dig k n).length≤j
 | 0,k,n,h=>by rw[dig_zero (by simp at h;omega)];simp
 | j+1,0,n,h=>by simp[dig]
 | j+1,k+1,n,h=>by
   by_cases hp:0<n
   ·rw[Int.pow_succ] at h
    rw[dig_pos hp]
    have:=dig_short j k (n / 256) (by omega)
    simp only[List.length_append,List.length_cons,List.length_nil];omega
   ·rw[dig_zero (by omega)];simp
theorem digits_num {n:Int} (h0:0≤n)(h:n<18446744073709551616):num (digits n)=n:=dig_num 8 n h0 h
theorem digits_head {n:Int} (h0:0<n)(h:n<18446744073709551616):digits n≠[]∧byteAt (digits n) 0≠0:=dig_head 8 n h0 h
theorem digits_of {l:List UInt8} (h:l.length≤8)(h2:l=[]∨byteAt l 0≠0):digits (num l)=l:=dig_of 8 l h h2
theorem digits_zero:digits 0=[]:=dig_zero (Int.le_refl _)
theorem digits_short {n:Int} (h:n<16777216):(digits n).length≤3:=dig_short 3 8 n h
end Go.Proofs.YtoalfimkkibpdaaGreatDoor
namespace Go.Proofs.YtoalfimkkibpdaaGreatDoor
open Go Sx
set_option maxRecDepth 20000
theorem head_short {base:Int} {n:Nat} (h:n≤55):headOf base n=[UInt8.ofNat (base+n).toNat]:=if_pos h
theorem head_long {base:Int} {n:Nat} (h: ¬ n≤55):headOf base n=UInt8.ofNat (base+55+(digits n).length).toNat::digits n:=if_neg h
theorem lead_of {s:List UInt8} {base n:Int} (hb:base=128∨base=192)(h0:0≤n)(h:n<64)(h1:byteAt s 0=base+n):lead s=n∧¬ byteAt s 0<128∧(byteAt s 0<192↔base=128):=by
 unfold lead
 rcases hb with rfl | rfl
 ·rw[if_pos (by omega)];omega
 ·rw[if_neg (by omega)];omega
structure LongOf (base:Int)(n:Nat)(s d t:List UInt8):Prop where
 eq:s=UInt8.ofNat (base+55+d.length).toNat::(d++t)
 num:num d=n
 hd:byteAt d 0≠0
 len:1≤d.length∧d.length≤3
theorem long_of {base:Int} {n:Nat} (h: ¬ n≤55)(h2:n≤1048576)(t:List UInt8):LongOf base n (headOf base n++t) (digits n) t:=by
 have h1:=digits_head (n:=n) (by omega) (by omega)
 have h3:=List.length_pos_iff.2 h1.1
 exact⟨by rw[head_long h];rfl,digits_num (by omega) (by omega),h1.2,by omega,digits_short (by omega)⟩
theorem LongOf.lead' {base:Int} {n:Nat} {s d t:List UInt8} (hb:base=128∨base=192)(h:LongOf base n s d t):byteAt s 0=base+55+d.length∧lead s=55+d.length∧¬ byteAt s 0<128∧(byteAt s 0<192↔base=128):=by
 have hl:=h.len
 have h0:byteAt s 0=base+55+d.length:=by
  rw[h.eq,byteAt_cons,ofNat_toNat (by omega) (by omega)]
 obtain⟨h1,h2,h3⟩:=lead_of (s:=s) (base:=base) (n:=55+d.length) hb (by omega) (by omega) (by omega)
 exact⟨h0,h1,h2,h3⟩
theorem LongOf.part' {base:Int} {n:Nat} {s d t:List UInt8} (h:LongOf base n s d t):part s (d.length+1)=n∧byteAt s 1≠0:=by
 have hl:=h.len
 constructor
 ·unfold part
  rw[h.eq]
  have e:((d.length:Int)+1 - 1).toNat=d.length:=by omega
  rw[e,List.drop_one,List.tail_cons,List.take_left]
  exact h.num
 ·rw[h.eq]
  have h2:=h.hd
  match d,hl with
  | c::d,_ =>
    rw[byteAt_cons] at h2
    rw[List.cons_append,byteAt_cons1]
    exact h2
theorem LongOf.cut {base:Int} {n:Nat} {s d t:List UInt8} (hb:base=128∨base=192)(hn:55<n)(hn2:n≤1048576)(h:LongOf base n s d t):cutB s=decide (n≤t.length)∧cutL s=decide (base=192)∧cutIn s=t.take n∧cutRest s=t.drop n:=by
 obtain⟨b0,l1,l2,l3⟩:=h.lead' hb
 obtain⟨p1,p2⟩:=h.part'
 have hl:=h.len
 have e1:lead s - 54=d.length+1:=by omega
 have hs:s.length=1+d.length+t.length:=by rw[h.eq];simp;omega
 have hlen:lenB s (lead s - 54)=true:=lenB_iff.2 (by rw[e1,p1];exact⟨by omega,p2,by omega,by omega⟩)
 rw[e1] at hlen
 obtain⟨c1,c2⟩:=cut_long (s:=s) l2 (by omega)
 refine⟨?_,?_,?_,?_⟩
 ·rw[Bool.eq_iff_iff,cutB_iff]
  have hne:s≠[]:=by rw[h.eq];simp
  have hL:55<lead s:=by omega
  simp only[hne,ne_eq,not_false_eq_true,l2,hL,hlen,e1,p1,true_and,false_or,not_true_eq_false,false_and,or_false,decide_eq_true_eq]
  omega
 ·unfold cutL
  rcases hb with rfl | rfl
  ·have:=l3.2 rfl;simp;omega
  ·simp;omega
 ·rw[c1,e1,p1,h.eq]
  have e:((d.length:Int)+1).toNat=d.length+1:=by omega
  rw[e,List.drop_succ_cons,List.drop_left,Int.toNat_natCast]
 ·rw[c2,e1,p1,h.eq]
  have e:((d.length:Int)+1+n).toNat=d.length+n+1:=by omega
  rw[e,List.drop_succ_cons,← List.drop_drop,List.drop_left]
theorem short_cut {base:Int} {n:Nat} {s t:List UInt8} (hb:base=128∨base=192)(hn:n≤55)(h:s=UInt8.ofNat (base+n).toNat::t) :
  (cutB s=true↔n≤t.length∧¬ (base=128∧n=1∧byteAt t 0<128))∧cutL s=decide (base=192)∧cutIn s=t.take n∧cutRest s=t.drop n:=by
 have h0:byteAt s 0=base+n:=by
  rw[h,byteAt_cons,ofNat_toNat (by omega) (by omega)]
 obtain⟨l1,l2,l3⟩:=lead_of (s:=s) (base:=base) (n:=n) hb (by omega) (by omega) h0
 have hs:s.length=1+t.length:=by rw[h];simp;omega
 obtain⟨c1,c2⟩:=cut_mid (s:=s) l2 (by omega)
 have hb1:0<t.length→byteAt s 1=byteAt t 0:=fun hp=>by
  rw[h]
  match t,hp with
  | c::t,_=>rw[byteAt_cons1,byteAt_cons]
 refine⟨?_,?_,?_,?_⟩
 ·rw[cutB_iff]
  have hne:s≠[]:=by rw[h];simp
  have hL: ¬ (55:Int)<n:=by omega
  simp only[hne,ne_eq,not_false_eq_true,l2,hL,true_and,false_or,false_and,l1,l3]
  constructor
  ·rintro⟨a,b⟩
   refine⟨by omega,fun⟨x,y,z⟩=>b ⟨x,by omega,by rw[hb1 (by omega)];exact z⟩⟩
  ·rintro⟨a,b⟩
   refine⟨by omega,fun⟨x,y,z⟩=>b ⟨x,by omega,by rw[hb1 (by omega)] at z;exact z⟩⟩
 ·unfold cutL
  rcases hb with rfl | rfl
  ·have:=l3.2 rfl;simp;omega
  ·simp;omega
 ·rw[c1,l1,h,Int.toNat_natCast];rfl
 ·rw[c2,l1,h]
  have e:(1+(n:Int)).toNat=n+1:=by omega
  rw[e,List.drop_succ_cons]
theorem enc_cut {base:Int} {x:List UInt8} (hb:base=128∨base=192)(hx:x.length≤1048576)(h1: ¬ (base=128∧x.length=1∧byteAt x 0<128))(rest:List UInt8) :
  cutB (headOf base x.length++x++rest)=true∧cutL (headOf base x.length++x++rest)=decide (base=192)∧cutIn (headOf base x.length++x++rest)=x∧cutRest (headOf base x.length++x++rest)=rest:=by
 rw[List.append_assoc]
 by_cases hn:x.length≤55
 ·obtain⟨g1,g2,g3,g4⟩:=short_cut (s:=headOf base x.length++(x++rest)) (t:=x++rest) hb hn (by rw[head_short hn];rfl)
  refine⟨g1.2 ⟨by simp,fun⟨a,b,c⟩=>h1 ⟨a,b,?_⟩⟩,g2,by rw[g3,List.take_left],by rw[g4,List.drop_left]⟩
  rwa [byteAt_left (Int.le_refl _) (by omega)] at c
 ·obtain⟨g1,g2,g3,g4⟩:=(long_of (base:=base) hn hx (x++rest)).cut hb (by omega) hx
  exact⟨by rw[g1];simp,g2,by rw[g3,List.take_left],by rw[g4,List.drop_left]⟩
theorem text_short {b:List UInt8} (h:b.length=1∧byteAt b 0<128):textOf b=b:=if_pos h
theorem text_cut {b:List UInt8} (hb:b.length≤1048576)(rest:List UInt8):cutB (textOf b++rest)=true∧cutL (textOf b++rest)=false∧cutIn (textOf b++rest)=b∧cutRest (textOf b++rest)=rest:=by
 by_cases h:b.length=1∧byteAt b 0<128
 ·rw[text_short h]
  match b,h with
  | [c],h =>
    have h0:byteAt ([c]++rest) 0<128:=h.2
    obtain⟨g1,g2,g3⟩:=cut_short h0
    exact⟨cutB_iff.2 ⟨by simp,.inl h0⟩,g1,by rw[g2];rfl,by rw[g3];rfl⟩
 ·rw[text_long h]
  exact enc_cut (base:=128) (.inl rfl) hb (fun x=>h x.2) rest
theorem text_len (b:List UInt8):(textOf b).length≤b.length+9:=by
 by_cases h:b.length=1∧byteAt b 0<128
 ·rw[text_short h];omega
 ·rw[text_long h]
  have:=head_len 128 b.length
  simp only[List.length_append];omega
end Go.Proofs.YtoalfimkkibpdaaGreatDoor
namespace Go.Proofs.YtoalfimkkibpdaaGreatDoor.Sx
open Go
theorem ansW_ok {P:Program} {f:FuncId} {fn:Func} (hf:P.funcs[f]?=some fn)(hn:(fn.name== "runtime.NumGoroutine")=false)(hb:fn.body.isSome=true) {n:Nat} {spec:List SV→Option (Prop×Ans)}
  (h: ∀ args p a,spec args=some (p,a)→p→∃ cfg args',Good P cfg∧(∀ E,SV.vals E args'=SV.vals E args)∧SV.wfs 0 args'=true∧a.Ok∧Holds (runFn P (calling P cfg n) [] noP (cfg.anns f) cfg.rounds fn args' [] 0 (fun v m _=>a.fit v m))):CallOk P f (ansPT spec):=by
 intro args m nx K hk hwf hargs Γ E w hs
 unfold ansPT at hk
 split at hk
 ·rename_i p a hr
  obtain⟨hp,hk⟩:=hk
  obtain⟨cfg,args',hg,e,h1,h2,h3⟩:=h _ _ _ hr hp
  have hc:=calls_of_holds hg hf hn hb h3 rfl h1 (SatM.none w hs.glob)
  rw[SV.vals_pure h1 (fun _=>0) E,e,unlit_vals] at hc
  refine out_of_calls hf hn hb (hc.mono ?_)
  rintro e w' ⟨v,rfl,E',sv,m',nx',_,_,g3,g4,g5⟩
  refine⟨v,rfl,?_⟩
  cases sv with
  | none=>exact g5.elim
  | some u=>rw[g3 u rfl];exact Ans.told hs hwf g4 h2 g5 hk
 ·exact hk.elim
theorem pure_of_ans {P:Program} {f:FuncId} {spec:List SV→Option (Prop×SV)} (h:CallOk P f (ansPT fun args=>(spec args).map fun p=>(p.1,.ret p.2))):CallOk P f (purePT spec):=by
 intro args m nx K hk
 refine h args m nx K ?_
 unfold purePT at hk
 unfold ansPT
 split at hk
 ·rename_i p r hr
  simp only[hr,Option.map_some]
  exact hk
 ·exact hk.elim
end Go.Proofs.YtoalfimkkibpdaaGreatDoor.Sx
namespace Go.Proofs.YtoalfimkkibpdaaGreatDoor
open Go Sx
set_option maxRecDepth 20000
structure AllTo (n:Nat)(t:Nat→Bool)(i:Nat):Prop where
 le:i≤n
 all: ∀ j,j<i→t j=true
noncomputable def annAll (tmp n:Nat)(t:Nat→Bool):LoopAnn :=
 {α:=Nat,pre:=fun _ i=>AllTo n t i,mea:=fun _ i=>n - i,fresh:=0,slots:=fun _ i=>[(tmp,.int .i64 false i)],mem:=fun _ _=>[]}
def nibT (p:List UInt8)(i:Nat):Bool:=!decide (15<byteAt p i)
def nibB (p:List UInt8):Bool:=(List.range p.length).all (nibT p)
noncomputable def cfgNV (p:List UInt8):Cfg:={cfg0 with summ:=fun f=>lookPT f list7,anns:=fun f=>if f=166 then [(2,always (annAll 6 p.length (nibT p)))] else []}
theorem goodNV (p:List UInt8):Sx.Good Tryz.prog (cfgNV p):=⟨mixes,list7_ok,fns_ok⟩
def nibAt (k:List UInt8)(j:Nat):Int:=if j% 2=0 then byteAt k (j / 2) / 16 else byteAt k (j / 2)% 16
def pathL (k:List UInt8):List UInt8:=bytesFrom (nibAt k) 0 (2*k.length)
noncomputable def annPath (k:List UInt8):LoopAnn :=
 {α:=Nat×Nat,pre:=fun _ x=>x.1≤k.length∧2*x.1≤x.2,mea:=fun _ x=>k.length - x.1,fresh:=1,slots:=fun st x=>[(11,.int .i64 false x.1),(3,.rslc st.nx 1 false 0 (2*x.1) x.2)],
  mem:=fun st x=>[(st.nx,.rows false (2*x.1) [.int .u8 (nibAt k)] false x.2 5)]}
noncomputable def cfgNP (k:List UInt8):Cfg:={cfg0 with summ:=fun f=>lookPT f list7,anns:=fun f=>if f=57 then [(3,always (annPath k))] else []}
theorem goodNP (k:List UInt8):Sx.Good Tryz.prog (cfgNP k):=⟨mixes,list7_ok,fns_ok⟩
def pairAt (p:List UInt8)(j:Nat):Int:=bitsOf .or (byteAt p (2*(j:Int))*16% 256) (byteAt p (2*(j:Int)+1))
def pairsL (p:List UInt8):List UInt8:=bytesFrom (pairAt p) 0 (p.length / 2)
noncomputable def annPairs (p:List UInt8):LoopAnn :=
 {α:=Nat×(Nat→Int),pre:=fun _ x=>x.1≤p.length / 2∧∀ j,j<x.1→x.2 j=pairAt p j,mea:=fun _ x=>p.length / 2 - x.1,fresh:=0,slots:=fun _ x=>[(11,.int .i64 false x.1)],
  mem:=fun st x=>match slot st.tmps 3 with
   | some (.rslc k _ _ _ _ _)=>(match st.m.get k with
     | some (.rows z n _ ro tot ty)=>[(k,.rows z n [.int .u8 x.2] ro tot ty)]
     | _=>[])
   | _=>[]}
noncomputable def cfgNQ (p:List UInt8):Cfg:={cfg0 with summ:=fun f=>lookPT f list7,anns:=fun f=>if f=167 then [(3,always (annPairs p))] else []}
theorem goodNQ (p:List UInt8):Sx.Good Tryz.prog (cfgNQ p):=⟨mixes,list7_ok,fns_ok⟩
def flagN (leaf odd:Bool):Int:=(bif leaf then 2 else 0)+(bif odd then 1 else 0)
end Go.Proofs.YtoalfimkkibpdaaGreatDoor
namespace Go.Proofs.YtoalfimkkibpdaaGreatDoor
open Go Sx
set_option maxRecDepth 20000
theorem vcNValid (p:List UInt8)(R:SV→Prop):VC.holds (runP (cfgNV p) 166 Tryz.f166 [.str false p] R)=(((∃(u2:Nat),AllTo p.length (nibT p) u2∧0=(u2:Int)∧True)∧∀(u1:Nat),AllTo p.length (nibT p) u1→(decide ((u1:Int)<(p.length:Int))=true→(0≤(u1:Int)∧(u1:Int)<(p.length:Int))∧(decide (15<byteAt p (u1:Int))=true→R (SV.bool true false))∧(decide (15<byteAt p (u1:Int))=false→((-9223372036854775808:Int)≤(u1:Int)+1∧(u1:Int)+1≤(9223372036854775807:Int))∧∃(u0:Nat),(AllTo p.length (nibT p) u0∧p.length - u0<p.length - u1)∧(u1:Int)+1=(u0:Int)∧True))∧(decide ((u1:Int)<(p.length:Int))=false→R (SV.bool true true)))):=by kernel_rfl
theorem vcNPath (k:List UInt8)(R:SV→Prop):VC.holds (runP (cfgNP k) 57 Tryz.f57 [.str false k] R)=((((-9223372036854775808:Int)≤2*(k.length:Int)∧2*(k.length:Int)≤9223372036854775807)∧((0:Int)≤2*(k.length:Int)∧1*(2*(k.length:Int))≤140737488355328∧2*(k.length:Int)≤9223372036854775807)∧(∃(u4:Nat×Nat),(u4.fst≤k.length∧2*u4.fst≤u4.snd)∧0=(u4.fst:Int)∧((0:Nat)=(0:Nat)∧(0:Nat)=2*u4.fst∧(2*(k.length:Int)).toNat=u4.snd)∧True∧SBle (SB.cells [] ((2*(k.length:Int)).toNat*1) 5) (SB.rows false (2*u4.fst) [Col.int IntKind.u8 (nibAt k)] false u4.snd 5)∧True)∧∀(u3:Nat×Nat),u3.fst≤k.length∧2*u3.fst≤u3.snd→(decide ((u3.fst:Int)<(k.length:Int))=true→(0≤(u3.fst:Int)∧(u3.fst:Int)<(k.length:Int))∧(0≤(u3.fst:Int)∧(u3.fst:Int)<(k.length:Int))∧(0≤byteAt k (u3.fst:Int)∧byteAt k (u3.fst:Int)≤255∧(0:Int)≤(15:Int)∧(15:Int)≤(255:Int))∧((0:Nat)+2*u3.fst≤2*u3.fst∧True∧2*(2*u3.fst+2)*1≤(281474976710656:Nat)∧2*u3.fst+2<(9223372036854775808:Nat))∧u3.snd=u3.snd*1∧∀(u2:Nat),2*u3.fst+2≤u2→((-9223372036854775808:Int)≤(u3.fst:Int)+1 ∧(u3.fst:Int)+1≤(9223372036854775807:Int))∧∃(u1:Nat×Nat),((u1.fst≤k.length∧2*u1.fst≤u1.snd)∧k.length - u1.fst<k.length - u3.fst)∧(u3.fst:Int)+1=(u1.fst:Int)∧((0:Nat)=(0:Nat)∧2*u3.fst+2=2*u1.fst∧u2=u1.snd)∧True∧SBle (SB.rows false (2*u3.fst+2) [Col.int IntKind.u8 fun(u0:Nat)=>if u0<2*u3.fst then nibAt k u0 else sel [byteAt k (u3.fst:Int) / 16,bitsOf BinOp.and (byteAt k (u3.fst:Int)) 15] (u0 - 2*u3.fst)] false (u2*1) 5) (SB.rows false (2*u1.fst) [Col.int IntKind.u8 (nibAt k)] false u1.snd 5)∧True)∧(decide ((u3.fst:Int)<(k.length:Int))=false→(0:Nat)+2*u3.fst≤2*u3.fst∧R (SV.str false (bytesFrom (nibAt k) 0 (2*u3.fst)))))):=by kernel_rfl
theorem vcNPairs (p:List UInt8)(R:SV→Prop):VC.holds (runP (cfgNQ p) 167 Tryz.f167 [.str false p] R)=(((0≤(p.length:Int)∧(p.length:Int)≤9223372036854775807∧(0:Int)<(2:Int))∧((p.length:Int) / 2=(p.length:Int) / 2∧0≤(p.length:Int) / 2∧1*((p.length:Int) / 2)≤140737488355328∧(p.length:Int) / 2≤(9223372036854775807:Int))∧(∃(u7:Nat×(Nat→Int)),(u7.fst≤p.length / 2∧∀(u6:Nat),u6<u7.fst→u7.snd u6=pairAt p u6)∧0=(u7.fst:Int)∧SBle (SB.rows false ((p.length:Int) / 2).toNat [Col.int IntKind.u8 fun(_u5:Nat)=>(0:Int)] false (((p.length:Int) / 2).toNat*1) 5) (SB.rows false ((p.length:Int) / 2).toNat [Col.int IntKind.u8 u7.snd] false (((p.length:Int) / 2).toNat*1) 5)∧True)∧∀(u4:Nat×(Nat→Int)),(u4.fst≤p.length / 2∧∀(u3:Nat),u3<u4.fst→u4.snd u3=pairAt p u3)→(decide ((u4.fst:Int)<(↑((p.length:Int) / 2).toNat:Int))=true→((-9223372036854775808:Int)≤2*(u4.fst:Int)∧2*(u4.fst:Int)≤9223372036854775807)∧((0:Int)≤2*(u4.fst:Int)∧2*(u4.fst:Int)<(p.length:Int))∧((-9223372036854775808:Int)≤2*(u4.fst:Int)∧2*(u4.fst:Int)≤9223372036854775807)∧((-9223372036854775808:Int)≤2*(u4.fst:Int)+1 ∧2*(u4.fst:Int)+1≤(9223372036854775807:Int))∧((0:Int)≤2*(u4.fst:Int)+1∧2*(u4.fst:Int)+1<(p.length:Int))∧(0≤byteAt p (2*(u4.fst:Int))*16% (256:Int)∧byteAt p (2*(u4.fst:Int))*16% (256:Int)≤(255:Int)∧0≤byteAt p (2*(u4.fst:Int)+1)∧byteAt p (2*(u4.fst:Int)+1)≤255)∧(0≤(u4.fst:Int)∧(u4.fst:Int)<(↑((p.length:Int) / 2).toNat:Int))∧0+(u4.fst:Int).toNat<((p.length:Int) / 2).toNat∧((-9223372036854775808:Int)≤(u4.fst:Int)+1∧(u4.fst:Int)+1≤(9223372036854775807:Int))∧∃(u2:Nat×(Nat→Int)),((u2.fst≤p.length / 2∧∀(u1:Nat),u1<u2.fst→u2.snd u1=pairAt p u1)∧p.length / 2 - u2.fst<p.length / 2 - u4.fst)∧(u4.fst:Int)+1=(u2.fst:Int)∧SBle (SB.rows false ((p.length:Int) / 2).toNat [Col.int IntKind.u8 fun(u0:Nat)=>if u0=0+(u4.fst:Int).toNat then bitsOf BinOp.or (byteAt p (2*(u4.fst:Int))*16% (256:Int)) (byteAt p (2*(u4.fst:Int)+1))else u4.snd u0] false (((p.length:Int) / 2).toNat*1) 5) (SB.rows false ((p.length:Int) / 2).toNat [Col.int IntKind.u8 u2.snd] false (((p.length:Int) / 2).toNat*1) 5)∧True) ∧(decide ((u4.fst:Int)<(↑((p.length:Int) / 2).toNat:Int))=false→0+((p.length:Int) / 2).toNat≤((p.length:Int) / 2).toNat∧R (SV.str false (bytesFrom u4.snd 0 ((p.length:Int) / 2).toNat))))):=by kernel_rfl
theorem vcNFlag (a b:Bool)(R:SV→Prop):VC.holds (runP cfg7 203 Tryz.f203 [.bool false a,.bool false b] R)=(((a=true→(b=true→R (SV.int .u8 true 3))∧(b=false→(a=true→R (SV.int .u8 true 2))∧(a=false→(b=true→R (SV.int .u8 true 1))∧(b=false→R (SV.int .u8 true 0)))))∧(a=false→(a=true→R (SV.int .u8 true 2))∧(a=false→(b=true→R (SV.int .u8 true 1))∧(b=false→R (SV.int .u8 true 0)))))):=by kernel_rfl
end Go.Proofs.YtoalfimkkibpdaaGreatDoor
namespace Go.Proofs.YtoalfimkkibpdaaGreatDoor
open Go Sx
set_option maxRecDepth 20000
theorem bool_eq {l:Bool} {a b:Bool} (h:a=b):sameVal (.bool l a) (.bool false b):=fun E=>by subst h;rfl
theorem AllTo.next {n:Nat} {t:Nat→Bool} {i:Nat} (h:AllTo n t i)(hi:(i:Int)<(n:Int))(ht:t i=true):AllTo n t (i+1) :=
 ⟨by omega,fun j hj=>by
  by_cases e:j=i
  ·subst e;exact ht
  ·exact h.all j (by omega)⟩
theorem AllTo.zero (n:Nat)(t:Nat→Bool):AllTo n t 0:=⟨Nat.zero_le _,fun _j hj=>absurd hj (Nat.not_lt_zero _)⟩
theorem AllTo.done {n:Nat} {t:Nat→Bool} {i:Nat} (h:AllTo n t i)(hi: ¬ (i:Int)<(n:Int)):(List.range n).all t=true:=by
 rw[List.all_eq_true]
 intro j hj
 have:=List.mem_range.1 hj
 exact h.all j (by omega)
theorem all_none {n i:Nat} {t:Nat→Bool} (hi:(i:Int)<(n:Int))(ht:t i=false):(List.range n).all t=false:=by
 rw[List.all_eq_false]
 exact⟨i,List.mem_range.2 (by omega),by rw[ht];decide⟩
theorem nvalid_holds {p:List UInt8} (hp:p.length<1152921504606846976):Holds (runP (cfgNV p) 166 Tryz.f166 [.str false p] (fun v=>sameVal v (.bool false (nibB p)))):=by
 refine Holds.of_eq (vcNValid p _) ?_
 refine⟨⟨0,AllTo.zero _ _,rfl,trivial⟩,fun x hx=>⟨fun h=> ?_,fun h=> ?_⟩⟩
 ·have h:(x:Int)<(p.length:Int):=of_decide_eq_true h
  refine⟨by omega,fun g=>bool_eq ?_,fun g=>⟨by omega,x+1,⟨hx.next h ?_,by omega⟩,by omega,trivial⟩⟩
  ·exact(all_none h (by rw[nibT,g];rfl)).symm
  ·rw[nibT,g];rfl
 ·have h: ¬ (x:Int)<(p.length:Int):=of_decide_eq_false h
  exact bool_eq (hx.done h).symm
def nvalidSpec:List SV→Option (Prop×SV)
 | [.str false p]=>some (p.length<1152921504606846976,.bool false (nibB p))
 | _=>none
theorem nvalid_ok:CallOk Tryz.prog 166 (purePT nvalidSpec):=by
 refine pure_of_ans (ans_ok (n:=20) (fn:=Tryz.f166) Tryz.func166 (by kernel_rfl) (by kernel_rfl) ?_)
 intro args p a h hp
 unfold nvalidSpec at h
 split at h
 ·injection h with h;injection h with h1 h2;subst h1;subst h2
  exact⟨_,goodNV _,rfl,rfl,nvalid_holds hp⟩
 ·cases h
theorem and15 {b:Int} (h0:0≤b)(h1:b<256):bitsOf .and b 15=b% 16:=by
 obtain⟨n,rfl⟩:=Int.eq_ofNat_of_zero_le h0
 show(((n:Int).toNat &&& (15:Int).toNat:Nat):Int)=_
 have:n &&& 15=n% 16:=Nat.and_two_pow_sub_one_eq_mod n 4
 simp only[Int.toNat_natCast]
 rw[show(15:Int).toNat=15 from rfl,this];omega
theorem rows_int {z z':Bool} {n n':Nat} {f g:Nat→Int} {tot tot':Nat} {ty:TypeId} (hz:z=z')(hn:n=n')(ht:tot=tot')(h: ∀ i,i<n→f i=g i):SBle (.rows z n [.int .u8 f] false tot ty) (.rows z' n' [.int .u8 g] false tot' ty):=by
 subst hz
 refine Sx.SBle.rowsCongr hn ht rfl fun i k c' hi hk=>⟨.int .u8 f,?_,?_⟩
 ·match k,hk with
  | 0,_=>rfl
 ·match k,hk with
  | 0,hk =>
    simp only[List.getElem?_cons_zero,Option.some.injEq] at hk
    subst hk
    simp only[Col.at,h i hi]
theorem rows_none {tot tot':Nat} {ty:TypeId} {cols:List Col} {z:Bool} (h:tot=tot'):SBle (.cells [] tot ty) (.rows z 0 cols false tot' ty):=by
 subst h
 intro _
 refine⟨rfl,fun E o ⟨c,fr,h1,h2,_,h4⟩=>⟨c,fr,h1,fun _=>h2,by omega,h4,fun i k col hi=>absurd hi (Nat.not_lt_zero _)⟩,fun _=>rfl⟩
theorem nibAt_next (k:List UInt8)(x i:Nat)(hi:i<2*x+2)(h1: ¬ i<2*x):sel [byteAt k (x:Int) / 16,bitsOf .and (byteAt k (x:Int)) 15] (i - 2*x)=nibAt k i:=by
 have hb:=byteAt_lt k (x:Int)
 rw[and15 hb.1 hb.2]
 unfold nibAt
 by_cases e:i=2*x
 ·subst e
  have e2:2*x / 2=x:=by omega
  rw[if_pos (by omega),show((2*x:Nat):Int) / 2=(x:Int)by omega,Nat.sub_self];rfl
 ·have e:i=2*x+1:=by omega
  subst e
  rw[if_neg (by omega),show((2*x+1:Nat):Int) / 2=(x:Int)by omega,show 2*x+1 - 2*x=1 by omega];rfl
theorem npath_holds {k:List UInt8} (hk:k.length<1099511627776):Holds (runP (cfgNP k) 57 Tryz.f57 [.str false k] (fun v=>sameVal v (.str false (pathL k)))):=by
 refine Holds.of_eq (vcNPath k _) ?_
 refine⟨by omega,by omega,⟨(0,2*k.length),⟨Nat.zero_le _,Nat.zero_le _⟩,rfl,⟨rfl,rfl,by omega⟩,trivial,rows_none (by omega),trivial⟩,fun x hx=>⟨fun h=> ?_,fun h=> ?_⟩⟩
 ·have h:(x.1:Int)<(k.length:Int):=of_decide_eq_true h
  have hb:=byteAt_lt k (x.1:Int)
  refine⟨by omega,by omega,by omega,⟨by omega,trivial,by omega,by omega⟩,by omega,fun c hc=>⟨by omega,(x.1+1,c),⟨⟨by show x.1+1≤_;omega,by show 2*(x.1+1)≤c;omega⟩,by show _ - (x.1+1)<_;omega⟩,by show(x.1:Int)+1=((x.1+1:Nat):Int);omega,⟨rfl,rfl,rfl⟩,trivial,rows_int rfl rfl (Nat.mul_one c) fun i hi=> ?_,trivial⟩⟩
  by_cases h1:i<2*x.1
  ·rw[if_pos h1]
  ·rw[if_neg h1];exact nibAt_next k x.1 i hi h1
 ·have h: ¬ (x.1:Int)<(k.length:Int):=of_decide_eq_false h
  have e:x.1=k.length:=by have:=hx.1;omega
  exact⟨by omega,str_same (by rw[e];rfl)⟩
def npathSpec:List SV→Option (Prop×SV)
 | [.str false k]=>some (k.length<1099511627776,.str false (pathL k))
 | _=>none
theorem npath_ok:CallOk Tryz.prog 57 (purePT npathSpec):=by
 refine pure_of_ans (ans_ok (n:=20) (fn:=Tryz.f57) Tryz.func57 (by kernel_rfl) (by kernel_rfl) ?_)
 intro args p a h hp
 unfold npathSpec at h
 split at h
 ·injection h with h;injection h with h1 h2;subst h1;subst h2
  exact⟨_,goodNP _,rfl,rfl,npath_holds hp⟩
 ·cases h
theorem npairs_holds {p:List UInt8} (hp:p.length<1099511627776):Holds (runP (cfgNQ p) 167 Tryz.f167 [.str false p] (fun v=>sameVal v (.str false (pairsL p)))):=by
 refine Holds.of_eq (vcNPairs p _) ?_
 have e:((p.length:Int) / 2).toNat=p.length / 2:=by omega
 rw[e]
 refine⟨by omega,⟨rfl,by omega,by omega,by omega⟩,⟨(0,fun _=>0),⟨Nat.zero_le _,fun j hj=>absurd hj (Nat.not_lt_zero _)⟩,rfl,SBle.refl _,trivial⟩,fun x hx=>⟨fun h=> ?_,fun h=> ?_⟩⟩
 ·have h:(x.1:Int)<((p.length / 2:Nat):Int):=of_decide_eq_true h
  have b1:=byteAt_lt p (2*(x.1:Int))
  have b2:=byteAt_lt p (2*(x.1:Int)+1)
  refine⟨by omega,by omega,by omega,by omega,by omega,by omega,by omega,by omega,by omega,(x.1+1,fun j=>if j=x.1 then pairAt p x.1 else x.2 j),⟨⟨by show x.1+1≤_;omega,fun j hj=> ?_⟩,by show _ - (x.1+1)<_;omega⟩,by show(x.1:Int)+1=((x.1+1:Nat):Int);omega,?_,trivial⟩
  ·show(if j=x.1 then pairAt p x.1 else x.2 j)=pairAt p j
   by_cases ej:j=x.1
   ·rw[if_pos ej,ej]
   ·rw[if_neg ej];exact hx.2 j (by have:j<x.1+1:=hj;omega)
  ·refine rows_int rfl rfl rfl fun i hi=> ?_
   simp only[Nat.zero_add,Int.toNat_natCast]
   rfl
 ·have h: ¬ (x.1:Int)<((p.length / 2:Nat):Int):=of_decide_eq_false h
  have e1:x.1=p.length / 2:=by have:=hx.1;omega
  refine⟨by omega,str_same ?_⟩
  unfold pairsL bytesFrom
  apply List.map_congr_left
  intro j hj
  rw[List.mem_range] at hj
  rw[Nat.zero_add,hx.2 j (by omega)]
def npairsSpec:List SV→Option (Prop×SV)
 | [.str false p]=>some (p.length<1099511627776,.str false (pairsL p))
 | _=>none
theorem npairs_ok:CallOk Tryz.prog 167 (purePT npairsSpec):=by
 refine pure_of_ans (ans_ok (n:=20) (fn:=Tryz.f167) Tryz.func167 (by kernel_rfl) (by kernel_rfl) ?_)
 intro args p a h hp
 unfold npairsSpec at h
 split at h
 ·injection h with h;injection h with h1 h2;subst h1;subst h2
  exact⟨_,goodNQ _,rfl,rfl,npairs_holds hp⟩
 ·cases h
def nflagSpec:List SV→Option (Prop×SV)
 | [.bool false a,.bool false b]=>some (True,.int .u8 false (flagN a b))
 | _=>none
theorem nflag_ok:CallOk Tryz.prog 203 (purePT nflagSpec):=by
 refine pure_ok good7 (n:=20) (fn:=Tryz.f203) Tryz.func203 (by kernel_rfl) (by kernel_rfl) ?_
 intro args p r h hp
 unfold nflagSpec at h
 split at h
 ·rename_i a b
  injection h with h;injection h with h1 h2;subst h1;subst h2
  refine⟨rfl,rfl,Holds.of_eq (vcNFlag a b _) ?_⟩
  cases a<;>cases b<;>simp[sameVal,SV.val,flagN]
 ·cases h
noncomputable def listN1:List (FuncId×PT):=(166,purePT nvalidSpec)::(57,purePT npathSpec)::(167,purePT npairsSpec)::(203,purePT nflagSpec)::list7
theorem listN1_ok:SummOk Tryz.prog (fun f=>lookPT f listN1):=.cons nvalid_ok (purePT_mono _) (.cons npath_ok (purePT_mono _) (.cons npairs_ok (purePT_mono _) (.cons nflag_ok (purePT_mono _) list7_ok)))
noncomputable def cfgN1:Cfg:={cfg0 with summ:=fun f=>lookPT f listN1}
theorem goodN1:Sx.Good Tryz.prog cfgN1:=⟨mixes,listN1_ok,fns_ok⟩
def nputL (p:List UInt8)(leaf:Bool):List UInt8:=pairsL (UInt8.ofNat (flagN leaf (decide ((p.length:Int)% 2=1))).toNat::(bif decide ((p.length:Int)% 2=1)then p else 0::p))
def nputA (p:List UInt8)(leaf:Bool):Ans:=.fork (nibB p) fun b=>match b with
 | true=>.ret (.tup [.str false (nputL p leaf),.bool true true])
 | false=>.ret (.tup [.str true [],.bool true false])
def ngetB (s:List UInt8):Bool:=decide (pathL s≠[])&&decide (byteAt (pathL s) 0≤3)&&(decide (byteAt (pathL s) 0% 2=1)||decide (byteAt (pathL s) 1=0))
def ngetLeaf (s:List UInt8):Bool:=decide (2≤byteAt (pathL s) 0)
def ngetP (s:List UInt8):List UInt8:=if byteAt (pathL s) 0% 2=1 then(pathL s).drop 1 else(pathL s).drop 2
def ngetA (s:List UInt8):Ans:=.fork (ngetB s) fun b=>match b with
 | true=>.ret (.tup [.str false (ngetP s),.bool false (ngetLeaf s),.bool true true])
 | false=>.ret (.tup [.str true [],.bool true false,.bool true false])
end Go.Proofs.YtoalfimkkibpdaaGreatDoor
namespace Go.Proofs.YtoalfimkkibpdaaGreatDoor
open Go Sx
set_option maxRecDepth 20000
theorem vcNPut (p:List UInt8)(leaf:Bool):VC.holds (runA cfgN1 200 Tryz.f200 [.str false p,.bool false leaf] (nputA p leaf))=((p.length<1152921504606846976∧((!nibB p)=true→(nibB p=true→sameVal (SV.tup [SV.str true [],SV.bool true false]) (SV.tup [SV.str false (nputL p leaf),SV.bool true true]))∧(nibB p=false→sameVal (SV.tup [SV.str true [],SV.bool true false]) (SV.tup [SV.str true [],SV.bool true false])))∧((!nibB p)=false→(0≤(p.length:Int)∧(p.length:Int)≤9223372036854775807∧(0:Int)<(2:Int))∧True∧(0≤(p.length:Int)∧(p.length:Int)≤9223372036854775807∧(0:Int)<(2:Int))∧((!decide ((p.length:Int)% 2=(1:Int)))=true→(↑(1:Nat):Int)+1≤(9223372036854775807:Int)∧(↑(2:Nat):Int)+(p.length:Int)≤9223372036854775807∧(cat (cat [UInt8.ofNat (flagN leaf (decide ((p.length:Int)% 2=(1:Int)))).toNat] [(0:UInt8)]) p).length<1099511627776∧(nibB p=true→sameVal (SV.tup [SV.str false (pairsL (cat (cat [UInt8.ofNat (flagN leaf (decide ((p.length:Int)% 2=(1:Int)))).toNat] [(0:UInt8)]) p)),SV.bool true true]) (SV.tup [SV.str false (nputL p leaf),SV.bool true true]))∧(nibB p=false →sameVal (SV.tup [SV.str false (pairsL (cat (cat [UInt8.ofNat (flagN leaf (decide ((p.length:Int)% 2=(1:Int)))).toNat] [(0:UInt8)]) p)),SV.bool true true]) (SV.tup [SV.str true [],SV.bool true false])))∧((!decide ((p.length:Int)% 2=(1:Int)))=false→(↑(1:Nat):Int)+(p.length:Int)≤9223372036854775807∧(cat [UInt8.ofNat (flagN leaf (decide ((p.length:Int)% 2=(1:Int)))).toNat] p).length<1099511627776∧(nibB p=true→sameVal (SV.tup [SV.str false (pairsL (cat [UInt8.ofNat (flagN leaf (decide ((p.length:Int)% 2=(1:Int)))).toNat] p)),SV.bool true true]) (SV.tup [SV.str false (nputL p leaf),SV.bool true true]))∧(nibB p=false→sameVal (SV.tup [SV.str false (pairsL (cat [UInt8.ofNat (flagN leaf (decide ((p.length:Int)% 2=(1:Int)))).toNat] p)),SV.bool true true]) (SV.tup [SV.str true [],SV.bool true false])))))):=by kernel_rfl
theorem vcNGet (s:List UInt8):VC.holds (runA cfgN1 201 Tryz.f201 [.str false s] (ngetA s))=((fun P0:SV=>((fun P1:SV=>((fun P2:List UInt8=>((fun P3:List UInt8=>((s.length<1099511627776∧(decide (pathL s=[])=true→(ngetB s=true→sameVal P0 P1)∧(ngetB s=false→sameVal P0 P0))∧(decide (pathL s=[])=false→((0:Int)≤(0:Int)∧0<(↑(pathL s).length:Int))∧(decide (byteAt (pathL s) 0=(3:Int))=true→((0:Int)≤(1:Int)∧1≤(↑(pathL s).length:Int)∧(↑(pathL s).length:Int)≤(↑(pathL s).length:Int))∧(ngetB s=true→sameVal (SV.tup [SV.str (false&&true&&false) P2,SV.bool true true,SV.bool true true]) P1)∧(ngetB s=false→sameVal (SV.tup [SV.str (false&&true&&false) P2,SV.bool true true,SV.bool true true]) P0))∧(decide (byteAt (pathL s) 0=(3:Int))=false→(decide (byteAt (pathL s) 0=(2:Int))=true→((0:Int)≤(1:Int)∧1<(↑(pathL s).length:Int))∧((!decide (byteAt (pathL s) 1=(0:Int)))=true→(ngetB s=true→sameVal P0 P1)∧(ngetB s=false→sameVal P0 P0))∧((!decide (byteAt (pathL s) 1=(0:Int)))=false→((0:Int)≤(2:Int)∧2≤(↑(pathL s).length:Int)∧(↑(pathL s).length:Int)≤(↑(pathL s).length:Int))∧(ngetB s=true→sameVal (SV.tup [SV.str (false&&true&&false) P3,SV.bool true true,SV.bool true true]) P1) ∧(ngetB s=false→sameVal (SV.tup [SV.str (false&&true&&false) P3,SV.bool true true,SV.bool true true]) P0)))∧(decide (byteAt (pathL s) 0=(2:Int))=false→(decide (byteAt (pathL s) 0=(1:Int))=true→((0:Int)≤(1:Int)∧1≤(↑(pathL s).length:Int)∧(↑(pathL s).length:Int)≤(↑(pathL s).length:Int))∧(ngetB s=true→sameVal (SV.tup [SV.str (false&&true&&false) P2,SV.bool true false,SV.bool true true]) P1)∧(ngetB s=false→sameVal (SV.tup [SV.str (false&&true&&false) P2,SV.bool true false,SV.bool true true]) P0))∧(decide (byteAt (pathL s) 0=(1:Int))=false→(decide (byteAt (pathL s) 0=(0:Int))=true→((0:Int)≤(1:Int)∧1<(↑(pathL s).length:Int))∧((!decide (byteAt (pathL s) 1=(0:Int)))=true→(ngetB s=true→sameVal P0 P1)∧(ngetB s=false→sameVal P0 P0))∧((!decide (byteAt (pathL s) 1=(0:Int)))=false→((0:Int)≤(2:Int)∧2≤(↑(pathL s).length:Int)∧(↑(pathL s).length:Int)≤(↑(pathL s).length:Int))∧(ngetB s=true→sameVal (SV.tup [SV.str (false&&true&&false) P3,SV.bool true false,SV.bool true true]) P1)∧(ngetB s=false →sameVal (SV.tup [SV.str (false&&true&&false) P3,SV.bool true false,SV.bool true true]) P0)))∧(decide (byteAt (pathL s) 0=(0:Int))=false→(ngetB s=true→sameVal P0 P1)∧(ngetB s=false→sameVal P0 P0))))))))) (subStr (pathL s) (some (Operand.const (Value.int IntKind.i64 2))) none 2 (↑(pathL s).length:Int)))) (subStr (pathL s) (some (Operand.const (Value.int IntKind.i64 1))) none 1 (↑(pathL s).length:Int)))) (SV.tup [SV.str false (ngetP s),SV.bool false (ngetLeaf s),SV.bool true true]))) (SV.tup [SV.str true [],SV.bool true false,SV.bool true false])):=by kernel_rfl
end Go.Proofs.YtoalfimkkibpdaaGreatDoor
namespace Go.Proofs.YtoalfimkkibpdaaGreatDoor
open Go Sx
set_option maxRecDepth 20000
theorem part_app {a b:List UInt8} {i:Int} (h:i≤a.length):part (a++b) i=part a i:=by
 unfold part
 by_cases h1:1≤i
 ·have hl:1≤a.length:=by omega
  rw[List.drop_append_of_le_length hl,List.take_append_of_le_length (by simp only[List.length_drop];omega)]
 ·have:(i - 1).toNat=0:=by omega
  rw[this];rfl
theorem lenB_app {a b:List UInt8} {i:Int} (h2:2≤i)(h:lenB a i=true):lenB (a++b) i=true:=by
 obtain⟨h1,h3,h4,h5⟩:=lenB_iff.1 h
 refine lenB_iff.2 ⟨by simp only[List.length_append];omega,?_,?_,?_⟩
 ·rw[byteAt_left (by omega) (by omega)];exact h3
 ·rw[part_app h1];exact h4
 ·rw[part_app h1];exact h5
theorem cut_app {a:List UInt8} (h:cutB a=true)(b:List UInt8):cutB (a++b)=true∧cutL (a++b)=cutL a∧cutIn (a++b)=cutIn a∧cutRest (a++b)=cutRest a++b:=by
 obtain⟨h0,hc⟩:=cutB_iff.1 h
 have hl:=List.length_pos_iff.2 h0
 have e0:byteAt (a++b) 0=byteAt a 0:=byteAt_left (Int.le_refl _) (by omega)
 have el:lead (a++b)=lead a:=by unfold lead;rw[e0]
 have eL:cutL (a++b)=cutL a:=by unfold cutL;rw[e0]
 have hne:a++b≠[]:=by simp[h0]
 refine⟨?_,eL,?_⟩
 ·refine cutB_iff.2 ⟨hne,?_⟩
  rw[e0,el]
  rcases hc with hA | ⟨hA,hB,hC,hD⟩ | ⟨hA,hB,hC,hD⟩
  ·exact .inl hA
  ·have hq:=(lenB_iff.1 hC).1
   exact .inr (.inl ⟨hA,hB,lenB_app (by omega) hC,by rw[part_app hq];simp only[List.length_append];omega⟩)
  ·exact .inr (.inr ⟨hA,hB,by simp only[List.length_append];omega,fun⟨x,y,z⟩=>hD ⟨x,y,by rwa [byteAt_left (by omega) (by omega)] at z⟩⟩)
 ·rcases hc with hA | ⟨hA,hB,hC,hD⟩ | ⟨hA,hB,hC,hD⟩
  ·obtain⟨_,k2,k3⟩:=cut_short hA
   obtain⟨_,j2,j3⟩:=cut_short (s:=a++b) (by rw[e0];exact hA)
   rw[k2,k3,j2,j3]
   exact⟨List.take_append_of_le_length (by omega),List.drop_append_of_le_length (by omega)⟩
  ·have hq:=(lenB_iff.1 hC).1
   have hp:=part_nn a (lead a - 54)
   obtain⟨k2,k3⟩:=cut_long hA hB
   obtain⟨j2,j3⟩:=cut_long (s:=a++b) (by rw[e0];exact hA) (by rw[el];exact hB)
   rw[k2,k3,j2,j3,el,part_app hq]
   constructor
   ·rw[List.drop_append_of_le_length (by omega),List.take_append_of_le_length (by simp only[List.length_drop];omega)]
   ·rw[List.drop_append_of_le_length (by omega)]
  ·have hn:=lead_nn hA
   obtain⟨k2,k3⟩:=cut_mid hA hB
   obtain⟨j2,j3⟩:=cut_mid (s:=a++b) (by rw[e0];exact hA) (by rw[el];exact hB)
   rw[k2,k3,j2,j3,el]
   have e1:(1:Int).toNat=1:=rfl
   rw[e1]
   constructor
   ·rw[List.drop_append_of_le_length (by omega),List.take_append_of_le_length (by simp only[List.length_drop];omega)]
   ·rw[List.drop_append_of_le_length (by omega)]
theorem itemOf_app {a:List UInt8} (h:cutB a=true)(b:List UInt8):itemOf (a++b)=itemOf a:=by
 unfold itemOf
 rw[(cut_app h b).2.2.2,List.length_append,List.length_append]
 have:a.length+b.length - ((cutRest a).length+b.length)=a.length - (cutRest a).length:=by omega
 rw[this,List.take_append_of_le_length (by omega)]
theorem Walk.app {a:List UInt8} (b:List UInt8): ∀ {k:Nat},Walk a k→restAt (a++b) k=restAt a k++b
 | 0,_=>by simp only[restAt]
 | k+1,h=>by
   have h1:=Walk.app b (k:=k) (fun j hj=>h j (by omega))
   simp only[restAt]
   rw[h1,(cut_app (h k (by omega)).2 b).2.2.2]
theorem Walk.take {a:List UInt8} {k j:Nat} (h:Walk a k)(hj:j≤k):Walk a j:=fun i hi=>h i (by omega)
theorem Walk.join {a:List UInt8} (b:List UInt8) {k:Nat} (h:Walk a k):Walk (a++b) k:=fun j hj=>by
 rw[(h.take (j:=j) (by omega)).app b]
 obtain⟨h1,h2⟩:=h j hj
 exact⟨by simp[h1],(cut_app h2 b).1⟩
theorem Walk.item {a:List UInt8} (b:List UInt8) {k j:Nat} (h:Walk a k)(hj:j<k):itemAt (a++b) j=itemAt a j:=by
 unfold itemAt
 rw[(h.take (j:=j) (by omega)).app b,itemOf_app (h j hj).2]
theorem items_walk (n:Nat): ∀(s:List UInt8),s.length≤n→itemsB s=true→Walk s (itemsN s)∧restAt s (itemsN s)=[]:=by
 have nil: ∀ s:List UInt8,s=[]→Walk s (itemsN s)∧restAt s (itemsN s)=[]:=by
  intro s hs
  rw[hs,items_nil.2]
  exact⟨fun j hj=>absurd hj (Nat.not_lt_zero _),by simp only[restAt]⟩
 induction n with
 | zero=>exact fun s h _=>nil s (List.length_eq_zero_iff.1 (by omega))
 | succ n ih =>
   intro s h hb
   by_cases hne:s=[]
   ·exact nil s hne
   ·have hc:cutB s=true:=by
     cases hc:cutB s with
     | false=>rw[items_bad hne hc] at hb;cases hb
     | true=>rfl
    obtain⟨h1,h2⟩:=items_cut hne hc
    have hl:=cut_lt hc
    obtain⟨h3,h4⟩:=ih (cutRest s) (by omega) (by rw[← h1];exact hb)
    rw[h2]
    refine⟨fun j hj=> ?_,by rw[restAt_succ];exact h4⟩
    cases j with
    | zero=>simp only[restAt];exact⟨hne,hc⟩
    | succ j=>rw[restAt_succ];exact h3 j (by omega)
theorem restAt_add (s:List UInt8)(k:Nat): ∀ j,restAt s (k+j)=restAt (restAt s k) j
 | 0=>by simp only[restAt,Nat.add_zero]
 | j+1=>by rw[← Nat.add_assoc,restAt,restAt_add s k j];simp only[restAt]
theorem items_join {a:List UInt8} (h:itemsB a=true)(b:List UInt8):itemsB (a++b)=itemsB b∧itemsN (a++b)=itemsN a+itemsN b ∧
  (∀ j,j<itemsN a→itemAt (a++b) j=itemAt a j)∧∀ j,itemAt (a++b) (itemsN a+j)=itemAt b j:=by
 obtain⟨h1,h2⟩:=items_walk a.length a (Nat.le_refl _) h
 have h3:=h1.app b
 rw[h2,List.nil_append] at h3
 obtain⟨h4,h5⟩:=(h1.join b).items
 rw[h3] at h4 h5
 refine⟨h4,by omega,fun j hj=>h1.item b hj,fun j=> ?_⟩
 unfold itemAt
 rw[restAt_add,h3]
theorem itemsN_le {s:List UInt8} (h:itemsB s=true):itemsN s≤s.length:=by
 have:=(items_walk s.length s (Nat.le_refl _) h).1.len
 omega
theorem one_item {s:List UInt8} (h:cutB s=true)(h2:cutRest s=[]):itemsB s=true∧itemsN s=1∧itemAt s 0=s:=by
 have hne:=(cutB_iff.1 h).1
 obtain⟨g1,g2⟩:=items_cut hne h
 rw[h2] at g1 g2
 refine⟨by rw[g1];exact items_nil.1,by rw[g2,items_nil.2],?_⟩
 unfold itemAt itemOf
 simp only[restAt]
 rw[h2,List.length_nil,Nat.sub_zero,List.take_length]
theorem text_one {b:List UInt8} (hb:b.length≤1048576):cutB (textOf b)=true∧cutL (textOf b)=false∧cutRest (textOf b)=[]:=by
 obtain⟨h1,h2,_,h4⟩:=text_cut hb []
 rw[List.append_nil] at h1 h2 h4
 exact⟨h1,h2,h4⟩
theorem flat_cons (a:List UInt8)(r:List (List UInt8)):flat (a::r)=a++flat r:=by simp[flat]
theorem flat_items: ∀(l:List (List UInt8)),(∀ x∈ l,cutB x=true∧cutRest x=[])→itemsB (flat l)=true∧itemsN (flat l)=l.length∧∀(j:Nat)(x:List UInt8),l[j]?=some x→itemAt (flat l) j=x
 | [],_=>⟨items_nil.1,items_nil.2,fun j x h=>by simp at h⟩
 | a::r,h=>by
   obtain⟨h1,h2⟩:=h a (by simp)
   obtain⟨o1,o2,o3⟩:=one_item h1 h2
   obtain⟨g1,g2,g3⟩:=flat_items r fun x hx=>h x (by simp[hx])
   obtain⟨j1,j2,j3,j4⟩:=items_join o1 (flat r)
   rw[flat_cons]
   refine⟨by rw[j1];exact g1,by rw[j2,o2,g2,List.length_cons];omega,fun j x hx=> ?_⟩
   cases j with
   | zero =>
     simp only[List.getElem?_cons_zero,Option.some.injEq] at hx
     rw[j3 0 (by omega),o3,hx]
   | succ j =>
     have:=j4 j
     rw[o2] at this
     rw[Nat.add_comm j 1,this]
     exact g3 j x (by simpa using hx)
theorem list_cut {l:List (List UInt8)} (hl:(flat l).length≤1048576)(rest:List UInt8) :
  cutB (headOf 192 (flat l).length++flat l++rest)=true∧cutL (headOf 192 (flat l).length++flat l++rest)=true∧cutIn (headOf 192 (flat l).length++flat l++rest)=flat l∧cutRest (headOf 192 (flat l).length++flat l++rest)=rest:=by
 obtain⟨h1,h2,h3,h4⟩:=enc_cut (.inr rfl) hl (fun h=>by omega) rest
 exact⟨h1,by rw[h2];rfl,h3,h4⟩
theorem cutRest_le (s:List UInt8):(cutRest s).length≤s.length:=by
 unfold cutRest;rw[List.length_drop];omega
theorem restAt_le (s:List UInt8): ∀ k,(restAt s k).length≤s.length
 | 0=>by simp only[restAt];exact Nat.le_refl _
 | k+1=>by simp only[restAt];exact Nat.le_trans (cutRest_le _) (restAt_le s k)
theorem itemAt_le (s:List UInt8)(k:Nat):(itemAt s k).length≤s.length:=by
 have:=restAt_le s k
 unfold itemAt itemOf;rw[List.length_take];omega
theorem cutIn_le (s:List UInt8):(cutIn s).length≤s.length:=by
 unfold cutIn;simp only[List.length_take,List.length_drop];omega
def listOf (l:List (List UInt8)):List UInt8:=headOf 192 (flat l).length++flat l
end Go.Proofs.YtoalfimkkibpdaaGreatDoor
namespace Go.Proofs.YtoalfimkkibpdaaGreatDoor
open Go Sx
set_option maxRecDepth 20000
theorem byteAt_tail (c:UInt8)(t:List UInt8):byteAt (c::t) 1=byteAt t 0:=by cases t<;>rfl
theorem getB_num {n:Int} (h0:0≤n)(h:n<18446744073709551616):getB (textOf (digits n))=true∧cutIn (textOf (digits n))=digits n:=by
 have hl:=digits_len n
 obtain⟨h1,h2,h3,h4⟩:=text_cut (b:=digits n) (by omega) []
 rw[List.append_nil] at h1 h2 h3 h4
 refine⟨getB_iff.2 ⟨h1,h2,h4,by rw[h3];exact hl,?_⟩,h3⟩
 rw[h3]
 by_cases hp:0<n
 ·exact .inr (digits_head hp h).2
 ·have:n=0:=by omega
  subst this;exact .inl digits_zero
end Go.Proofs.YtoalfimkkibpdaaGreatDoor
namespace Go.Proofs.YtoalfimkkibpdaaGreatDoor
open Go Sx
set_option maxRecDepth 20000
def againOf (l:Bool)(b:List UInt8):List UInt8:=bif l then headOf 192 b.length++b else textOf b
theorem toNat_eq {a b:UInt8} (h:a.toNat=b.toNat):a=b:=UInt8.toNat_inj.1 h
theorem byteAt_cons0 {s:List UInt8} (h:s≠[]): ∃ b t,s=b::t∧byteAt s 0=(b.toNat:Int):=by
 cases s with
 | nil=>exact absurd rfl h
 | cons b t=>exact⟨b,t,rfl,rfl⟩
theorem cut_only {s:List UInt8} (h:cutB s=true):againOf (cutL s) (cutIn s)++cutRest s=s:=by
 obtain⟨h0,h⟩:=cutB_iff.1 h
 obtain⟨b,t,rfl,hb⟩:=byteAt_cons0 h0
 have hb8:=b.toNat_lt
 rcases h with hA | ⟨hA,hL,hB,hP⟩ | ⟨hA,hL,hP,hN⟩
 ·obtain⟨k1,k2,k3⟩:=cut_short hA
  rw[k1,k2,k3]
  simp only[againOf,cond_false,List.take_succ_cons,List.take_zero,List.drop_succ_cons,List.drop_zero]
  rw[text_short ⟨rfl,by rw[hb] at hA;exact hA⟩];rfl
 ·obtain⟨k1,k2⟩:=cut_long hA hL
  obtain⟨g1,g2,g3,g4⟩:=lenB_iff.1 hB
  have hl:=g1
  simp only[List.length_cons] at hl g1 hP
  have hlead:lead (b::t)<64∧0≤lead (b::t):=by unfold lead;split<;>omega
  have hpn:=part_nn (b::t) (lead (b::t) - 54)
  have elen:(cutIn (b::t)).length=(part (b::t) (lead (b::t) - 54)).toNat:=by
   rw[k1];simp only[List.length_take,List.length_drop,List.length_cons];omega
  have hd:digits (part (b::t) (lead (b::t) - 54))=t.take (lead (b::t) - 55).toNat:=by
   have e:part (b::t) (lead (b::t) - 54)=num (t.take (lead (b::t) - 55).toNat):=by
    unfold part
    simp only[List.drop_succ_cons,List.drop_zero]
    congr 2;omega
   rw[e]
   refine digits_of (by simp only[List.length_take];omega) (.inr ?_)
   intro h
   apply g2
   rw[byteAt_tail]
   have:byteAt (t.take (lead (b::t) - 55).toNat) 0=byteAt t 0:=by
    obtain⟨m,hm⟩: ∃ m,(lead (b::t) - 55).toNat=m+1:=⟨(lead (b::t) - 55).toNat - 1,by omega⟩
    rw[hm]
    cases t<;>rfl
   rw[← this];exact h
  have hhead: ∀ base:Int,lead (b::t)=byteAt (b::t) 0 - base→0≤base→headOf base (cutIn (b::t)).length=b::t.take (lead (b::t) - 55).toNat:=by
   intro base hbase hb0
   rw[head_long (by rw[elen];omega),elen,show(((part (b::t) (lead (b::t) - 54)).toNat:Nat):Int)=part (b::t) (lead (b::t) - 54)by omega,hd]
   congr 1
   apply toNat_eq
   have:(base+55+((t.take (lead (b::t) - 55).toNat).length:Int)).toNat=b.toNat:=by
    rw[hb] at hbase
    simp only[List.length_take];omega
   rw[this]
   simp
  have hcat: ∀ base:Int,lead (b::t)=byteAt (b::t) 0 - base→0≤base→headOf base (cutIn (b::t)).length++cutIn (b::t)++cutRest (b::t)=b::t:=by
   intro base hbase hb0
   rw[hhead base hbase hb0,k1,k2,List.append_assoc]
   have e1:(lead (b::t) - 54).toNat=(lead (b::t) - 55).toNat+1:=by omega
   have e2:(lead (b::t) - 54+part (b::t) (lead (b::t) - 54)).toNat=(lead (b::t) - 55).toNat+1+(part (b::t) (lead (b::t) - 54)).toNat:=by omega
   rw[e1,e2]
   generalize (lead (b::t) - 55).toNat=k
   generalize (part (b::t) (lead (b::t) - 54)).toNat=p
   rw[show k+1+p=(k+p)+1 by omega]
   simp only[List.drop_succ_cons,List.cons_append]
   rw[← List.drop_drop,List.take_append_drop,List.take_append_drop]
  by_cases hC:byteAt (b::t) 0<192
  ·have e3:cutL (b::t)=false:=by simp[cutL];omega
   rw[e3,againOf,cond_false,text_long (by rw[elen];omega)]
   exact hcat 128 (lead_lt hC) (by omega)
  ·have e3:cutL (b::t)=true:=by simp[cutL];omega
   rw[e3,againOf,cond_true]
   exact hcat 192 (lead_ge hC) (by omega)
 ·obtain⟨k1,k2⟩:=cut_mid hA hL
  simp only[List.length_cons] at hP
  have hlead:=lead_nn hA
  have elen:(cutIn (b::t)).length=(lead (b::t)).toNat:=by
   rw[k1];simp only[List.length_take,List.length_drop,List.length_cons];omega
  have ein:cutIn (b::t)=t.take (lead (b::t)).toNat:=by rw[k1];rfl
  have hcat: ∀ base:Int,lead (b::t)=byteAt (b::t) 0 - base→0≤base→headOf base (cutIn (b::t)).length++cutIn (b::t)++cutRest (b::t)=b::t:=by
   intro base hbase hb0
   rw[head_short (by rw[elen];omega),elen,ein,k2]
   have:(base+((lead (b::t)).toNat:Int)).toNat=b.toNat:=by rw[hb] at hbase;omega
   rw[this,show(1+lead (b::t)).toNat=(lead (b::t)).toNat+1 by omega]
   simp
  by_cases hC:byteAt (b::t) 0<192
  ·have e3:cutL (b::t)=false:=by simp[cutL];omega
   rw[e3,againOf,cond_false,text_long ?_]
   ·exact hcat 128 (lead_lt hC) (by omega)
   ·rintro⟨h1,h2⟩
    rw[elen] at h1
    apply hN
    refine⟨hC,by omega,?_⟩
    rw[byteAt_tail]
    rw[ein,h1] at h2
    cases t with
    | nil=>exact h2
    | cons c u=>exact h2
  ·have e3:cutL (b::t)=true:=by simp[cutL];omega
   rw[e3,againOf,cond_true]
   exact hcat 192 (lead_ge hC) (by omega)
end Go.Proofs.YtoalfimkkibpdaaGreatDoor
namespace Go.Proofs.YtoalfimkkibpdaaGreatDoor
open Go Sx
set_option maxRecDepth 20000
theorem bytesFrom_len (f:Nat→Int)(i n:Nat):(bytesFrom f i n).length=n:=by simp[bytesFrom]
theorem pathL_len (k:List UInt8):(pathL k).length=2*k.length:=bytesFrom_len _ _ _
theorem pairsL_len (p:List UInt8):(pairsL p).length=p.length / 2:=bytesFrom_len _ _ _
theorem tup2_same {l:Bool} {a b:List UInt8} {l1 l2 x:Bool} (h:a=b):sameVal (.tup [.str l a,.bool l1 x]) (.tup [.str false b,.bool l2 x]):=fun E=>by subst h;rfl
theorem nput_holds {p:List UInt8} (leaf:Bool)(hp:p.length<1073741824):Holds (runA cfgN1 200 Tryz.f200 [.str false p,.bool false leaf] (nputA p leaf)):=by
 refine Holds.of_eq (vcNPut p leaf) ?_
 cases nibB p with
 | false=>exact⟨by omega,fun _=>⟨(fun h=>by cases h),fun _ _=>rfl⟩,fun h=>by cases h⟩
 | true =>
   refine⟨by omega,(fun h=>by cases h),fun _=>⟨by omega,trivial,by omega,fun h=> ?_,fun h=> ?_⟩⟩
   ·have ho:decide ((p.length:Int)% 2=1)=false:=by simpa using h
    refine⟨by omega,by omega,by simp only[cat,List.length_append,List.length_cons,List.length_nil];omega,fun _=>tup2_same ?_,fun h=>by cases h⟩
    rw[nputL,ho];rfl
   ·have ho:decide ((p.length:Int)% 2=1)=true:=by simpa using h
    refine⟨by omega,by simp only[cat,List.length_append,List.length_cons,List.length_nil];omega,fun _=>tup2_same ?_,fun h=>by cases h⟩
    rw[nputL,ho];rfl
def nputSpec:List SV→Option (Prop×Ans)
 | [.str false p,.bool false leaf]=>some (p.length<1073741824,nputA p leaf)
 | _=>none
theorem nput_ok:CallOk Tryz.prog 200 (ansPT nputSpec):=by
 refine ans_ok (n:=20) (fn:=Tryz.f200) Tryz.func200 (by kernel_rfl) (by kernel_rfl) ?_
 intro args p a h hp
 unfold nputSpec at h
 split at h
 ·injection h with h;injection h with h1 h2;subst h1;subst h2
  exact⟨_,goodN1,rfl,fun b=>by cases b<;>exact rfl,nput_holds _ hp⟩
 ·cases h
theorem tup3_same {l:Bool} {a b:List UInt8} {l1 l2 l3 l4 x y z:Bool} (h:a=b)(h2:x=y):sameVal (.tup [.str l a,.bool l1 x,.bool l2 z]) (.tup [.str false b,.bool l3 y,.bool l4 z]):=fun E=>by subst h;subst h2;rfl
theorem nget_iff {s:List UInt8}:ngetB s=true↔pathL s≠[]∧byteAt (pathL s) 0≤3∧(byteAt (pathL s) 0% 2=1∨byteAt (pathL s) 1=0):=by
 simp only[ngetB,Bool.and_eq_true,Bool.or_eq_true,decide_eq_true_eq,and_assoc]
theorem nget_holds {s:List UInt8} (hs:s.length<1099511627776):Holds (runA cfgN1 201 Tryz.f201 [.str false s] (ngetA s)):=by
 refine Holds.of_eq (vcNGet s) ?_
 have hl:=pathL_len s
 have b0:=byteAt_lt (pathL s) 0
 have F: ∀ {p:Prop},¬ (pathL s≠[]∧byteAt (pathL s) 0≤3∧(byteAt (pathL s) 0% 2=1∨byteAt (pathL s) 1=0))→ngetB s=true→p:=fun h h'=>absurd (nget_iff.1 h') h
 have T: ∀ {p:Prop},(pathL s≠[]∧byteAt (pathL s) 0≤3∧(byteAt (pathL s) 0% 2=1∨byteAt (pathL s) 1=0))→ngetB s=false→p:=fun h h'=>by rw[nget_iff.2 h] at h';cases h'
 have none':sameVal (.tup [.str true [],.bool true false,.bool true false]) (.tup [.str true [],.bool true false,.bool true false]):=fun _=>rfl
 have O:byteAt (pathL s) 0% 2=1→(pathL s).drop 1=ngetP s:=fun h=>(if_pos h).symm
 have Ev: ¬ byteAt (pathL s) 0% 2=1→(pathL s).drop 2=ngetP s:=fun h=>(if_neg h).symm
 refine⟨hs,fun h=>⟨F (by simp at h;simp[h]),fun _=>none'⟩,fun h=> ?_⟩
 have h:pathL s≠[]:=of_decide_eq_false h
 have hp:=List.length_pos_iff.2 h
 refine⟨by omega,fun a=> ?_,fun a=>⟨fun b=> ?_,fun b=>⟨fun c=> ?_,fun c=>⟨fun d=> ?_,fun d=> ?_⟩⟩⟩⟩
 ·have a:=of_decide_eq_true a
  refine⟨by omega,fun _=>tup3_same (O (by omega)) (by simp[ngetLeaf,a]),T ⟨h,by omega,.inl (by omega)⟩⟩
 ·have b:=of_decide_eq_true b
  refine⟨by omega,fun g=> ?_,fun g=>⟨by omega,fun _=>tup3_same (Ev (by omega)) (by simp[ngetLeaf,b]),?_⟩⟩
  ·have g: ¬ byteAt (pathL s) 1=0:=by simpa using g
   exact⟨F (by rintro⟨_,_,e | e⟩;omega;exact g e),fun _=>none'⟩
  ·have g:byteAt (pathL s) 1=0:=by simpa using g
   exact T ⟨h,by omega,.inr g⟩
 ·have c:=of_decide_eq_true c
  refine⟨by omega,fun _=>tup3_same (O (by omega)) (by simp[ngetLeaf,c]),T ⟨h,by omega,.inl (by omega)⟩⟩
 ·have d:=of_decide_eq_true d
  refine⟨by omega,fun g=> ?_,fun g=>⟨by omega,fun _=>tup3_same (Ev (by omega)) (by simp[ngetLeaf,d]),?_⟩⟩
  ·have g: ¬ byteAt (pathL s) 1=0:=by simpa using g
   exact⟨F (by rintro⟨_,_,e | e⟩;omega;exact g e),fun _=>none'⟩
  ·have g:byteAt (pathL s) 1=0:=by simpa using g
   exact T ⟨h,by omega,.inr g⟩
 ·have a:=of_decide_eq_false a
  have b:=of_decide_eq_false b
  have c:=of_decide_eq_false c
  have d:=of_decide_eq_false d
  exact⟨F (by rintro⟨_,e,_⟩;omega),fun _=>none'⟩
def ngetSpec:List SV→Option (Prop×Ans)
 | [.str false s]=>some (s.length<1099511627776,ngetA s)
 | _=>none
theorem nget_ok:CallOk Tryz.prog 201 (ansPT ngetSpec):=by
 refine ans_ok (n:=20) (fn:=Tryz.f201) Tryz.func201 (by kernel_rfl) (by kernel_rfl) ?_
 intro args p a h hp
 unfold ngetSpec at h
 split at h
 ·injection h with h;injection h with h1 h2;subst h1;subst h2
  exact⟨_,goodN1,rfl,fun b=>by cases b<;>exact rfl,nget_holds hp⟩
 ·cases h
noncomputable def listN2:List (FuncId×PT):=(166,purePT nvalidSpec)::(200,ansPT nputSpec)::(201,ansPT ngetSpec)::list7
theorem listN2_ok:SummOk Tryz.prog (fun f=>lookPT f listN2):=.cons nvalid_ok (purePT_mono _) (.cons nput_ok (ansPT_mono _) (.cons nget_ok (ansPT_mono _) list7_ok))
noncomputable def cfgN2:Cfg:={cfg0 with summ:=fun f=>lookPT f listN2}
theorem goodN2':Sx.Good Tryz.prog cfgN2:=⟨mixes,listN2_ok,fns_ok⟩
end Go.Proofs.YtoalfimkkibpdaaGreatDoor
namespace Go.Proofs.YtoalfimkkibpdaaGreatDoor
open Go Sx
set_option maxRecDepth 20000
structure Nd where
 k:Int
 p:List UInt8
 v:List UInt8
 r:Nat→List UInt8
def refCells (r:Nat→List UInt8):List SV:=[.str false (r 0),.str false (r 1),.str false (r 2),.str false (r 3),.str false (r 4),.str false (r 5),.str false (r 6),.str false (r 7),.str false (r 8),.str false (r 9),.str false (r 10),.str false (r 11),.str false (r 12),.str false (r 13),.str false (r 14),.str false (r 15)]
def Nd.svL (x:Nd)(l:Bool)(k:Int):SV:=.agg (.int .i64 l k::.str false x.p::.str false x.v::refCells x.r)
def Nd.sv (x:Nd):SV:=x.svL false x.k
def zeroN:SV:=.agg [.int .i64 true 0,.str true [],.str true [],.str true [],.str true [],.str true [],.str true [],.str true [],.str true [],.str true [],.str true [],.str true [],.str true [],.str true [],.str true [],.str true [],.str true [],.str true [],.str true []]
def ndOf:List SV→Option Nd
 | [.int .i64 false k,.str false p,.str false v,.str false r0,.str false r1,.str false r2,.str false r3,.str false r4,.str false r5,.str false r6,.str false r7,.str false r8,.str false r9,.str false r10,.str false r11,.str false r12,.str false r13,.str false r14,.str false r15]=>some ⟨k,p,v,fun i=>[r0,r1,r2,r3,r4,r5,r6,r7,r8,r9,r10,r11,r12,r13,r14,r15].getD i []⟩
 | _=>none
theorem ndOf_eq {l:List SV} {x:Nd} (h:ndOf l=some x):SV.agg l=x.sv:=by
 unfold ndOf at h
 split at h
 ·injection h with h;subst h;rfl
 ·cases h
def plainB (t:List UInt8):Bool:=cutB t&& !cutL t&&decide (cutRest t=[])
def hashB (t:List UInt8):Bool:=plainB t&&decide (((cutIn t).length:Int)=32)
def plainA (t:List UInt8):Ans:=.fork (plainB t) fun b=>match b with
 | true=>.ret (.tup [.str false (cutIn t),.bool true true])
 | false=>.ret (.tup [.str true [],.bool true false])
def hashA (t:List UInt8):Ans:=.fork (hashB t) fun b=>match b with
 | true=>.ret (.tup [.str false (cutIn t),.bool true true])
 | false=>.ret (.tup [.str true [],.bool true false])
def pathB (x:Nd)(least:Int):Bool:=decide (least≤(x.p.length:Int))&&decide ((x.p.length:Int)≤12)&&nibB x.p
def behindI (r:Nat→List UInt8):Nat→Int
 | 0=>0
 | i+1=>if r i=[] then behindI r i else(i:Int)+1
noncomputable def annBehind (x:Nd):LoopAnn :=
 {α:=Nat,pre:=fun _ i=>i≤16,mea:=fun _ i=>16 - i,fresh:=0,slots:=fun _ i=>[(7,.int .i64 false i)],
  mem:=fun _ i=>[(1,.cells [.int .i64 false (behindI x.r i)] 1 3)]}
noncomputable def cfgNB (x:Nd):Cfg:={cfg0 with summ:=fun f=>lookPT f listN2,anns:=fun f=>if f=192 then [(1,always (annBehind x))] else []}
theorem goodNB (x:Nd):Sx.Good Tryz.prog (cfgNB x):=⟨mixes,listN2_ok,fns_ok⟩
end Go.Proofs.YtoalfimkkibpdaaGreatDoor
