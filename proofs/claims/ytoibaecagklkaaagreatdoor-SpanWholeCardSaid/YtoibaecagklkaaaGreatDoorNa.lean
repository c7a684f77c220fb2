/-
  SpanWhole: of all keys a proof has all nodes, in their order, and proves the map: for every input the law returns true.
-/
import Derived.Test.YtoibaecagklkaaaGreatDoorMy
import Derived.Test.YtoibaecagklkaaaGreatDoorMz
import Derived.Test.YtoibaecagklkaaaGreatDoorTie
import Derived.Test.YtoibaecagklkaaaGreatDoorCards
import Derived.SevenTiedAt
open Go.Proofs.Tryz renaming checked->m,f7->e,func7->i,prog->d
namespace Go.Proofs.YtoibaecagklkaaaGreatDoor
open Go Sx Go.RowKit Go.WideShapes Go.ChangeShapes
set_option maxRecDepth 100000
theorem yo (os:Os)(started:os.Started)(H:Type)(enc:TypeId×Value->H) :
  ReturnsInHanded {} m os 7 .any (λw args=>(Rows.spanWholeSpec.pre enc d e [] false w args/\laidMetH d qS w)/\sizedMet enc d e (OpenSpec.ofChange Rows.spanWholeSpec) false w args)
   (Rows.spanWholeSpec.post enc d e false true false false):=by
 refine Bo (C:=m) (boolT:=4) (X:=λw=>laidMetH d qS w) (λ_ _ hh h=>h.of_heap hh) Tryz.own started (by kernel_rfl) i
  (ChangeSpec.witness_at (enc:=enc) (C:=m) (os:=os) (X:=λw _=>laidMetH d qS w) false (sr os) #[.slice none 0 0] 8 rfl (by kernel_rfl) (by kernel_rfl) (by kernel_rfl) (by kernel_rfl) (by kernel_rfl) (m9 os _))
  Tryz.laidOut rfl Tryz.underlying4 (by kernel_rfl) (of_decide_eq_true (by kernel_rfl)) rfl (λds h=>by match ds,h with | [a0],_=>rfl) ?_
 intro W args ds ps hval hA hL;have hA':DataW.TrodAll enc d W 0 (λ_=>true) true [22] args.toList ds ps:=hA;obtain⟨v0,d0,rfl,rfl,h0⟩:=trodAll_one hA';obtain⟨b0,w0⟩:=hval 0 22 v0 rfl rfl;obtain⟨z,c0,o,n,c,f,g,rfl,hn,st0⟩:=Ar w0 h0;exact(Cn (Zm n f g) i (by kernel_rfl) (by kernel_rfl) (De n f g (Ll hn) z o c none) rfl rfl (oU hL) (b:=λ_=>c0) (Mt st0):Calls _ _ (SV.vals (λ_=>c0) [.bS 0 2 z o 0 n c]).toArray _ _)
theorem zL:Rows.SpanWholeSaid :=
 OpenClaim.holds_of_wide 7 e rfl rfl rfl rfl rfl rfl rfl ⟨rfl,rfl,rfl,rfl,rfl⟩ rfl rfl rfl rfl rfl (by kernel_rfl) i (by kernel_rfl)
  (of_decide_eq_true (by kernel_rfl)) (by unfold Func.isWrapper;first | (rw[if_pos (by decide +kernel)];kernel_rfl) | (rw[if_neg (by decide +kernel)];exact⟨rfl,rfl⟩))
  (λos started H enc _=>yo os started H enc)
theorem spanWhole_card_holds:Rows.SpanWholeCardSaid :=
 Claim7.holds_tied_plain_at .later [] [.handle,.data] true (true, "11537ef47c796b0229796c88f67de9793c9d4ae32d6a58b66263dd2fcd95ace2") true
  zL (λ_ h=>by cases h) (by kernel_rfl) (λ_ h=>by cases h) spanWhole_row_tie rfl ⟨rfl,rfl⟩ (by kernel_rfl) rfl
  (λf fn hf hfn=>by
    obtain rfl:f=7:=Option.some.inj ((show d.funcNamed "guilloche/guillochelaw12.SpanWhole" = some 7 by kernel_rfl).symm.trans hf) |>.symm;obtain rfl:fn=e:=(Option.some.inj (i.symm.trans hfn)).symm;exact⟨by kernel_rfl,λj t ht=>by
     rw[Tryz.params7] at ht;have hm:=Array.mem_of_getElem? ht;simp only[List.mem_toArray,List.mem_cons,List.not_mem_nil,or_false] at hm;rcases hm with rfl
     ·exact(show d.wantsStandIn 22=false by kernel_rfl)⟩)
  (by kernel_rfl)
#print axioms spanWhole_card_holds
end Go.Proofs.YtoibaecagklkaaaGreatDoor
