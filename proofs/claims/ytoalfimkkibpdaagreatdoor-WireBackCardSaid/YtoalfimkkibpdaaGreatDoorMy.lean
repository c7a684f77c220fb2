/-
  WireBack: what is put is got again, and nothing else is; and it proves the same: for every input the law returns true.
-/
import Derived.Test.YtoalfimkkibpdaaGreatDoorNa
import Derived.Test.YtoalfimkkibpdaaGreatDoorMx
import Derived.Test.YtoalfimkkibpdaaGreatDoorMz
import Derived.Test.YtoalfimkkibpdaaGreatDoorTie
import Derived.Test.YtoalfimkkibpdaaGreatDoorCards
import Derived.SevenTiedAt
namespace Go.Proofs.YtoalfimkkibpdaaGreatDoor
open Go Sx Go.RowKit Go.WideShapes Go.ChangeShapes
set_option maxRecDepth 100000
theorem wireBack_lifted (os:Os)(started:os.Started)(H:Type)(enc:TypeId×Value→H) :
  ReturnsInHanded {} Tryz.checked os 5 .any (fun w args=>(Rows.wireBackSpec.pre enc Tryz.prog Tryz.f5 [] false w args∧laidMetH Tryz.prog laidL w)∧sizedMet enc Tryz.prog Tryz.f5 (OpenSpec.ofChange Rows.wireBackSpec) false w args)
   (Rows.wireBackSpec.post enc Tryz.prog Tryz.f5 false true false false):=by
 refine law_laid (C:=Tryz.checked) (boolT:=4) (X:=fun w=>laidMetH Tryz.prog laidL w) (fun _ _ hh h=>h.of_heap hh) Tryz.own started (by kernel_rfl) Tryz.func5
  (ChangeSpec.witness_at (enc:=enc) (C:=Tryz.checked) (os:=os) (X:=fun w _=>laidMetH Tryz.prog laidL w) false (laidWorld os) #[.agg #[.int .i64 0,.string ⟨#[]⟩,.string ⟨#[]⟩,.string ⟨#[]⟩,.slice none 0 0],.string ⟨#[]⟩] 8 rfl (by kernel_rfl) (by kernel_rfl) (by kernel_rfl) (by kernel_rfl) (by kernel_rfl) (laidWorld_met os _))
  Tryz.laidOut rfl Tryz.underlying4 (by kernel_rfl) (of_decide_eq_true (by kernel_rfl)) rfl (fun ds h=>by match ds,h with | [a0,a1],_=>rfl) ?_
 intro W args ds ps hval hA hL
 have hA':DataW.TrodAll enc Tryz.prog W 0 (fun _=>true) true [24,9] args.toList ds ps:=hA
 obtain⟨v0,v1,d0,d1,p0,p1,rfl,rfl,rfl,h0,h1⟩:=trodAll_two hA'
 obtain⟨b0,w0⟩:=hval 0 24 v0 rfl rfl
 obtain⟨b1,w1⟩:=hval 1 9 v1 rfl rfl
 obtain⟨x,z,b,o,c,hv,hst,_⟩:=open_paper w0 h0
 obtain⟨s,rfl,rfl,rfl,hs⟩:=Go.ChangeMaps.open_string Tryz.underlying9 w1 h1
 rw[hv 0 (fun _=>b) rfl]
 exact run_view (goodJb wworks_ok x) Tryz.func5 (by kernel_rfl) (by kernel_rfl) (wback_holds x s.data.toList z o c none) rfl (glob_of_laid hL) hst
theorem wireBack_holds:Rows.WireBackSaid :=
 OpenClaim.holds_of_wide 5 Tryz.f5 rfl rfl rfl rfl rfl rfl rfl ⟨rfl,rfl,rfl,rfl,rfl⟩ rfl rfl rfl rfl rfl (by kernel_rfl) Tryz.func5 (by kernel_rfl)
  (of_decide_eq_true (by kernel_rfl)) (by unfold Func.isWrapper;first | (rw[if_pos (by decide +kernel)];kernel_rfl) | (rw[if_neg (by decide +kernel)];exact⟨rfl,rfl⟩))
  (fun os started H enc _=>wireBack_lifted os started H enc)
theorem wireBack_card_holds:Rows.WireBackCardSaid :=
 Claim7.holds_tied_plain_at .later [] [.handle,.data] true (true, "d237c4de2e89c912b6d9c280088b3979728eac252c97fa5324b6ee83b691515d") true
  wireBack_holds (fun _ h=>by cases h) (by kernel_rfl) (fun _ h=>by cases h) wireBack_row_tie rfl ⟨rfl,rfl⟩ (by kernel_rfl) rfl
  (fun f fn hf hfn=>by
    obtain rfl:f=5:=Option.some.inj ((show Tryz.prog.funcNamed "guilloche/guillochelaw13.WireBack" = some 5 by kernel_rfl).symm.trans hf) |>.symm
    obtain rfl:fn=Tryz.f5:=(Option.some.inj (Tryz.func5.symm.trans hfn)).symm
    exact⟨by kernel_rfl,fun j t ht=>by
     rw[Tryz.params5] at ht
     have hm:=Array.mem_of_getElem? ht
     simp only[List.mem_toArray,List.mem_cons,List.not_mem_nil,or_false] at hm
     rcases hm with rfl | rfl
     ·exact(show Tryz.prog.wantsStandIn 24=false by kernel_rfl)
     ·exact(show Tryz.prog.wantsStandIn 9=false by kernel_rfl)⟩)
  (by kernel_rfl)
#print axioms wireBack_card_holds
end Go.Proofs.YtoalfimkkibpdaaGreatDoor
