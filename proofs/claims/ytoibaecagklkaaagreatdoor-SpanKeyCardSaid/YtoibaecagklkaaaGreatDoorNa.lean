/-
  SpanKey: a range of one key proves what a proof of the key does; its nodes begin with those on the way to it: for every input the law returns true.
-/
import Derived.Test.YtoibaecagklkaaaGreatDoorMy
import Derived.Test.YtoibaecagklkaaaGreatDoorMz
import Derived.Test.YtoibaecagklkaaaGreatDoorTie
import Derived.Test.YtoibaecagklkaaaGreatDoorCards
import Derived.SevenTiedAt
open Bool renaming false->e,true->i
open Go.Proofs.Tryz renaming checked->q,f8->m,func8->p,prog->d
namespace Go.Proofs.YtoibaecagklkaaaGreatDoor
section
open Go Sx Go.RowKit Go.WideShapes Go.ChangeShapes
set_option maxRecDepth 100000
theorem Cu (os:Os)(started:os.Started)(H:Type)(enc:TypeId×Value->H) :
  ReturnsInHanded {} q os 8 .any (λw args=>(Rows.spanKeySpec.pre enc d m [] e w args/\laidMetH d Im w)/\sizedMet enc d m (OpenSpec.ofChange Rows.spanKeySpec) e w args)
   (Rows.spanKeySpec.post enc d m e i e e):=by
 refine TP (C:=q) (boolT:=4) (X:=λw=>laidMetH d Im w) (λ_ _ hh h=>h.of_heap hh) Tryz.own started (by kernel_rfl) p
  (ChangeSpec.witness_at (enc:=enc) (C:=q) (os:=os) (X:=λw _=>laidMetH d Im w) e (DU os) #[.slice none 0 0,.string ⟨#[]⟩] 8 rfl (by kernel_rfl) (by kernel_rfl) (by kernel_rfl) (by kernel_rfl) (by kernel_rfl) (C4 os _))
  Tryz.laidOut rfl Tryz.underlying4 (by kernel_rfl) (of_decide_eq_true (by kernel_rfl)) rfl (λds h=>by match ds,h with | [a0,a1],_=>rfl) ?_
 intro W args ds ps hval hA hL;have hA':DataW.TrodAll enc d W 0 (λ_=>i) i [22,9] args.toList ds ps:=hA;obtain⟨v0,v1,d0,d1,p0,p1,rfl,rfl,rfl,h0,h1⟩:=trodAll_two hA';obtain⟨b0,w0⟩:=hval 0 22 v0 rfl rfl;obtain⟨b1,w1⟩:=hval 1 9 v1 rfl rfl;obtain⟨z,c0,o,n,c,f,g,rfl,hn,st0⟩:=RM w0 h0;obtain⟨s1,rfl,rfl,rfl,_⟩:=Go.ChangeMaps.open_string Tryz.underlying9 w1 h1;exact(Vh (aan n f g) p (by kernel_rfl) (by kernel_rfl) (JQ n f g (aaX hn) z o c none s1.data.toList) rfl rfl (FT hL) (b:=λ_=>c0) (abz st0):Calls _ _ (SV.vals (λ_=>c0) [.bH 0 2 z o 0 n c,.str e s1.data.toList]).toArray _ _)
theorem Df:Rows.SpanKeySaid :=
 OpenClaim.holds_of_wide 8 m rfl rfl rfl rfl rfl rfl rfl ⟨rfl,rfl,rfl,rfl,rfl⟩ rfl rfl rfl rfl rfl (by kernel_rfl) p (by kernel_rfl)
  (of_decide_eq_true (by kernel_rfl)) (by unfold Func.isWrapper;first | (rw[if_pos (by decide +kernel)];kernel_rfl) | (rw[if_neg (by decide +kernel)];exact⟨rfl,rfl⟩))
  (λos started H enc _=>Cu os started H enc)
theorem spanKey_card_holds:Rows.SpanKeyCardSaid :=
 Claim7.holds_tied_plain_at .later [] [.handle,.data] i (i, "11537ef47c796b0229796c88f67de9793c9d4ae32d6a58b66263dd2fcd95ace2") i
  Df (λ_ h=>by cases h) (by kernel_rfl) (λ_ h=>by cases h) spanKey_row_tie rfl ⟨rfl,rfl⟩ (by kernel_rfl) rfl
  (λf fn hf hfn=>by
    obtain rfl:f=8:=Option.some.inj ((show d.funcNamed "guilloche/guillochelaw12.SpanKey" = some 8 by kernel_rfl).symm.trans hf) |>.symm;obtain rfl:fn=m:=(Option.some.inj (p.symm.trans hfn)).symm;exact⟨by kernel_rfl,λj t ht=>by
     rw[Tryz.params8] at ht;have hm:=Array.mem_of_getElem? ht;simp only[List.mem_toArray,List.mem_cons,List.not_mem_nil,or_false] at hm;rcases hm with rfl | rfl
     ·exact(show d.wantsStandIn 22=e by kernel_rfl)
     ·exact(show d.wantsStandIn 9=e by kernel_rfl)⟩)
  (by kernel_rfl)
#print axioms spanKey_card_holds
end
end Go.Proofs.YtoibaecagklkaaaGreatDoor
