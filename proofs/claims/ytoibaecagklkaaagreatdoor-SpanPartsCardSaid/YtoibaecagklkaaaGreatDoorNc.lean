/-
  SpanParts: two ranges of which one ends where the other one begins have, together, what both have, and what is at that key once more; a range in another one has what is in it: for every input the law returns true.
-/
import Derived.Test.YtoibaecagklkaaaGreatDoorNb
import Derived.Test.YtoibaecagklkaaaGreatDoorMz
import Derived.Test.YtoibaecagklkaaaGreatDoorTie
import Derived.Test.YtoibaecagklkaaaGreatDoorCards
import Derived.SevenTiedAt
open Bool renaming false->d,true->i
open Go.ChangeMaps renaming open_string->q
open Go.Proofs.Tryz renaming checked->s,f5->m,func5->p,prog->e,underlying9->u
namespace Go.Proofs.YtoibaecagklkaaaGreatDoor
open Go Sx Go.RowKit Go.WideShapes Go.ChangeShapes
set_option maxRecDepth 100000
theorem yj (os:Os)(started:os.Started)(H:Type)(enc:TypeId×Value->H) :
  ReturnsInHanded {} s os 5 .any (λw args=>(Rows.spanPartsSpec.pre enc e m [] d w args/\laidMetH e qS w)/\sizedMet enc e m (OpenSpec.ofChange Rows.spanPartsSpec) d w args)
   (Rows.spanPartsSpec.post enc e m d i d d):=by
 refine Bo (C:=s) (boolT:=4) (X:=λw=>laidMetH e qS w) (λ_ _ hh h=>h.of_heap hh) Tryz.own started (by kernel_rfl) p
  (ChangeSpec.witness_at (enc:=enc) (C:=s) (os:=os) (X:=λw _=>laidMetH e qS w) d (sr os) #[.slice none 0 0,.string ⟨#[]⟩,.string ⟨#[]⟩,.string ⟨#[]⟩] 8 rfl (by kernel_rfl) (by kernel_rfl) (by kernel_rfl) (by kernel_rfl) (by kernel_rfl) (m9 os _))
  Tryz.laidOut rfl Tryz.underlying4 (by kernel_rfl) (of_decide_eq_true (by kernel_rfl)) rfl (λds h=>by match ds,h with | [a0,a1,a2,a3],_=>rfl) ?_
 intro W args ds ps hval hA hL;have hA':DataW.TrodAll enc e W 0 (λ_=>i) i [22,9,9,9] args.toList ds ps:=hA;obtain⟨v0,v1,v2,v3,d0,d1,d2,d3,p0,p1,p2,p3,rfl,rfl,rfl,h0,h1,h2,h3⟩:=trodAll_four hA';obtain⟨b0,w0⟩:=hval 0 22 v0 rfl rfl;obtain⟨b1,w1⟩:=hval 1 9 v1 rfl rfl;obtain⟨b2,w2⟩:=hval 2 9 v2 rfl rfl;obtain⟨b3,w3⟩:=hval 3 9 v3 rfl rfl;obtain⟨z,c0,o,n,c,f,g,rfl,hn,st0⟩:=Ar w0 h0;obtain⟨s1,rfl,rfl,rfl,_⟩:=q u w1 h1;obtain⟨s2,rfl,rfl,rfl,_⟩:=q u w2 h2;obtain⟨s3,rfl,rfl,rfl,_⟩:=q u w3 h3;exact(Cn (Zl n f g s1.data.toList s2.data.toList s3.data.toList) p (by kernel_rfl) (by kernel_rfl) (Dd n f g (Ll hn) z o c s1.data.toList s2.data.toList s3.data.toList none) rfl rfl (oU hL) (b:=λ_=>c0) (Mt st0):Calls _ _ (SV.vals (λ_=>c0) [.bS 0 2 z o 0 n c,.str d s1.data.toList,.str d s2.data.toList,.str d s3.data.toList]).toArray _ _)
theorem zK:Rows.SpanPartsSaid :=
 OpenClaim.holds_of_wide 5 m rfl rfl rfl rfl rfl rfl rfl ⟨rfl,rfl,rfl,rfl,rfl⟩ rfl rfl rfl rfl rfl (by kernel_rfl) p (by kernel_rfl)
  (of_decide_eq_true (by kernel_rfl)) (by unfold Func.isWrapper;first | (rw[if_pos (by decide +kernel)];kernel_rfl) | (rw[if_neg (by decide +kernel)];exact⟨rfl,rfl⟩))
  (λos started H enc _=>yj os started H enc)
theorem spanParts_card_holds:Rows.SpanPartsCardSaid :=
 Claim7.holds_tied_plain_at .later [] [.handle,.data] i (i, "11537ef47c796b0229796c88f67de9793c9d4ae32d6a58b66263dd2fcd95ace2") i
  zK (λ_ h=>by cases h) (by kernel_rfl) (λ_ h=>by cases h) spanParts_row_tie rfl ⟨rfl,rfl⟩ (by kernel_rfl) rfl
  (λf fn hf hfn=>by
    obtain rfl:f=5:=Option.some.inj ((show e.funcNamed "guilloche/guillochelaw12.SpanParts" = some 5 by kernel_rfl).symm.trans hf) |>.symm;obtain rfl:fn=m:=(Option.some.inj (p.symm.trans hfn)).symm;exact⟨by kernel_rfl,λj t ht=>by
     rw[Tryz.params5] at ht;have hm:=Array.mem_of_getElem? ht;simp only[List.mem_toArray,List.mem_cons,List.not_mem_nil,or_false] at hm;rcases hm with rfl | rfl | rfl | rfl
     ·exact(show e.wantsStandIn 22=d by kernel_rfl)
     ·exact(show e.wantsStandIn 9=d by kernel_rfl)
     ·exact(show e.wantsStandIn 9=d by kernel_rfl)
     ·exact(show e.wantsStandIn 9=d by kernel_rfl)⟩)
  (by kernel_rfl)
#print axioms spanParts_card_holds
end Go.Proofs.YtoibaecagklkaaaGreatDoor
