/-
  SpanBuilds: what proves any range of any map is what the document says; it is believed, and its entries are those of the range: for every input the law returns true.
-/
import Derived.Test.YtoibaecagklkaaaGreatDoorNa
import Derived.Test.YtoibaecagklkaaaGreatDoorTie
import Derived.Test.YtoibaecagklkaaaGreatDoorCards
import Derived.SevenTiedAt
open Bool renaming false->a,true->e
open Go.ChangeMaps renaming open_string->q
open Go.Proofs.Tryz renaming checked->p,f3->i,func3->m,prog->d,underlying9->s
namespace Go.Proofs.YtoibaecagklkaaaGreatDoor
section
open Go Sx Go.RowKit Go.WideShapes Go.ChangeShapes
set_option maxRecDepth 100000
theorem Ji (os:Os)(started:os.Started)(H:Type)(enc:TypeId×Value->H) :
  ReturnsInHanded {} p os 3 .any (λw args=>(Rows.spanBuildsSpec.pre enc d i [] a w args/\laidMetH d YS w)/\sizedMet enc d i (OpenSpec.ofChange Rows.spanBuildsSpec) a w args)
   (Rows.spanBuildsSpec.post enc d i a e a a):=by
 refine aoR (C:=p) (boolT:=4) (X:=λw=>laidMetH d YS w) (λ_ _ hh h=>h.of_heap hh) Tryz.own started (by kernel_rfl) m
  (ChangeSpec.witness_at (enc:=enc) (C:=p) (os:=os) (X:=λw _=>laidMetH d YS w) a (SM os) #[.slice none 0 0,.string ⟨#[]⟩,.string ⟨#[]⟩] 8 rfl (by kernel_rfl) (by kernel_rfl) (by kernel_rfl) (by kernel_rfl) (by kernel_rfl) (Rz os _))
  Tryz.laidOut rfl Tryz.underlying4 (by kernel_rfl) (i_ (by kernel_rfl)) rfl (λds h=>by match ds,h with | [a0,a1,a2],_=>rfl) ?_
 intro W args ds ps hval hA hL;have hA':DataW.TrodAll enc d W 0 (λ_=>e) e [22,9,9] args.toList ds ps:=hA;obtain⟨v0,v1,v2,d0,d1,d2,p0,p1,p2,rfl,rfl,rfl,h0,h1,h2⟩:=trodAll_three hA';obtain⟨b0,w0⟩:=hval 0 22 v0 rfl rfl;obtain⟨b1,w1⟩:=hval 1 9 v1 rfl rfl;obtain⟨b2,w2⟩:=hval 2 9 v2 rfl rfl;obtain⟨z,c0,o,n,c,f,g,rfl,hn,st0⟩:=amB w0 h0;obtain⟨s1,rfl,rfl,rfl,_⟩:=q s w1 h1;obtain⟨s2,rfl,rfl,rfl,_⟩:=q s w2 h2;exact(aso (ay5 n f g) m (by kernel_rfl) (by kernel_rfl) (Q2 n f g (azq hn) z o c s1.data.toList s2.data.toList none) rfl rfl (VK hL) (b:=λ_=>c0) (aAc st0):Calls _ _ (SV.vals (λ_=>c0) [.cT 0 2 z o 0 n c,.str a s1.data.toList,.str a s2.data.toList]).toArray _ _)
theorem K5:Rows.SpanBuildsSaid :=
 OpenClaim.holds_of_wide 3 i rfl rfl rfl rfl rfl rfl rfl ⟨rfl,rfl,rfl,rfl,rfl⟩ rfl rfl rfl rfl rfl (by kernel_rfl) m (by kernel_rfl)
  (i_ (by kernel_rfl)) (by unfold Func.isWrapper;first | (rw[o_ (by decide +kernel)];kernel_rfl) | (rw[p_ (by decide +kernel)];exact⟨rfl,rfl⟩))
  (λos started H enc _=>Ji os started H enc)
theorem spanBuilds_card_holds:Rows.SpanBuildsCardSaid :=
 Claim7.holds_tied_plain_at .later [] [.handle,.data] e (e, "11537ef47c796b0229796c88f67de9793c9d4ae32d6a58b66263dd2fcd95ace2") e
  K5 (λ_ h=>by cases h) (by kernel_rfl) (λ_ h=>by cases h) spanBuilds_row_tie rfl ⟨rfl,rfl⟩ (by kernel_rfl) rfl
  (λf fn hf hfn=>by
    obtain rfl:f=3:=Option.some.inj ((show d.funcNamed "guilloche/guillochelaw12.SpanBuilds" = some 3 by kernel_rfl).symm.trans hf) |>.symm;obtain rfl:fn=i:=(Option.some.inj (m.symm.trans hfn)).symm;exact⟨by kernel_rfl,λj t ht=>by
     rw[Tryz.params3] at ht;have hm:=Array.mem_of_getElem? ht;simp only[List.mem_toArray,List.mem_cons,List.not_mem_nil,or_false] at hm;rcases hm with rfl | rfl | rfl
     ·exact(show d.wantsStandIn 22=a by kernel_rfl)
     ·exact(show d.wantsStandIn 9=a by kernel_rfl)
     ·exact(show d.wantsStandIn 9=a by kernel_rfl)⟩)
  (by kernel_rfl)
#print axioms spanBuilds_card_holds
end
end Go.Proofs.YtoibaecagklkaaaGreatDoor
