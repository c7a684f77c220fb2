/-
  WireProves: what is built of any map goes as bytes, and proves what the map has: for every input the law returns true.
-/
import Derived.Test.YtoibaecagklkaaaGreatDoorNb
import Derived.Test.YtoibaecagklkaaaGreatDoorTie
import Derived.Test.YtoibaecagklkaaaGreatDoorCards
import Derived.SevenTiedAt
open Bool renaming false->a,true->e
open Go.ChangeMaps renaming open_string->s
open Go.Proofs.Tryz renaming checked->q,f10->i,func10->p,prog->d,underlying9->u
namespace Go.Proofs.YtoibaecagklkaaaGreatDoor
section
open Go Sx Go.RowKit Go.WideShapes Go.ChangeShapes
set_option maxRecDepth 100000
theorem yb (os:Os)(started:os.Started)(H:Type)(enc:TypeId×Value->H) :
  ReturnsInHanded {} q os 10 .any (λw args=>(Rows.wireProvesSpec.pre enc d i [] a w args/\laidMetH d Ko w)/\sizedMet enc d i (OpenSpec.ofChange Rows.wireProvesSpec) a w args)
   (Rows.wireProvesSpec.post enc d i a e a a):=by
 refine Wx (C:=q) (boolT:=4) (X:=λw=>laidMetH d Ko w) (λ_ _ hh h=>h.of_heap hh) Tryz.own started (by kernel_rfl) p
  (ChangeSpec.witness_at (enc:=enc) (C:=q) (os:=os) (X:=λw _=>laidMetH d Ko w) a (Fy os) #[.slice none 0 0,.string ⟨#[]⟩,.string ⟨#[]⟩] 8 rfl (by kernel_rfl) (by kernel_rfl) (by kernel_rfl) (by kernel_rfl) (by kernel_rfl) (Ew os _))
  Tryz.laidOut rfl Tryz.underlying4 (by kernel_rfl) (l_ (by kernel_rfl)) rfl (λds h=>by match ds,h with | [a0,a1,a2],_=>rfl) ?_
 intro W args ds ps hval hA hL;have hA':DataW.TrodAll enc d W 0 (λ_=>e) e [22,9,9] args.toList ds ps:=hA;obtain⟨v0,v1,v2,d0,d1,d2,p0,p1,p2,rfl,rfl,rfl,h0,h1,h2⟩:=trodAll_three hA';obtain⟨b0,w0⟩:=hval 0 22 v0 rfl rfl;obtain⟨b1,w1⟩:=hval 1 9 v1 rfl rfl;obtain⟨b2,w2⟩:=hval 2 9 v2 rfl rfl;obtain⟨z,c0,o,n,c,f,g,rfl,hn,st0⟩:=UB w0 h0;obtain⟨s1,rfl,rfl,rfl,_⟩:=s u w1 h1;obtain⟨s2,rfl,rfl,rfl,_⟩:=s u w2 h2;exact(Yb (adW n f g) p (by kernel_rfl) (by kernel_rfl) (Ea n f g (aeb hn) z o c none s1.data.toList s2.data.toList) rfl rfl (HL hL) (b:=λ_=>c0) (aeI st0):Calls _ _ (SV.vals (λ_=>c0) [.bE 0 2 z o 0 n c,.str a s1.data.toList,.str a s2.data.toList]).toArray _ _)
theorem z6:Rows.WireProvesSaid :=
 OpenClaim.holds_of_wide 10 i rfl rfl rfl rfl rfl rfl rfl ⟨rfl,rfl,rfl,rfl,rfl⟩ rfl rfl rfl rfl rfl (by kernel_rfl) p (by kernel_rfl)
  (l_ (by kernel_rfl)) (by unfold Func.isWrapper;first | (rw[r_ (by decide +kernel)];kernel_rfl) | (rw[s_ (by decide +kernel)];exact⟨rfl,rfl⟩))
  (λos started H enc _=>yb os started H enc)
theorem wireProves_card_holds:Rows.WireProvesCardSaid :=
 Claim7.holds_tied_plain_at .later [] [.handle,.data] e (e, "11537ef47c796b0229796c88f67de9793c9d4ae32d6a58b66263dd2fcd95ace2") e
  z6 (λ_ h=>by cases h) (by kernel_rfl) (λ_ h=>by cases h) wireProves_row_tie rfl ⟨rfl,rfl⟩ (by kernel_rfl) rfl
  (λf fn hf hfn=>by
    obtain rfl:f=10:=Option.some.inj ((show d.funcNamed "guilloche/guillochelaw13.WireProves" = some 10 by kernel_rfl).symm.trans hf) |>.symm;obtain rfl:fn=i:=(Option.some.inj (p.symm.trans hfn)).symm;exact⟨by kernel_rfl,λj t ht=>by
     rw[Tryz.params10] at ht;have hm:=Array.mem_of_getElem? ht;simp only[List.mem_toArray,List.mem_cons,List.not_mem_nil,or_false] at hm;rcases hm with rfl | rfl | rfl
     ·exact(show d.wantsStandIn 22=a by kernel_rfl)
     ·exact(show d.wantsStandIn 9=a by kernel_rfl)
     ·exact(show d.wantsStandIn 9=a by kernel_rfl)⟩)
  (by kernel_rfl)
#print axioms wireProves_card_holds
end
end Go.Proofs.YtoibaecagklkaaaGreatDoor
