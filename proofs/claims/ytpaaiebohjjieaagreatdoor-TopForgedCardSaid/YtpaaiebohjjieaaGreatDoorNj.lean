/-
  TopForged: whatever bytes are shown as a proof of a map's root: if they are believed, what they claim is true, or two texts collide, that are told: for every input the law returns true.
-/
import Derived.Test.YtpaaiebohjjieaaGreatDoorMv
import Derived.Test.YtpaaiebohjjieaaGreatDoorNd
import Derived.Test.YtpaaiebohjjieaaGreatDoorNf
import Derived.Test.YtpaaiebohjjieaaGreatDoorNh
import Derived.Test.YtpaaiebohjjieaaGreatDoorNi
import Derived.Test.YtpaaiebohjjieaaGreatDoorTie
import Derived.Test.YtpaaiebohjjieaaGreatDoorCards
import Derived.SevenTiedAt
namespace Go.Proofs.YtpaaiebohjjieaaGreatDoor
open Go Sx Go.RowKit Go.WideShapes Go.ChangeShapes
set_option maxRecDepth 100000
theorem Fl (os:Os)(started:os.Started)(H:Type)(enc:TypeId×Value->H) :
  ReturnsInHanded {} Tryz.checked os 3 .any (fun w args=>(Rows.topForgedSpec.pre enc Tryz.prog Tryz.f3 [] false w args/\laidMetH Tryz.prog Sz w)/\sizedMet enc Tryz.prog Tryz.f3 (OpenSpec.ofChange Rows.topForgedSpec) false w args)
   (Rows.topForgedSpec.post enc Tryz.prog Tryz.f3 false true false false):=by
 refine afu (C:=Tryz.checked) (boolT:=4) (X:=fun w=>laidMetH Tryz.prog Sz w) (fun _ _ hh h=>h.of_heap hh) Tryz.own started (by kernel_rfl) Tryz.func3
  (ChangeSpec.witness_at (enc:=enc) (C:=Tryz.checked) (os:=os) (X:=fun w _=>laidMetH Tryz.prog Sz w) false (MK os) #[.slice none 0 0,.string ⟨#[]⟩] 8 rfl (by kernel_rfl) (by kernel_rfl) (by kernel_rfl) (by kernel_rfl) (by kernel_rfl) (LA os _))
  Tryz.laidOut rfl Tryz.underlying4 (by kernel_rfl) (of_decide_eq_true (by kernel_rfl)) rfl (fun ds h=>by match ds,h with | [a0,a1],_=>rfl) ?_
 intro W args ds ps hval hA hL;have hA':DataW.TrodAll enc Tryz.prog W 0 (fun _=>true) true [22,9] args.toList ds ps:=hA;obtain⟨v0,v1,d0,d1,p0,p1,rfl,rfl,rfl,h0,h1⟩:=trodAll_two hA';obtain⟨b0,w0⟩:=hval 0 22 v0 rfl rfl;obtain⟨b1,w1⟩:=hval 1 9 v1 rfl rfl;obtain⟨z,c0,o,n,c,f,g,rfl,hn,st0⟩:=adI w0 h0;obtain⟨s1,rfl,rfl,rfl,_⟩:=Go.ChangeMaps.open_string Tryz.underlying9 w1 h1;exact(aij (an3 adx n f g s1.data.toList) Tryz.func3 (by kernel_rfl) (by kernel_rfl) (LV n f g s1.data.toList z o c (aof hn) none) rfl rfl (PJ hL) (b:=fun _=>c0) (ao0 st0):Calls _ _ (SV.vals (fun _=>c0) [.cC 0 2 z o 0 n c,.str false s1.data.toList]).toArray _ _)
theorem He:Rows.TopForgedSaid :=
 OpenClaim.holds_of_wide 3 Tryz.f3 rfl rfl rfl rfl rfl rfl rfl ⟨rfl,rfl,rfl,rfl,rfl⟩ rfl rfl rfl rfl rfl (by kernel_rfl) Tryz.func3 acV
  (of_decide_eq_true (by kernel_rfl)) (by unfold Func.isWrapper;first | (rw[if_pos (by decide +kernel)];kernel_rfl) | (rw[if_neg (by decide +kernel)];exact⟨rfl,rfl⟩))
  (fun os started H enc _=>Fl os started H enc)
theorem topForged_card_holds:Rows.TopForgedCardSaid :=
 Claim7.holds_tied_plain_at .later [] [.handle,.data] true (true, "e3f57dd8ca90c20567e34026e7c0d650d581eddc73cebfa6efdeacfeb53eeaeb") true
  He (fun _ h=>by cases h) (by kernel_rfl) (fun _ h=>by cases h) topForged_row_tie rfl ⟨rfl,rfl⟩ (by kernel_rfl) rfl
  (fun f fn hf hfn=>by
    obtain rfl:f=3:=Option.some.inj ((show Tryz.prog.funcNamed "guilloche/guillochetop.TopForged" = some 3 by kernel_rfl).symm.trans hf) |>.symm;obtain rfl:fn=Tryz.f3:=(Option.some.inj (Tryz.func3.symm.trans hfn)).symm;exact⟨by kernel_rfl,fun j t ht=>by
     rw[Tryz.params3] at ht;have hm:=Array.mem_of_getElem? ht;simp only[List.mem_toArray,List.mem_cons,List.not_mem_nil,or_false] at hm;rcases hm with rfl | rfl
     ·exact(show Tryz.prog.wantsStandIn 22=false by kernel_rfl)
     ·exact(show Tryz.prog.wantsStandIn 9=false by kernel_rfl)⟩)
  alx
#print axioms topForged_card_holds
end Go.Proofs.YtpaaiebohjjieaaGreatDoor
