/-
  SpanSound: what is believed are just the entries of the range, or two texts collide, that are told: for every input the law returns true.
-/
import Derived.Test.YtoibaecagklkaaaGreatDoorMx
import Derived.Test.YtoibaecagklkaaaGreatDoorMy
import Derived.Test.YtoibaecagklkaaaGreatDoorTie
import Derived.Test.YtoibaecagklkaaaGreatDoorCards
import Derived.SevenTiedAt
namespace Go.Proofs.YtoibaecagklkaaaGreatDoor
open Go Sx Go.RowKit Go.WideShapes Go.ChangeShapes
set_option maxRecDepth 100000
theorem uk (os:Os)(started:os.Started)(H:Type)(enc:TypeId×Value->H) :
  ReturnsInHanded {} Tryz.checked os 4 .any (fun w args=>(Rows.spanSoundSpec.pre enc Tryz.prog Tryz.f4 [] false w args/\laidMetH Tryz.prog F6 w)/\sizedMet enc Tryz.prog Tryz.f4 (OpenSpec.ofChange Rows.spanSoundSpec) false w args)
   (Rows.spanSoundSpec.post enc Tryz.prog Tryz.f4 false true false false):=by
 refine Po (C:=Tryz.checked) (boolT:=4) (X:=fun w=>laidMetH Tryz.prog F6 w) (fun _ _ hh h=>h.of_heap hh) Tryz.own started (by kernel_rfl) Tryz.func4
  (ChangeSpec.witness_at (enc:=enc) (C:=Tryz.checked) (os:=os) (X:=fun w _=>laidMetH Tryz.prog F6 w) false (BZ os) #[.slice none 0 0,.string ⟨#[]⟩,.string ⟨#[]⟩,.slice none 0 0] 8 rfl (by kernel_rfl) (by kernel_rfl) (by kernel_rfl) (by kernel_rfl) (by kernel_rfl) (AL os _))
  Tryz.laidOut rfl Tryz.underlying4 (by kernel_rfl) (of_decide_eq_true (by kernel_rfl)) rfl (fun ds h=>by match ds,h with | [a0,a1,a2,a3],_=>rfl) ?_
 intro W args ds ps hval hA hL
 have hA':DataW.TrodAll enc Tryz.prog W 0 (fun _=>true) true [22,9,9,29] args.toList ds ps:=hA
 obtain⟨v0,v1,v2,v3,d0,d1,d2,d3,p0,p1,p2,p3,rfl,rfl,rfl,h0,h1,h2,h3⟩:=trodAll_four hA'
 obtain⟨b0,w0⟩:=hval 0 22 v0 rfl rfl
 obtain⟨b1,w1⟩:=hval 1 9 v1 rfl rfl
 obtain⟨b2,w2⟩:=hval 2 9 v2 rfl rfl
 obtain⟨b3,w3⟩:=hval 3 29 v3 rfl rfl
 obtain⟨z,c0,o,n,c,f,g,rfl,hn,st0⟩:=Nf w0 h0
 obtain⟨s1,rfl,rfl,rfl,_⟩:=Go.ChangeMaps.open_string Tryz.underlying9 w1 h1
 obtain⟨s2,rfl,rfl,rfl,_⟩:=Go.ChangeMaps.open_string Tryz.underlying9 w2 h2
 obtain⟨z1,c3,o1,m,d1,h,rfl,hm,st3⟩:=Oy w3 h3
 exact(Rj VF Tryz.func4 (by kernel_rfl) (by kernel_rfl) (AE ⟨n,f,g,z,o,c,s1.data.toList,s2.data.toList,m,h,z1,o1,d1⟩ (U' hn) none none) rfl rfl (C4 hL) (b:=fun k=>if k=0 then c0 else c3) (VQ st0 st3):Calls _ _ (SV.vals (fun k=>if k=0 then c0 else c3) [.bP 0 2 z o 0 n c,.str false s1.data.toList,.str false s2.data.toList,.bP 1 1 z1 o1 0 m d1]).toArray _ _)
theorem wM:Rows.SpanSoundSaid :=
 OpenClaim.holds_of_wide 4 Tryz.f4 rfl rfl rfl rfl rfl rfl rfl ⟨rfl,rfl,rfl,rfl,rfl⟩ rfl rfl rfl rfl rfl (by kernel_rfl) Tryz.func4 (by kernel_rfl)
  (of_decide_eq_true (by kernel_rfl)) (by unfold Func.isWrapper;first | (rw[if_pos (by decide +kernel)];kernel_rfl) | (rw[if_neg (by decide +kernel)];exact⟨rfl,rfl⟩))
  (fun os started H enc _=>uk os started H enc)
theorem spanSound_card_holds:Rows.SpanSoundCardSaid :=
 Claim7.holds_tied_plain_at .later [] [.handle,.data] true (true, "11537ef47c796b0229796c88f67de9793c9d4ae32d6a58b66263dd2fcd95ace2") true
  wM (fun _ h=>by cases h) (by kernel_rfl) (fun _ h=>by cases h) spanSound_row_tie rfl ⟨rfl,rfl⟩ (by kernel_rfl) rfl
  (fun f fn hf hfn=>by
    obtain rfl:f=4:=Option.some.inj ((show Tryz.prog.funcNamed "guilloche/guillochelaw12.SpanSound" = some 4 by kernel_rfl).symm.trans hf) |>.symm
    obtain rfl:fn=Tryz.f4:=(Option.some.inj (Tryz.func4.symm.trans hfn)).symm
    exact⟨by kernel_rfl,fun j t ht=>by
     rw[Tryz.params4] at ht
     have hm:=Array.mem_of_getElem? ht
     simp only[List.mem_toArray,List.mem_cons,List.not_mem_nil,or_false] at hm
     rcases hm with rfl | rfl | rfl | rfl
     ·exact(show Tryz.prog.wantsStandIn 22=false by kernel_rfl)
     ·exact(show Tryz.prog.wantsStandIn 9=false by kernel_rfl)
     ·exact(show Tryz.prog.wantsStandIn 9=false by kernel_rfl)
     ·exact(show Tryz.prog.wantsStandIn 29=false by kernel_rfl)⟩)
  (by kernel_rfl)
#print axioms spanSound_card_holds
end Go.Proofs.YtoibaecagklkaaaGreatDoor
