/-
  WirePuts: whether any paper may be, its bytes, what it proves, and whether two are alike, is what the document says: for every input the law returns true.
-/
import Derived.Test.YtoibaecagklkaaaGreatDoorMz
import Derived.Test.YtoibaecagklkaaaGreatDoorNd
import Derived.Test.YtoibaecagklkaaaGreatDoorTie
import Derived.Test.YtoibaecagklkaaaGreatDoorCards
import Derived.SevenTiedAt
open Bool renaming false->d,true->e
open Go.Proofs.Tryz renaming checked->q,f9->g,func9->p,prog->a
namespace Go.Proofs.YtoibaecagklkaaaGreatDoor
section
open Go Sx Go.RowKit Go.WideShapes Go.ChangeShapes
set_option maxRecDepth 100000
theorem zv (os:Os)(started:os.Started)(H:Type)(enc:TypeId×Value->H) :
  ReturnsInHanded {} q os 9 .any (λw args=>(Rows.wirePutsSpec.pre enc a g [] d w args/\laidMetH a HW w)/\sizedMet enc a g (OpenSpec.ofChange Rows.wirePutsSpec) d w args)
   (Rows.wirePutsSpec.post enc a g d e d d):=by
 refine T9 (C:=q) (boolT:=4) (X:=λw=>laidMetH a HW w) (λ_ _ hh h=>h.of_heap hh) Tryz.own started (by kernel_rfl) p
  (ChangeSpec.witness_at (enc:=enc) (C:=q) (os:=os) (X:=λw _=>laidMetH a HW w) d (Dh os) #[.agg #[.int .i64 0,.string ⟨#[]⟩,.string ⟨#[]⟩,.string ⟨#[]⟩,.slice none 0 0],.agg #[.int .i64 0,.string ⟨#[]⟩,.string ⟨#[]⟩,.string ⟨#[]⟩,.slice none 0 0]] 8 rfl (by kernel_rfl) (by kernel_rfl) (by kernel_rfl) (by kernel_rfl) (by kernel_rfl) (Cm os _))
  Tryz.laidOut rfl Tryz.underlying4 (by kernel_rfl) (of_decide_eq_true (by kernel_rfl)) rfl (λds h=>by match ds,h with | [a0,a1],_=>rfl) ?_
 intro W args ds ps hval hA hL;have hA':DataW.TrodAll enc a W 0 (λ_=>e) e [63,63] args.toList ds ps:=hA;obtain⟨v0,v1,d0,d1,p0,p1,rfl,rfl,rfl,h0,h1⟩:=trodAll_two hA';obtain⟨b0,w0⟩:=hval 0 63 v0 rfl rfl;obtain⟨b1,w1⟩:=hval 1 63 v1 rfl rfl;obtain⟨x,z,b,o,c,hv,hst,hn,hc⟩:=CI w0 h0;obtain⟨y,z',b',o',c',hv',hst',_,_⟩:=CI w1 h1;rw[hv 0 (λi=>if i=0 then b else b') rfl,hv' 1 (λi=>if i=0 then b else b') rfl]
 exact(Vz (acZ RH) p (by kernel_rfl) (by kernel_rfl) (Ka x y z z' o o' c c' none none hc (abm hn)) rfl rfl (Fm hL) (abV hst hst'):Calls _ _ (SV.vals (λi=>if i=0 then b else b') [x.sv (.aS 0 1 z o 0 x.n c),y.sv (.aS 1 1 z' o' 0 y.n c')]).toArray _ _)
theorem B9:Rows.WirePutsSaid :=
 OpenClaim.holds_of_wide 9 g rfl rfl rfl rfl rfl rfl rfl ⟨rfl,rfl,rfl,rfl,rfl⟩ rfl rfl rfl rfl rfl (by kernel_rfl) p (by kernel_rfl)
  (of_decide_eq_true (by kernel_rfl)) (by unfold Func.isWrapper;first | (rw[if_pos (by decide +kernel)];kernel_rfl) | (rw[if_neg (by decide +kernel)];exact⟨rfl,rfl⟩))
  (λos started H enc _=>zv os started H enc)
theorem wirePuts_card_holds:Rows.WirePutsCardSaid :=
 Claim7.holds_tied_plain_at .later [] [.handle,.data] e (e, "11537ef47c796b0229796c88f67de9793c9d4ae32d6a58b66263dd2fcd95ace2") e
  B9 (λ_ h=>by cases h) (by kernel_rfl) (λ_ h=>by cases h) wirePuts_row_tie rfl ⟨rfl,rfl⟩ (by kernel_rfl) rfl
  (λf fn hf hfn=>by
    obtain rfl:f=9:=Option.some.inj ((show a.funcNamed "guilloche/guillochelaw13.WirePuts" = some 9 by kernel_rfl).symm.trans hf) |>.symm;obtain rfl:fn=g:=(Option.some.inj (p.symm.trans hfn)).symm;exact⟨by kernel_rfl,λj t ht=>by
     rw[Tryz.params9] at ht;have hm:=Array.mem_of_getElem? ht;simp only[List.mem_toArray,List.mem_cons,List.not_mem_nil,or_false] at hm;rcases hm with rfl | rfl
     ·exact(show a.wantsStandIn 63=d by kernel_rfl)
     ·exact(show a.wantsStandIn 63=d by kernel_rfl)⟩)
  (by kernel_rfl)
#print axioms wirePuts_card_holds
end
end Go.Proofs.YtoibaecagklkaaaGreatDoor
