/-
  SpanTurned: nodes that are turned prove nothing: for every input the law returns true.
-/
import Derived.Test.YtoibaecagklkaaaGreatDoorNd
import Derived.Test.YtoibaecagklkaaaGreatDoorMz
import Derived.Test.YtoibaecagklkaaaGreatDoorTie
import Derived.Test.YtoibaecagklkaaaGreatDoorCards
import Derived.SevenTiedAt
open Bool renaming false->a,true->e
open Go.ChangeMaps renaming open_string->q
open Go.Proofs.Tryz renaming checked->p,f6->i,func6->m,prog->d,underlying5->s,underlying9->u
namespace Go.Proofs.YtoibaecagklkaaaGreatDoor
open Go Sx Go.RowKit Go.WideShapes Go.ChangeShapes
set_option maxRecDepth 100000
theorem wk (os:Os)(started:os.Started)(H:Type)(enc:TypeId×Value->H) :
  ReturnsInHanded {} p os 6 .any (λw args=>(Rows.spanTurnedSpec.pre enc d i [] a w args/\laidMetH d qS w)/\sizedMet enc d i (OpenSpec.ofChange Rows.spanTurnedSpec) a w args)
   (Rows.spanTurnedSpec.post enc d i a e a a):=by
 refine Bo (C:=p) (boolT:=4) (X:=λw=>laidMetH d qS w) (λ_ _ hh h=>h.of_heap hh) Tryz.own started (by kernel_rfl) m
  (ChangeSpec.witness_at (enc:=enc) (C:=p) (os:=os) (X:=λw _=>laidMetH d qS w) a (sr os) #[.slice none 0 0,.string ⟨#[]⟩,.string ⟨#[]⟩,.int .u8 0,.int .u8 0] 8 rfl (by kernel_rfl) (by kernel_rfl) (by kernel_rfl) (by kernel_rfl) (by kernel_rfl) (m9 os _))
  Tryz.laidOut rfl Tryz.underlying4 (by kernel_rfl) (of_decide_eq_true (by kernel_rfl)) rfl (λds h=>by match ds,h with | [a0,a1,a2,a3,a4],_=>rfl) ?_
 intro W args ds ps hval hA hL;have hA':DataW.TrodAll enc d W 0 (λ_=>e) e [22,9,9,5,5] args.toList ds ps:=hA;obtain⟨v0,vs0,d0,ds0,p0,q0,hargs,rfl,rfl,h0,r0⟩:=trodAll_cons hA';obtain⟨v1,vs1,d1,ds1,p1,q1,rfl,rfl,rfl,h1,r1⟩:=trodAll_cons r0;obtain⟨v2,vs2,d2,ds2,p2,q2,rfl,rfl,rfl,h2,r2⟩:=trodAll_cons r1;obtain⟨v3,vs3,d3,ds3,p3,q3,rfl,rfl,rfl,h3,r3⟩:=trodAll_cons r2;obtain⟨v4,vs4,d4,ds4,p4,q4,rfl,rfl,rfl,h4,r4⟩:=trodAll_cons r3;obtain⟨rfl,rfl,rfl⟩:=trodAll_nil r4;obtain rfl:args=#[v0,v1,v2,v3,v4]:=by cases args;simp_all
 obtain⟨b0,w0⟩:=hval 0 22 v0 rfl rfl;obtain⟨b1,w1⟩:=hval 1 9 v1 rfl rfl;obtain⟨b2,w2⟩:=hval 2 9 v2 rfl rfl;obtain⟨b3,w3⟩:=hval 3 5 v3 rfl rfl;obtain⟨b4,w4⟩:=hval 4 5 v4 rfl rfl;obtain⟨z,c0,o,n,c,f,g,rfl,hn,st0⟩:=Ar w0 h0;obtain⟨s1,rfl,rfl,rfl,_⟩:=q u w1 h1;obtain⟨s2,rfl,rfl,rfl,_⟩:=q u w2 h2;obtain⟨x3,rfl,rfl,rfl,e3⟩:=open_int s w3 h3;obtain⟨x4,rfl,rfl,rfl,e4⟩:=open_int s w4 h4;exact(Cn (ZF (dc n f g s1.data.toList s2.data.toList) (br n f g) x4) m (by kernel_rfl) (by kernel_rfl) (Cy n f g (Ll hn) z o c s1.data.toList s2.data.toList x3 x4 (Ys e3) (Ys e4) none) rfl rfl (oU hL) (b:=λ_=>c0) (Mt st0):Calls _ _ (SV.vals (λ_=>c0) [.bS 0 2 z o 0 n c,.str a s1.data.toList,.str a s2.data.toList,.int .u8 a x3,.int .u8 a x4]).toArray _ _)
theorem ym:Rows.SpanTurnedSaid :=
 OpenClaim.holds_of_wide 6 i rfl rfl rfl rfl rfl rfl rfl ⟨rfl,rfl,rfl,rfl,rfl⟩ rfl rfl rfl rfl rfl (by kernel_rfl) m (by kernel_rfl)
  (of_decide_eq_true (by kernel_rfl)) (by unfold Func.isWrapper;first | (rw[if_pos (by decide +kernel)];kernel_rfl) | (rw[if_neg (by decide +kernel)];exact⟨rfl,rfl⟩))
  (λos started H enc _=>wk os started H enc)
theorem spanTurned_card_holds:Rows.SpanTurnedCardSaid :=
 Claim7.holds_tied_plain_at .later [] [.handle,.data] e (e, "11537ef47c796b0229796c88f67de9793c9d4ae32d6a58b66263dd2fcd95ace2") e
  ym (λ_ h=>by cases h) (by kernel_rfl) (λ_ h=>by cases h) spanTurned_row_tie rfl ⟨rfl,rfl⟩ (by kernel_rfl) rfl
  (λf fn hf hfn=>by
    obtain rfl:f=6:=Option.some.inj ((show d.funcNamed "guilloche/guillochelaw12.SpanTurned" = some 6 by kernel_rfl).symm.trans hf) |>.symm;obtain rfl:fn=i:=(Option.some.inj (m.symm.trans hfn)).symm;exact⟨by kernel_rfl,λj t ht=>by
     rw[Tryz.params6] at ht;have hm:=Array.mem_of_getElem? ht;simp only[List.mem_toArray,List.mem_cons,List.not_mem_nil,or_false] at hm;rcases hm with rfl | rfl | rfl | rfl | rfl
     ·exact(show d.wantsStandIn 22=a by kernel_rfl)
     ·exact(show d.wantsStandIn 9=a by kernel_rfl)
     ·exact(show d.wantsStandIn 9=a by kernel_rfl)
     ·exact(show d.wantsStandIn 5=a by kernel_rfl)
     ·exact(show d.wantsStandIn 5=a by kernel_rfl)⟩)
  (by kernel_rfl)
#print axioms spanTurned_card_holds
end Go.Proofs.YtoibaecagklkaaaGreatDoor
