/-
  Entries, and texts, among a law's arguments; runs with two of these.
-/
import Derived.Test.YtoibaecagklkaaaGreatDoorNa
import Derived.Test.YtoibaecagklkaaaGreatDoorNb
open Go.Proofs.Tryz renaming prog->g
open Option.some renaming inj->p
namespace Go.Proofs.YtoibaecagklkaaaGreatDoor
open Go
variable {W:World}
section
open Go Sx Go.RowKit Go.WideShapes Go.ChangeShapes
set_option maxRecDepth 100000
theorem QV:g.cellsOf 9=1:=by kernel_rfl
theorem Sg {base:Nat}{H:Type}{enc:TypeId×Value->H}{v:Value}{d:DataW H}{ps:List MemPlace}(h:Value.okWide g W .any base 29 v)
  (hd:DataW.Trod enc g W 0 (λ_=>true) true 29 v d ps) :
  ∃(z:Bool) (b o n c:Nat) (f:Nat->e_),v=(SV.aS 0 1 z o 0 n c).val (λ_=>b)/\n<=maxLen/\Stood W b (.view z o n [.str f]):=by
 obtain⟨z,b,o,n,c,hv,hn,hc⟩:=ac8 Tryz.underlying29 h hd;rw[QV] at hv hc;cases hz:z&&Nat.beq n 0 with
 | true=>exact⟨z,b,o,n,c,λ_=>[],hv,hn,λhh=>by rw[show SB.no _=(z&&Nat.beq n 0)from rfl,hz] at hh;cases hh⟩
 | false =>
   obtain⟨cs,ty,fr,hblk,hel⟩:=hc hz;refine⟨z,b,o,n,c,λi=>Ox cs (o+i*1),hv,hn,λ_=>⟨_,hblk,pK λi k col hi hk=> ?_⟩⟩;obtain⟨xs,y,m,hl,hget,ht⟩:=hel i hi;have x0:=hget 0 (by omega);have hx:xs=[xs[0]'(by omega)]:=by
    match xs,hl with
    | [a],_=>rfl
   rw[List.getElem?_eq_getElem (by omega)] at x0;rw[hx] at ht
   match k,hk with
   | 0,hk=>obtain rfl:=p hk;exact(Cz Tryz.underlying9 ht x0).1
theorem MI (hW:p4 W){l:List Seen}{b:Nat->Nat}(h: ∀ i s,l[i]?=some s->Stood W (b i) s.B):aO (bg.at W (λ_=>False) hW (λ_ _ h=>h)) b (e8 0 l) l.length W:=by
 refine⟨λj B a hj hn=> ?_,λj j' B B' a hj hn hj' hn' hr=> ?_,λj B hj=> ?_,λj B a hj hn hro=> ?_,Ext.refl _ _,⟨Nat.zero_le _,λk hk=>absurd hk (Nat.not_lt_zero _)⟩,λD hD=>by cases hD⟩
 ·obtain⟨i,s,e1,e2,rfl⟩:=dY hj;rw[Nat.zero_add] at e1;subst e1;obtain⟨hn1,rfl⟩:=(SB.iH (B:=s.B) rfl).1 hn;obtain⟨ob,g4,g5⟩:=h _ s e2 hn1;exact⟨ob,g4,g5 _⟩
 ·obtain⟨i,s,e1,e2,rfl⟩:=dY hj;rcases hr with hr | hr
  ·cases hr
  ·obtain⟨i',s',e1',e2',rfl⟩:=dY hj';cases hr
 ·obtain⟨i,s,e1,e2,rfl⟩:=dY hj;have:=(List.getElem?_eq_some_iff.1 e2).1;omega
 ·obtain⟨i,s,e1,e2,rfl⟩:=dY hj;cases hro
theorem abV {b0 b1:Nat}{s0 s1:Seen}(h0:Stood W b0 s0.B)(h1:Stood W b1 s1.B): ∀(i:Nat) (s:Seen),[s0,s1][i]?=some s->Stood W (if i=0 then b0 else b1) s.B
 | 0,s,h=>by obtain rfl:=p h;exact h0
 | 1,s,h=>by obtain rfl:=p h;exact h1
 | i+2,s,h=>by simp at h
theorem abm {n:Nat}(h:n<=maxLen):n<9223372036854775808:=by have:n<=9223372036854775807:=h;omega
theorem Vz {cfg:dK}(hg:Sx.Good g cfg){f:FuncId}{fn:Func}(hf:g.funcs[f]?=some fn) (hn:(fn.name== "runtime.NumGoroutine")=false) (hb:fn.body.isSome=true) {args:List SV} {l:List Seen}
  (h:av (fN cfg f fn args l (.ret (.bool false true)))) (hm:Mem.wf l.length (e8 0 l)=true) (hw:SV.e9 l.length args=true)  (hW:p4 W) {b:Nat->Nat} (hs: ∀ i s,l[i]?=some s->Stood W (b i) s.B) :
  Calls g f (SV.vals b args).toArray W λe W'=>e=.returned (.bool true)/\Below W.heap.size W W':=by
 have hc:=dS hg hf hn hb h hm hw (MI hW hs);refine hc.mono ?_;rintro e w' ⟨v,rfl,E',sv,m',nx',_,_,g3,g4,g5⟩;cases sv with
 | none=>exact g5.elim
 | some u =>have hu:aa u (.bool false true):=g5;exact⟨by rw[g3 u rfl,hu E'];rfl,g4.ext.below λ_ h=>h⟩
end
end Go.Proofs.YtoibaecagklkaaaGreatDoor
