/-
  Closed runs: contracts with a memory, at arguments that are written out.
-/
import Derived.Test.YtpaaiebohjjieaaGreatDoorMv
import Derived.Test.YtpaaiebohjjieaaGreatDoorMo
import Derived.Test.YtpaaiebohjjieaaGreatDoorMw
namespace Go.Proofs.YtpaaiebohjjieaaGreatDoor.Sx
open Go
def DH:SV->SV->List SV×List SV
 | .bL a,.bL b=>(a,b)
 | u,v=>([u],[v])
theorem Vg {u v:SV}{E E':Nat->Nat}(h:SV.vals E (DH u v).1=SV.vals E' (DH u v).2):u.val E=v.val E':=by
 unfold DH at h;split at h
 ·dsimp only at h;simp only[SV.val,h]
 ·simp only[SV.vals,List.cons.injEq,and_true] at h;exact h
def qB.apT (c:qB)(x:c.G):SV->Mem->Nat->VC:=fun v m _=>(c.ans x).ask fun u back=>(match Pa u v with
 | true=>.fail "call: another way"
 | false=>nR c.n (DH u v).1 (DH u v).2 [] fun aE=>fY c.n m back [] aE fun _=>.tt)
theorem abX {P:Program}{f:FuncId}{pt:PT}(hp:au P f pt)(c:qB)
  (h: ∀ x,c.pre x->c.ok x=true/\aq (pt (c.args x) (c.mem x) c.n (c.apT x))):au P f (kj c):=by
 intro args m nx K hk hwf hargs Γ E w hs;obtain⟨x,hpre,hk⟩:=hk;obtain⟨hok,hrun⟩:=h x hpre;simp only[qB.ok,Bool.and_eq_true] at hok;obtain⟨⟨hlt,hwm⟩,hwa⟩:=hok;obtain⟨ren1,_,hk1,ha⟩:=i4 hk;obtain⟨aE,hle,hk2,hm⟩:=fC hk1;obtain⟨hb0,hi⟩:=hm aE (Ren.le_refl _);revert hk2;cases hrl:KI nx aE with
 | false=>exact fun h=>h.elim
 | true =>
   intro hk2;obtain⟨gm,hform⟩:=hs.aeY hb0 hi (fun kh B' hg=>EG hlt hg);have hc:=hp _ _ _ _ hrun.out hwm hwa _ _ _ hform;rw[ha aE E hle] at hc;refine hc.mono ?_ (fun _ _ h=>h);rintro v w' ⟨E1,u,m1,nx1,g1,g2,g3,g4,g5⟩;cases u with
   | none=>exact g5.elim
   | some u =>
     obtain⟨u0,back,y2,hk3⟩:=lC.meet g5 hk2;revert y2;cases Pa u0 u with
     | true=>exact fun h=>h.elim
     | false =>
     intro y2;obtain⟨r1,_,z1,za⟩:=i4 y2;obtain⟨r2,hle2,_,zm⟩:=fC z1;obtain⟨zb,zi⟩:=zm r2 (Ren.le_refl _);revert hk3;cases hbk:y4 c.N back with
     | false=>exact fun h=>h.elim
     | true =>
       intro hk3;have ht:=g4.told rfl zb zi (fun kh B' h=>(ri hbk h).1);have hE2: ∀ k,k<c.n->Ren.E c.n r2 E1 k=Ren.E 0 aE E k:=fun k hk=>(Ren.BV hk).trans (g1 k hk);obtain⟨hρ,hfin⟩:=hs.back hwf hb0 hrl ht hE2 (fun k B h=>(ri hbk h).2);refine⟨_,some (u0.Xx (tB c.n aE nx)),_,_,fun k hk=>by simp[mH,hk],Nat.le_add_right _ _,fun z hz=> ?_,hfin,hk3⟩;injection hz with hz;subst hz;rw[SV.KJ,show(fun k=>mH nx E (Ren.E c.n r2 E1) (tB c.n aE nx k))=Ren.E c.n r2 E1 from funext hρ,g3 u rfl]
       exact(Vg (za r2 E1 hle2)).symm
end Go.Proofs.YtpaaiebohjjieaaGreatDoor.Sx
namespace Go.Proofs.YtpaaiebohjjieaaGreatDoor
open Go Sx
set_option maxRecDepth 20000
def am0 (k seq at_:Int):List SV:=[.int .i64 true k,zI,zI,.int .i64 true seq,.int .i64 true at_,zS,zS,zI,.aO,zI,zS]
def aii:qB :=
 {G:=Unit,n:=1,N:=4,pre:=fun _=>True,args:=fun _=>[.agg [zI,.int .i64 true 9,zI,zI,zI,zI,zI],.slc 0 0 3 true 3],
  mem:=fun _=>[(0,.cells (am0 0 1 (-1)++am0 3 0 0++am0 2 0 0) 33 68)],
  ans:=fun _=>.all (Nat×Nat×Nat) fun c=>.ret (.bL [.agg [.slc 1 0 3 false c.1,.slc 2 0 1 false c.2.1,.slc 3 0 1 false c.2.2,.aO,zI],zI]) [(3,.cells [.str true BI] (c.2.2*1) 9)]}
noncomputable def alm:VC:=ajJ Wz 18 (aii.args ()) (aii.mem ()) 1 (aii.apT ())
def qC (m:Nat)(t:Tr):Tr:=.r m fun _ _=>t
def te:Tr:=.e (.q True trivial)
def rvL (s o e:Nat):Tr:=.q (∃ c:Nat×Nat×Nat,s=c.1/\o=c.2.1/\e=c.2.2/\af (.cells [.str true BI] (e*1) 9) (.cells [.str true BI] (c.2.2*1) 9)) ⟨(s,o,e),rfl,rfl,rfl,af.refl _⟩
def rvD (x:Nat)(h:1<=x):Tr:=.q (∃ y:Nat,1<=y/\af (.cells [] 0 9) (.cells [] 0 9)/\x=y/\af (.cells B5 (x*7) 66) (.cells B5 (y*7) 66)) ⟨x,h,af.refl _,rfl,af.refl _⟩
def rvX:Tr:=.b (.b (.b te te) te) (.a Unit (.i True (qC 1 (qC 1 (.r 3 fun s _=>.r 1 fun e _=>.b (.b (qC 1 (.b te te)) (qC 1 te)) (.a Unit (.i True (.r 1 fun o _=>rvL s o e))))))))
def rvT:Tr:=qC 0 (qC 1 (.b (.b (.b (.b (.b te te) te) te) te) (.a Unit (.i True (qC 1 (.b (.b (.b te te) te) (.a Unit (.i True (.b (.b (.r 1 rvD) (.r 1 rvD)) (qC 1 (qC 2 rvX)))))))))))
def rvP:Pl:=(.s 3 (.n (.n (.s 10 (.n .k (.s 2 (.n (.s 1 .k) (.n .k .t))))) (.s 10 (.n .k (.s 2 (.n (.s 1 .k) (.n .k .t)))))) (.s 7 (.n (.s 1 .k) (.n (.s 1 .k) (.n (.s 1 .k) (.s 1 .k)))))))
end Go.Proofs.YtpaaiebohjjieaaGreatDoor
