/-
  Rlp: the first item: the contract.
-/
import Derived.Test.YtpaaiebohjjieaaGreatDoorMi
import Derived.Test.YtpaaiebohjjieaaGreatDoorProg
import Derived.Shelf.Strings.OnBuilder
namespace Go.Proofs.YtpaaiebohjjieaaGreatDoor
open Go Sx
set_option maxRecDepth 20000
theorem Hz {s:List UInt8}(h:ai s 0<192):lead s=ai s 0 - 128:=if_pos h
theorem Hy {s:List UInt8}(h: ¬ ai s 0<192):lead s=ai s 0 - 192:=if_neg h
theorem gZ {s:List UInt8}:cA s=true↔s≠[]/\(ai s 0<128∨(¬ ai s 0<128/\55<lead s/\uc s (lead s - 54)=true/\part s (lead s - 54)<=s.length - (lead s - 54))∨(¬ ai s 0<128/\¬ 55<lead s/\lead s<=s.length - 1/\¬ (ai s 0<192/\lead s=1/\ai s 1<128))):=by
 unfold cA VS cutFrom;by_cases hA:ai s 0<128
 ·simp[hA]
 ·by_cases hL:55<lead s
  ·have:lead s≠1:=by omega
   simp[hA,hL,this]
  ·simp[hA,hL];intro _ _;omega
theorem UT {a a':Bool}{b b' c c':List UInt8}{l1 l2 l3 l4 l5 l6:Bool}(h1:a=a')(h2:b=b')(h3:c=c'):ah (.bL [.bool l1 a,.str l2 b,.str l3 c,.aZ]) (.bL [.bool l4 a',.str l5 b',.str l6 c',.aZ]):=by subst h1;subst h2;subst h3;exact fun _=>rfl
theorem qQ {s:List UInt8}(h:ai s 0<128):dD s=false/\aa s=s.take 1/\aC s=s.drop 1:=by refine⟨by simp[dD];omega,?_,?_⟩<;>simp[aa,aC,cutFrom,VS,h]
theorem vn {s:List UInt8}(h: ¬ ai s 0<128)(h2: ¬ 55<lead s):aa s=(s.drop (1:Int).toNat).take (lead s).toNat/\aC s=s.drop (1+lead s).toNat:=by constructor<;>simp[aa,aC,cutFrom,VS,h,h2]
theorem rq {s:List UInt8}(h: ¬ ai s 0<128)(h2:55<lead s):aa s=(s.drop (lead s - 54).toNat).take (part s (lead s - 54)).toNat/\aC s=s.drop (lead s - 54+part s (lead s - 54)).toNat:=by constructor<;>simp[aa,aC,cutFrom,VS,h,h2]
theorem aa6 {s:List UInt8}(hs:s.length<9223372036854775808):aq (jy adR 195 Tryz.f195 [.str false s] (anl s)):=by
 refine aq.j7 (aqs s) (by delta Fk Bk I6 Ix Er NI cn jc jV fI bf aF bC bx JX QJ bh bP qg F4 ak jX rO Az cR N1 cY aI aL bH gi cS dG lV pW fK iV N3 EY EZ C0 J2 C6 wM C' yg oe pU jx ahq Gr ahH Ut ax dM iG eX sX gQ;exact rfl) ?_;have g0:=eO s 0;have g1:=eO s 1;have g2:=zA s (lead s - 54);by_cases h0:s=[]
 ·have hB:cA s=false:=by rw[Bool.eq_false_iff,ne_eq,gZ];simp[h0]
  simp only[h0,decide_true,forall_const,Bool.true_eq_false,false_imp_iff,and_true];rw[h0] at hB;simp only[hB,Bool.false_eq_true,false_imp_iff,forall_const,true_and]
  (first | exact⟨_,af.cells (fun _=>rfl) rfl,fun _=>rfl⟩ | exact fun _=>rfl | trivial)
 have hl:0<s.length:=List.length_pos_iff.2 h0;by_cases hA:ai s 0<128
 ·have hB:cA s=true:=gZ.2 ⟨h0,.inl hA⟩;obtain⟨k1,k2,k3⟩:=qQ hA;simp only[h0,hA,hB,decide_true,decide_false,forall_const,Bool.true_eq_false,Bool.false_eq_true,false_imp_iff,and_true,true_and,eK];refine⟨by omega,by omega,by omega,?_⟩;exact UT k1.symm (by rw[k2];rfl) (by rw[k3];rfl)
 ·have e2:1+lead s - 55=lead s - 54:=by omega
  by_cases hC:ai s 0<192
  ·have e3:dD s=false:=by simp[dD];omega
   have e1:(ai s 0 - 128)% 256=lead s:=by rw[Hz hC];omega
   have e4:=Hz hC;by_cases hL:55<lead s
   ·obtain⟨k1,k2⟩:=rq hA hL;have hB:cA s=(uc s (lead s - 54)&&decide (part s (lead s - 54)<=s.length - (lead s - 54))):=by rw[Bool.eq_iff_iff,gZ];simp[h0,hA,hL]
    simp only[h0,hA,hC,hL,hB,e1,e2,decide_true,decide_false,forall_const,Bool.true_eq_false,Bool.false_eq_true,false_imp_iff,and_true,true_and,eK];cases hb:uc s (lead s - 54)with
    | false=>simp only[Bool.false_and,Bool.false_eq_true,false_imp_iff,forall_const,true_and];(repeat' first | apply And.intro | intro (_:_=true) | intro (_:_=false) | intro (_:Int))<;>first | omega | (first | exact⟨_,af.cells (fun _=>rfl) rfl,fun _=>rfl⟩ | exact fun _=>rfl | trivial)
    | true =>
      have hb':=lI.1 hb;have hn: ¬ part s (lead s - 54)=1:=by omega
      simp only[hn,decide_false,Bool.true_and,Bool.true_eq_false,Bool.false_eq_true,false_imp_iff,forall_const,true_and,and_true]
      (repeat' first | apply And.intro | intro (_:_=true) | intro (_:_=false) | intro (_:Int))
      all_goals simp only[decide_eq_true_eq,decide_eq_false_iff_not,Int.not_lt,Int.not_le] at *
      all_goals first
       | omega
       | (refine UT ?_ ?_ ?_
          ·simp[e3]
          ·rw[k1,show(lead s - 54+part s (lead s - 54)).toNat - (lead s - 54).toNat=(part s (lead s - 54)).toNat by omega]
          ·rw[k2])
       | (first | exact⟨_,af.cells (fun _=>rfl) rfl,fun _=>rfl⟩ | exact fun _=>rfl | trivial)
   ·obtain⟨k1,k2⟩:=vn hA hL;have hB:cA s=(decide (lead s<=s.length - 1)&& !(decide (ai s 0<192)&&decide (lead s=1)&&decide (ai s 1<128))):=by
     rw[Bool.eq_iff_iff,gZ];simp[h0,hA,hL,hC]
     try (intro _;omega)
    simp only[h0,hA,hC,hL,hB,e1,e2,decide_true,decide_false,forall_const,Bool.true_eq_false,Bool.false_eq_true,false_imp_iff,and_true,true_and,eK]
    (repeat' first | apply And.intro | intro (_:_=true) | intro (_:_=false) | intro (_:Int))
    all_goals simp only[decide_eq_true_eq,decide_eq_false_iff_not,Int.not_lt,Int.not_le,Bool.and_eq_true,Bool.and_eq_false_iff,Bool.not_eq_true',Bool.not_eq_false',Bool.true_and,Bool.false_and] at *
    all_goals first
     | omega
     | (refine UT ?_ ?_ ?_
        ·simp[e3]
        ·rw[k1,show(1+lead s).toNat - (1:Int).toNat=(lead s).toNat by omega]
        ·rw[k2])
     | (first | exact⟨_,af.cells (fun _=>rfl) rfl,fun _=>rfl⟩ | exact fun _=>rfl | trivial)
  ·have e3:dD s=true:=by simp[dD];omega
   have e1:(ai s 0 - 192)% 256=lead s:=by rw[Hy hC];omega
   have e4:=Hy hC;by_cases hL:55<lead s
   ·obtain⟨k1,k2⟩:=rq hA hL;have hB:cA s=(uc s (lead s - 54)&&decide (part s (lead s - 54)<=s.length - (lead s - 54))):=by rw[Bool.eq_iff_iff,gZ];simp[h0,hA,hL]
    simp only[h0,hA,hC,hL,hB,e1,e2,decide_true,decide_false,forall_const,Bool.true_eq_false,Bool.false_eq_true,false_imp_iff,and_true,true_and,eK];cases hb:uc s (lead s - 54)with
    | false=>simp only[Bool.false_and,Bool.false_eq_true,false_imp_iff,forall_const,true_and];(repeat' first | apply And.intro | intro (_:_=true) | intro (_:_=false) | intro (_:Int))<;>first | omega | (first | exact⟨_,af.cells (fun _=>rfl) rfl,fun _=>rfl⟩ | exact fun _=>rfl | trivial)
    | true =>
      have hb':=lI.1 hb;have hn: ¬ part s (lead s - 54)=1:=by omega
      simp only[Bool.true_and,Bool.true_eq_false,false_imp_iff,forall_const,and_true]
      (repeat' first | apply And.intro | intro (_:_=true) | intro (_:_=false) | intro (_:Int))
      all_goals simp only[decide_eq_true_eq,decide_eq_false_iff_not,Int.not_lt,Int.not_le] at *
      all_goals first
       | omega
       | (refine UT ?_ ?_ ?_
          ·simp[e3]
          ·rw[k1,show(lead s - 54+part s (lead s - 54)).toNat - (lead s - 54).toNat=(part s (lead s - 54)).toNat by omega]
          ·rw[k2])
       | (first | exact⟨_,af.cells (fun _=>rfl) rfl,fun _=>rfl⟩ | exact fun _=>rfl | trivial)
   ·obtain⟨k1,k2⟩:=vn hA hL;have hB:cA s=(decide (lead s<=s.length - 1)&& !(decide (ai s 0<192)&&decide (lead s=1)&&decide (ai s 1<128))):=by
     rw[Bool.eq_iff_iff,gZ];simp[h0,hA,hL,hC]
     try (intro _;omega)
    simp only[h0,hA,hC,hL,hB,e1,e2,decide_true,decide_false,forall_const,Bool.false_eq_true,false_imp_iff,true_and,eK]
    (repeat' first | apply And.intro | intro (_:_=true) | intro (_:_=false) | intro (_:Int))
    all_goals simp only[decide_eq_true_eq,decide_eq_false_iff_not,Int.not_lt,Int.not_le,Bool.and_eq_true,Bool.and_eq_false_iff,Bool.true_and,Bool.false_and,Bool.not_false,Bool.true_eq_false,or_false] at *
    all_goals first
     | omega
     | (refine UT ?_ ?_ ?_
        ·simp[e3]
        ·rw[k1,show(1+lead s).toNat - (1:Int).toNat=(lead s).toNat by omega]
        ·rw[k2])
     | (first | exact⟨_,af.cells (fun _=>rfl) rfl,fun _=>rfl⟩ | exact fun _=>rfl | trivial)
def Pf:List SV->Option (Prop×b7)
 | [.str false s]=>some (s.length<9223372036854775808,anl s)
 | _=>none
noncomputable def amm:PT:=bW Pf
theorem aeB:au Tryz.prog 195 amm:=by
 refine fE (n:=20) (fn:=Tryz.f195) Tryz.func195 (by kernel_rfl) (by kernel_rfl) ?_;intro args p a h hp;unfold Pf at h;split at h
 ·rename_i s;injection h with h;injection h with h1 h2;subst h1;subst h2;refine⟨_,ams,rfl,fun b=> ?_,aa6 hp⟩;cases b
  ·exact Ml rfl
  ·exact rfl
 ·cases h
def cP (base:Int)(n:Nat):List UInt8:=if n<=55 then [UInt8.ofNat (base+n).toNat] else UInt8.ofNat (base+55+(digits n).length).toNat::digits n
def aB (b:List UInt8):List UInt8:=if b.length=1/\ai b 0<128 then b else cP 128 b.length++b
theorem Pn (k:Nat)(n:Int):(Ls k n).length<=k:=by
 induction k generalizing n with
 | zero=>simp[Ls]
 | succ k ih =>
   unfold Ls;split
   ·have:=ih (n / 256);simp only[List.length_append,List.length_cons,List.length_nil];omega
   ·simp
theorem ru (n:Int):(digits n).length<=8:=Pn 8 n
theorem Wg {base n:Int}(h0:0<=base)(h1:base<=192)(h2:0<=n)(h3:n<1152921504606846976):aq (fS adR 78 Tryz.f78 [.int .u8 false base,.int .i64 false n] (fun v=>ah v (.str false (cP base n.toNat)))):=by
 refine aq.j7 (ao8 base n _) (by delta Fk Ix NI jc eS jV fI bh ak eI ax rT Ob;exact rfl) ?_;have e:n% 18446744073709551616=n:=by omega
 have e1:((n.toNat:Nat):Int)=n:=by omega
 have hd:=ru n;rw[e];refine⟨fun h=>kP ?_,fun h=>⟨by omega,by omega,kP ?_⟩⟩
 ·simp only[decide_eq_true_eq] at h;unfold cP;rw[if_pos (by omega),e1];congr 3;omega
 ·simp only[decide_eq_false_iff_not] at h;unfold cP;rw[if_neg (by omega),e1];simp only[cat,List.cons_append,List.nil_append];congr 3;omega
def xF:List SV->Option (Prop×SV)
 | [.int .u8 false base,.int .i64 false n]=>some ((0<=base/\base<=192)/\0<=n/\n<1152921504606846976,.str false (cP base n.toNat))
 | _=>none
noncomputable def afc:PT:=aT xF
theorem PU:au Tryz.prog 78 afc:=by
 refine kU ams (n:=20) (fn:=Tryz.f78) Tryz.func78 (by kernel_rfl) (by kernel_rfl) ?_;intro args p r h hp;unfold xF at h;split at h
 ·injection h with h;injection h with h1 h2;subst h1;subst h2;exact⟨rfl,rfl,Wg hp.1.1 hp.1.2 hp.2.1 hp.2.2⟩
 ·cases h
noncomputable def afC:List (FuncId×PT):=(195,amm)::(78,afc)::afB
theorem SM:aU Tryz.prog (fun f=>aA f afC):=.cons aeB (bX _) (.cons PU (aN _) SL)
noncomputable def adS:gF:={cF with cM:=fun f=>aA f afC}
theorem amt:Sx.Good Tryz.prog adS:=.of bO SM bt
def XO (s:List UInt8):b7:=.fork (cA s) fun b=>match b with
 | true=>.ret (.bL [.bool false (dD s),.str false (aa s),.str false (aC s),.int .i64 true 0])
 | false=>.ret (.bL [.bool true false,.str true [],.str true [],.int .i64 true 2])
section
variable (n : Nat) (s : List UInt8) (p q r : Prop) (a : Int) (v w : SV) (x : Bool) (y : SV -> Prop)
abbrev vT:=bx 2
abbrev fj:=ah v v
abbrev Uh:=SV.bL (aF fK cn (aF cn vT List.nil))
abbrev cr:=n<9223372036854775808
abbrev aS:=p/\Bk x q r
abbrev dj:=cr (List.length s)
abbrev dY:=Bk x p (ah v w)
abbrev gk:=0<=a/\p
abbrev uH:=Ix a 1152921504606846976
abbrev ahj:=ak (gk ((128:Int)<=192) 128/\uH (bP s)) (eI (bh (cP 128 (Int.toNat (bP s)))+bP s)) (y (ax (cat (cP 128 (Int.toNat (bP s))) s)))
end
theorem apk (b:List UInt8)(R:SV->Prop):VC.holds (fS adS 39 Tryz.f39 [.str false b] R)=(cS (lV b 0/\bf (R (ax b)) (ahj b R) (iV b) 128) (ahj b R) (bP b) 1):=by kernel_rfl
theorem alX (s:List UInt8):VC.holds (jy adS 138 Tryz.f138 [.str false s] (XO s))=((fun(a:SV)=>aS (dj s) (dY (fj a) a Uh (cA s)) (∀(_:Int),dY (ah Uh a) Uh Uh (cA s)) (cA s)) (cY (dM (dD s)) (aF (ax (aa s)) (ax (aC s)) k6))):=by kernel_rfl
theorem xH (base:Int)(n:Nat):(cP base n).length<=9:=by unfold cP;have:=ru n;split<;>simp only[List.length_cons,List.length_nil]<;>omega
theorem q7 {b:List UInt8}(h: ¬ (b.length=1/\ai b 0<128)):aB b=cP 128 b.length++b:=if_neg h
theorem XW {b:List UInt8}(hb:b.length<1152921504606846976):aq (fS adS 39 Tryz.f39 [.str false b] (fun v=>ah v (.str false (aB b)))):=by
 refine aq.j7 (apk b _) (by delta Fk Ix NI bf bh bP ak eI cS lV iV ax gk uH ahj;exact rfl) ?_;have hl:=xH 128 b.length;simp only[Int.toNat_natCast];refine⟨fun h=>⟨by simp at h;omega,fun h2=>kP ?_,fun h2=>⟨by omega,by omega,kP ?_⟩⟩,fun h=>⟨by omega,by omega,kP ?_⟩⟩
 ·simp at h h2;exact(if_pos ⟨by omega,h2⟩).symm
 ·simp only[decide_eq_false_iff_not] at h2;exact(q7 fun x=>h2 x.2).symm
 ·simp only[decide_eq_false_iff_not] at h;exact(q7 fun x=>h (by omega)).symm
def yL:List SV->Option (Prop×SV)
 | [.str false b]=>some (b.length<1152921504606846976,.str false (aB b))
 | _=>none
noncomputable def aiA:PT:=aT yL
theorem Rc:au Tryz.prog 39 aiA:=by
 refine kU amt (n:=20) (fn:=Tryz.f39) Tryz.func39 (by kernel_rfl) (by kernel_rfl) ?_;intro args p r h hp;unfold yL at h;split at h
 ·injection h with h;injection h with h1 h2;subst h1;subst h2;exact⟨rfl,rfl,XW hp⟩
 ·cases h
theorem U4 {s:List UInt8}(hs:s.length<9223372036854775808):aq (jy adS 138 Tryz.f138 [.str false s] (XO s)):=by
 refine aq.j7 (alX s) (by delta Bk cn aF bx k6 cY fK ax dM vT fj Uh cr aS dj dY;exact rfl) ?_;cases cA s with
 | true=>exact⟨hs,fun _=>⟨fun _ _=>rfl,(fun h=>by cases h)⟩,fun h=>by cases h⟩
 | false=>exact⟨hs,(fun h=>by cases h),fun _ _=>⟨(fun h=>by cases h),fun _ _=>rfl⟩⟩
def uW:List SV->Option (Prop×b7)
 | [.str false s]=>some (s.length<9223372036854775808,XO s)
 | _=>none
noncomputable def aaC:PT:=bW uW
theorem K5:au Tryz.prog 138 aaC:=by
 refine fE (n:=20) (fn:=Tryz.f138) Tryz.func138 (by kernel_rfl) (by kernel_rfl) ?_;intro args p a h hp;unfold uW at h;split at h
 ·rename_i s;injection h with h;injection h with h1 h2;subst h1;subst h2;refine⟨_,amt,rfl,fun b=> ?_,U4 hp⟩;cases b<;>exact rfl
 ·cases h
noncomputable def afD:List (FuncId×PT):=(39,aiA)::(138,aaC)::afC
theorem SN:aU Tryz.prog (fun f=>aA f afD):=.cons Rc (aN _) (.cons K5 (bX _) SM)
def qF (s:List UInt8):Bool:=cA s&& !dD s&&decide (aC s=[])&&decide ((aa s).length<=8)&& !(decide (aa s≠[])&&decide (ai (aa s) 0=0))
def anu (s:List UInt8):b7:=.fork (qF s) fun b=>match b with
 | true=>.ret (.bL [.int .u64 false (num (aa s)),.int .i64 true 0])
 | false=>.ret (.bL [.int .u64 true 0,.int .i64 true 2])
noncomputable def am8 (l:List UInt8):bp :={α:=Int,pre:=fun _ i=>0<=i/\i<=l.length,sM:=fun _ i=>(l.length - i).toNat,fresh:=0,slots:=fun _ i=>[(8,.int .u64 false (num (l.take i.toNat))),(42,.int .i64 false i)],mem:=fun _ _=>[]}
noncomputable def aj1 (l:List UInt8):gF:={cF with cM:=fun f=>aA f afD,aR:=fun f=>if f=68 then [(10,always (am8 l))] else []}
theorem amv (l:List UInt8):Sx.Good Tryz.prog (aj1 l):=.of bO SN bt
section
variable (n : Nat) (s : List UInt8) (p q : Prop) (a : Int) (v w : SV) (x : Bool) (y : List SV)
abbrev yq:=List.length (aa s)
abbrev F3:=NI (yq s)
abbrev ZU:=rT (num (List.take (Int.toNat a) (aa s))*256)
abbrev fo:=Ix a (NI n)
abbrev aan:=a<=18446744073709551615
abbrev jg:=gi v w k6
abbrev rV:=SV.int IntKind.u64 false a
abbrev ahJ:=(∃(a:Int),kG (gk (a<=F3 s) a) (0=num (List.take (Int.toNat a) (aa s))) (0=a))/\(∀(a:Int),gk (a<=F3 s) a->bf (aI (fo (yq s) a) (gk (aan (ai (aa s) a)) (ai (aa s) a)) (aL (0<=ZU s a) (aan (ZU s a)) (0<=ai (aa s) a) (aan (ai (aa s) a))) (I6 (a+1)) (∃(b:Int),kG (gk (b<=NI (yq s)) b/\yu (NI (yq s)) b<yu (NI (yq s)) a) (iS (ZU s a) (ai (aa s) a)=num (List.take (Int.toNat b) (aa s))) (a+1=b))) (Bk (qF s) (jg (rV (num (List.take (Int.toNat a) (aa s)))) v) (jg (rV (num (List.take (Int.toNat a) (aa s)))) w)) a (F3 s))
abbrev bn:=Bk (not x) p q
abbrev cQ:=SV.bL (aF v w y)
abbrev dX:=decide (s=[])
abbrev fV:=cY v k6
abbrev k8:=n<1152921504606846976
abbrev ij:=k8 (List.length s)
end
theorem aqu (s:List UInt8):VC.holds (jy (aj1 (aa s)) 68 Tryz.f68 [.str false s] (anu s))=((fun(a:SV)=>(fun(b:SV)=>aS (dj s) (Bk (dD s) (jx (fj a) a b (qF s)) (bn (jx (fj a) a b (qF s)) (bf (jx (fj a) a b (qF s)) (bn (Ix 0 (F3 s)/\cS (jx (fj a) a b (qF s)) (ahJ s b a) (iV (aa s)) 0) (ahJ s b a) (dX (aa s))) 8 (F3 s)) (dX (aC s)))) (jx (fj a) a b (qF s)) (cA s)) (fV (rV (num (aa s))))) (cQ (SV.int IntKind.u64 true 0) vT List.nil)):=by kernel_rfl
theorem aqw (n:Int)(R:SV->Prop):VC.holds (fS (aj1 []) 96 Tryz.f96 [.int .u64 false n] R)=(ak (Ob n) (ij (digits n)) (R (ax (aB (digits n))))):=by kernel_rfl
theorem agk (l:List UInt8):0<=num l:=by
 unfold num;suffices ∀(l:List UInt8) (a:Int),0<=a->0<=l.foldl (fun a b=>a*256+(b.toNat:Int)) a from this _ _ (Int.le_refl _)
 intro l;induction l with
 | nil=>exact fun _ h=>h
 | cons b r ih=>intro a h;exact ih _ (show 0<=a*256+(b.toNat:Int)by omega)
theorem agl {l:List UInt8}{x:Int}(h:0<=x)(h2:x<l.length):num (l.take (x+1).toNat)=num (l.take x.toNat)*256+ai l x:=by
 have e:(x+1).toNat=x.toNat+1:=by omega
 have hx:x.toNat<l.length:=by omega
 rw[e,List.take_add_one,List.getElem?_eq_getElem hx];simp only[Option.toList,uq];congr 1;unfold ai;rw[List.getD_eq_getElem?_getD,List.getElem?_eq_getElem hx];rfl
theorem agj: ∀(n:Nat) (l:List UInt8),l.length<=n->num l<256^ n
 | 0,l,h=>by have:l=[]:=List.length_eq_zero_iff.1 (by omega);subst this;decide
 | n+1,l,h=>by
   rcases List.eq_nil_or_concat l with rfl | ⟨r,b,rfl⟩
   ·have:(0:Int)<256^ (n+1):=Int.pow_pos (by decide);exact this
   ·simp only[List.length_concat] at h;have:=agj n r (by omega);have hb:=b.toNat_lt;rw[List.concat_eq_append,uq,Int.pow_succ];omega
theorem akL {l:List UInt8}{x:Int}(_h0:0<=x)(h:x<l.length)(h2:l.length<=8):num (l.take x.toNat)<72057594037927936:=by have:=agj 7 (l.take x.toNat) (by simp only[List.length_take];omega);exact this
theorem ae4 {l:List UInt8}{x:Int}(h0:0<=x)(h:x<l.length)(h2:l.length<=8):bitsOf .or (num (l.take x.toNat)*256% 18446744073709551616) (ai l x)=num (l.take (x+1).toNat):=by have h3:=akL h0 h h2;have h4:=agk (l.take x.toNat);have h5:=eO l x;rw[show num (l.take x.toNat)*256% 18446744073709551616=num (l.take x.toNat)*256 by omega,ags h4 h5.1 h5.2,agl h0 h]
theorem Cn {s:List UInt8}:qF s=true↔cA s=true/\dD s=false/\aC s=[]/\(aa s).length<=8/\(aa s=[]∨ai (aa s) 0≠0):=by unfold qF;by_cases h:aa s=[]<;>simp[and_assoc,h]
theorem Sb {l:List UInt8}(hl:l.length<=8){Q:Int->Prop}(hQ:Q l.length):(∃(y:Int),((0:Int)<=y/\y<=(↑l.length:Int))/\(0:Int)=num (List.take y.toNat l)/\(0:Int)=y/\True) /\
            ∀(x:Int),
             (0:Int)<=x/\x<=(↑l.length:Int) ->
               (decide (x<(↑l.length:Int))=true ->
                 ((0:Int)<=x/\x<(↑l.length:Int)) /\
                  ((0:Int)<=ai l x/\ai l x<=(18446744073709551615:Int)) /\
                   ((0:Int)<=num (List.take x.toNat l)*(256:Int)% (18446744073709551616:Int) /\
                      num (List.take x.toNat l)*(256:Int)% (18446744073709551616:Int)<=(18446744073709551615:Int) /\
                       (0:Int)<=ai l x/\ai l x<=(18446744073709551615:Int)) /\
                    ((-9223372036854775808:Int)<=x+(1:Int)/\x+(1:Int)<=(9223372036854775807:Int)) /\
                     ∃(y:Int),
                      (((0:Int)<=y/\y<=(↑l.length:Int))/\((↑l.length:Int) - y).toNat<((↑l.length:Int) - x).toNat) /\
                       bitsOf BinOp.or (num (List.take x.toNat l)*(256:Int)% (18446744073709551616:Int)) (ai l x)=num (List.take y.toNat l) /\
                        x+(1:Int)=y/\True) /\
                 (decide (x<(↑l.length:Int))=false->Q x):=by
 refine⟨⟨0,by omega,rfl,rfl,trivial⟩,fun x ⟨h1,h2⟩=>⟨fun h=> ?_,fun h=> ?_⟩⟩
 ·simp only[decide_eq_true_eq] at h;have h5:=eO l x;exact⟨by omega,by omega,by omega,by omega,x+1,by omega,ae4 h1 h hl,rfl,trivial⟩
 ·simp only[decide_eq_false_iff_not] at h;obtain rfl:x=l.length:=by omega
  exact hQ
theorem abi {s:List UInt8}(hs:s.length<9223372036854775808):aq (jy (aj1 (aa s)) 68 Tryz.f68 [.str false s] (anu s)):=by
 refine aq.j7 (aqu s) (by delta Fk Bk I6 Ix NI bf aF bx ak k6 cY aI iS aL gi cS yu kG iV jx rT vT fj cr aS dj gk yq F3 ZU fo aan jg rV ahJ bn cQ dX fV;exact rfl) ?_;have F: ∀ {p q:Prop},¬ (cA s=true/\dD s=false/\aC s=[]/\(aa s).length<=8/\(aa s=[]∨ai (aa s) 0≠0))->q->(qF s=true->p)/\(qF s=false->q):=fun h hq=>⟨fun e=>absurd (Cn.1 e) h,fun _=>hq⟩
 refine⟨hs,fun a=>⟨fun b=>F (by simp[b]) fun _=>rfl,fun b=>⟨fun c=>F (by simp at c;simp[c]) fun _=>rfl,fun c=>⟨fun d=>F (by simp at d;omega) fun _=>rfl,fun d=> ?_⟩⟩⟩,fun a=>F (by simp[a]) fun _=>rfl⟩;simp only[decide_eq_false_iff_not,Int.not_lt,Bool.not_eq_false',decide_eq_true_eq] at c d;have T:(aa s=[]∨ai (aa s) 0≠0)->qF s=true:=fun e=>Cn.2 ⟨a,b,c,by omega,e⟩
 have G: ∀ {p:Prop},(aa s=[]∨ai (aa s) 0≠0)->(qF s=true->ah (SV.bL [SV.int IntKind.u64 false (num (List.take (((aa s).length:Int)).toNat (aa s))),SV.int IntKind.i64 true (0:Int)])
                      (SV.bL [SV.int IntKind.u64 false (num (aa s)),SV.int IntKind.i64 true (0:Int)]))/\(qF s=false->p):=fun e=>⟨fun _=>by rw[Int.toNat_natCast,List.take_length];exact fun _=>rfl,fun h=>by rw[T e] at h;cases h⟩
 refine⟨fun e=>⟨?_,fun f=>F (by simp at e f;simp[e,f]) fun _=>rfl,fun f=> ?_⟩,fun e=> ?_⟩
 ·simp only[Bool.not_eq_true',decide_eq_false_iff_not] at e;have:=List.length_pos_iff.2 e;omega
 ·exact Sb (l:=aa s) (by omega) (Q:=fun x=>(qF s=true->ah (SV.bL [SV.int IntKind.u64 false (num (List.take x.toNat (aa s))),SV.int IntKind.i64 true (0:Int)]) _)/\(qF s=false->_)) (G (.inr (by simpa using f)))
 ·exact Sb (l:=aa s) (by omega) (Q:=fun x=>(qF s=true->ah (SV.bL [SV.int IntKind.u64 false (num (List.take x.toNat (aa s))),SV.int IntKind.i64 true (0:Int)]) _)/\(qF s=false->_)) (G (.inl (by simpa using e)))
def Co:List SV->Option (Prop×b7)
 | [.str false s]=>some (s.length<9223372036854775808,anu s)
 | _=>none
noncomputable def amo:PT:=bW Co
theorem Wc:au Tryz.prog 68 amo:=by
 refine fE (n:=20) (fn:=Tryz.f68) Tryz.func68 (by kernel_rfl) (by kernel_rfl) ?_;intro args p a h hp;unfold Co at h;split at h
 ·rename_i s;injection h with h;injection h with h1 h2;subst h1;subst h2;refine⟨_,amv (aa s),rfl,fun b=> ?_,abi hp⟩;cases b<;>exact rfl
 ·cases h
def CH:List SV->Option (Prop×SV)
 | [.int .u64 false n]=>some (0<=n/\n<18446744073709551616,.str false (aB (digits n)))
 | _=>none
noncomputable def amD:PT:=aT CH
theorem W4:au Tryz.prog 96 amD:=by
 refine kU (amv []) (n:=20) (fn:=Tryz.f96) Tryz.func96 (by kernel_rfl) (by kernel_rfl) ?_;intro args p r h hp;unfold CH at h;split at h
 ·rename_i n;injection h with h;injection h with h1 h2;subst h1;subst h2;have:=ru n;exact⟨rfl,rfl,(by refine aq.j7 (aqw n _) (by delta Ix ak ax Ob k8 ij;exact rfl) ?_;exact⟨hp,by omega,fun _=>rfl⟩)⟩
 ·cases h
noncomputable def amA:List (FuncId×PT):=(68,amo)::(96,amD)::afD
theorem afE:aU Tryz.prog (fun f=>aA f amA):=.cons Wc (bX _) (.cons W4 (aN _) SN)
end Go.Proofs.YtpaaiebohjjieaaGreatDoor
namespace Go.Proofs
open Go.Shelf
def Tryz.vD:Go.Shelf.Ren:=⟨fun | 156=>160 | 165=>213 | 166=>214 | 169=>215 | 240=>266 | 241=>267 | 276=>299 | 277=>300 | n=>n,fun | 31=>28 | 9=>9 | 3=>3 | 4=>4 | 0=>0 | 20=>20 | 72=>400 | 76=>402 | 70=>398 | 37=>174 | 75=>73 | 127=>449 | 164=>143 | 5=>5 | 80=>142 | n=>n,fun | n=>n⟩
theorem Tryz.SC:Go.Proofs.Lays.n156 Tryz.prog Tryz.vD:={
 mixed:=by kernel_rfl,
 f156:=Tryz.func160.trans (congrArg some (by kernel_rfl)),
 f165:=Tryz.func213.trans (congrArg some (by kernel_rfl)),
 f166:=Tryz.func214.trans (congrArg some (by kernel_rfl)),
 f169:=Tryz.func215.trans (congrArg some (by kernel_rfl)),
 f240:=Tryz.func266.trans (congrArg some (by kernel_rfl)),
 f241:=Tryz.func267.trans (congrArg some (by kernel_rfl)),
 f276:=Tryz.func299.trans (congrArg some (by kernel_rfl)),
 f277:=Tryz.func300.trans (congrArg some (by kernel_rfl)),
 t0:=Tryz.underlying0,
 a0:=Tryz.isAgg0,
 z0:=Tryz.sizeOf0,
 v0:=Tryz.zeroValue0,
 t3:=Tryz.underlying3,
 a3:=Tryz.isAgg3,
 z3:=Tryz.sizeOf3,
 v3:=Tryz.zeroValue3,
 t4:=Tryz.underlying4,
 a4:=Tryz.isAgg4,
 z4:=Tryz.sizeOf4,
 v4:=Tryz.zeroValue4,
 t9:=Tryz.underlying9,
 a9:=Tryz.isAgg9,
 z9:=Tryz.sizeOf9,
 v9:=Tryz.zeroValue9,
 t20:=Tryz.underlying20,
 a20:=Tryz.isAgg20,
 z20:=Tryz.sizeOf20,
 v20:=Tryz.zeroValue20,
 t31:=Tryz.underlying28,
 a31:=Tryz.isAgg28,
 z31:=Tryz.sizeOf28,
 v31:=Tryz.zeroValue28,
 t37:=Tryz.underlying174,
 a37:=Tryz.isAgg174,
 z37:=Tryz.sizeOf174,
 v37:=Tryz.zeroValue174,
 t70:=Tryz.underlying398,
 a70:=Tryz.isAgg398,
 z70:=Tryz.sizeOf398,
 v70:=Tryz.zeroValue398,
 t72:=Tryz.underlying400,
 a72:=Tryz.isAgg400,
 z72:=Tryz.sizeOf400,
 v72:=Tryz.zeroValue400,
 t75:=Tryz.underlying73,
 a75:=Tryz.isAgg73,
 z75:=Tryz.sizeOf73,
 v75:=Tryz.zeroValue73,
 t76:=Tryz.underlying402,
 a76:=Tryz.isAgg402,
 z76:=Tryz.sizeOf402,
 v76:=Tryz.zeroValue402,
 t127:=Tryz.underlying449,
 a127:=Tryz.isAgg449,
 z127:=Tryz.sizeOf449,
 v127:=Tryz.zeroValue449,
 t164:=Tryz.underlying143,
 a164:=Tryz.isAgg143,
 z164:=Tryz.sizeOf143,
 v164:=Tryz.zeroValue143}
end Go.Proofs
namespace Go.Proofs
open Go.Shelf Go.RowKit
theorem Tryz.extra:Builder.Extra Tryz.prog Tryz.vD:={
 sizeBuilder:=by kernel_rfl,
 liesBuilder:=by kernel_rfl,
 t5:=by kernel_rfl,
 a5:=by intro w;kernel_rfl,
 z5:=by intro w;kernel_rfl,
 v5:=by intro w;kernel_rfl,
 infoByte:=by kernel_rfl,
 cellsByte:=by kernel_rfl,
 sizeByte:=by kernel_rfl,
 neB5:=by decide}
end Go.Proofs
namespace Go.Proofs.YtpaaiebohjjieaaGreatDoor
open Go Sx
set_option maxRecDepth 20000
theorem akt:Tryz.vD.f 156=160:=by kernel_rfl
def flat (l:List (List UInt8)):List UInt8:=l.flatten
def j6 (f:Nat->List UInt8)(i n:Nat):List (List UInt8):=(List.range n).map fun j=>f (i+j)
theorem Dr {f:Nat->List UInt8}{i n j:Nat}{x:List UInt8}(h:(j6 f i n)[j]?=some x):j<n/\f (i+j)=x:=by
 unfold j6 at h;rw[List.getElem?_map] at h;by_cases hj:j<n
 ·rw[List.getElem?_range hj] at h;injection h with h;exact⟨hj,h⟩
 ·rw[List.getElem?_eq_none (by simpa using hj)] at h;cases h
theorem nP (f:Nat->List UInt8)(i n:Nat):(j6 f i n).length=n:=by simp[j6]
def strCells:List SV->Option (List (List UInt8))
 | []=>some []
 | .str _ s::r=>(match strCells r with
   | some l=>some (s::l)
   | none=>none)
 | _=>none
theorem DD {cs:List SV}{l:List (List UInt8)}(h:strCells cs=some l):l.length=cs.length/\∀(j:Nat) (x:List UInt8),l[j]?=some x->∃ b,cs[j]?=some (.str b x):=by
 induction cs generalizing l with
 | nil=>injection h with h;subst h;exact⟨rfl,fun j x hx=>by simp at hx⟩
 | cons v r ih =>
   unfold strCells at h;split at h
   ·cases ‹_::_=[]›
   ·rename_i b s r' e;injection e with e1 e2;subst e1;subst e2;split at h
    ·rename_i l' hl;injection h with h;subst h;obtain⟨g1,g2⟩:=ih hl;refine⟨by simp[g1],fun j x hx=> ?_⟩;cases j with
     | zero=>injection hx with hx;subst hx;exact⟨b,rfl⟩
     | succ j=>exact g2 j x (by simpa using hx)
    ·cases h
   ·cases h
def BO (m:Mem):SV->Option (Prop×List (List UInt8))
 | .aO=>some (True,[])
 | .slc key o n _ c=>(match m.get key with
   | some (.cells cs _ _)=>(match strCells ((cs.drop o).take n)with
     | some l=>some (l.length=n/\n<=c,l)
     | none=>none)
   | _=>none)
 | .bI key 1 _ i n c=>(match m.get key with
   | some (.rows _ n' [.str f] _ _ _)=>some (i+n<=n'/\n<=c,j6 f i n)
   | _=>none)
 | .cC key 1 _ o i n c=>(match m.get key with
   | some (.view _ o' n' [.str f])=>some (o'=o/\i+n<=n'/\n<=c,j6 f i n)
   | _=>none)
 | _=>none
theorem acN {Γ E m nx w}(h:aG Γ E m nx w){v:SV}{p:Prop}{l:List (List UInt8)}(hv:BO m v=some (p,l))(hp:p) :
  (∃ a c,l=[]/\v.val E=.slice a 0 c)∨(∃ k o c,v.val E=.slice (some ⟨k,o,none⟩) l.length c/\l.length<=c/\k<w.heap.size/\∀(j:Nat) x,l[j]?=some x->w.cell? ⟨k,o+j,none⟩=some (.string ⟨x.toArray⟩)):=by
 unfold BO at hv;split at hv
 ·injection hv with hv;injection hv with h1 h2;subst h2;exact .inl ⟨_,_,rfl,rfl⟩
 ·rename_i key o n cl c;split at hv
  ·rename_i cs tot ty hk;split at hv
   ·rename_i l' hl;injection hv with hv;injection hv with h1 h2;subst h1;subst h2;obtain⟨g1,g2⟩:=DD hl;obtain⟨ob,ho,ce,fr,rfl,_,h4,_⟩:=h.qD key _ hk rfl;refine .inr ⟨E key,o,c,by rw[hp.1];rfl,by omega,(Array.getElem?_eq_some_iff.1 ho).1,fun j x hx=> ?_⟩;obtain⟨b,hb⟩:=g2 j x hx;rw[cell_of ho];have hj:j<n:=by have:=(List.getElem?_eq_some_iff.1 hx).1;omega
    rw[List.getElem?_take_of_lt hj,List.getElem?_drop] at hb;exact h4 _ _ hb
   ·cases hv
  ·cases hv
 ·rename_i key z i n c;split at hv
  ·rename_i z' n' f ro tot ty hk;injection hv with hv;injection hv with h1 h2;subst h1;subst h2;cases n with
   | zero=>exact .inl ⟨_,_,rfl,rfl⟩
   | succ n =>
     obtain⟨ob,ho,ce,fr,rfl,_,_,_,h4⟩:=h.qD key _ hk (SB.mc (i:=0) (by omega));refine .inr ⟨E key,i,c,?_,by rw[nP];exact hp.2,(Array.getElem?_eq_some_iff.1 ho).1,fun j x hx=> ?_⟩
     ·rw[nP];cases z<;>simp[SV.val,show Nat.beq (n+1) 0=false from rfl]
     ·obtain⟨hj,hx⟩:=Dr hx;rw[cell_of ho];have:=h4 (i+j) 0 (.str f) (by omega) rfl;simpa [aK.at,SV.val,hx] using this
  ·cases hv
 ·rename_i key z o i n c;split at hv
  ·rename_i z' o' n' f hk;injection hv with hv;injection hv with h1 h2;subst h1;subst h2;cases n with
   | zero=>exact .inl ⟨_,_,rfl,rfl⟩
   | succ n =>
     obtain⟨ob,ho,ce,ty,fr,rfl,h4⟩:=h.qD key _ hk (SB.HD (i:=0) (by omega));refine .inr ⟨E key,o+i,c,?_,by rw[nP];exact hp.2.2,(Array.getElem?_eq_some_iff.1 ho).1,fun j x hx=> ?_⟩
     ·rw[nP];cases z<;>simp[SV.val,show Nat.beq (n+1) 0=false from rfl]
     ·obtain⟨hj,hx⟩:=Dr hx;rw[cell_of ho];have:=h4 (i+j) 0 (.str f) (by omega) rfl;obtain⟨rfl,_⟩:=hp;simpa [aK.at,SV.val,hx,Nat.add_assoc] using this
  ·cases hv
 ·cases hv
noncomputable def xJ:PT:=fun args m nx K=>match args with
 | [v,.str _ []]=>(match BO m v with
   | some (p,l)=>.and (.atom (p/\l.length<=140737488355328/\(flat l).length<=140737488355328)) (K (.str false (flat l)) m nx)
   | none=>.fail "texts that are not known")
 | _=>.fail "a separator"
theorem FO:aJ xJ:=by
 intro args m nx K K' hK h;unfold xJ at h ⊢;split at h
 ·split at h
  ·rename_i p l hl;exact⟨h.1,hK _ _ _ h.2⟩
  ·exact h.elim
 ·exact h.elim
theorem El: ∀ l:List (List UInt8),Lib.join l []=flat l
 | []=>rfl
 | [x]=>by simp[Lib.join,flat,List.intercalate]
 | x::y::r=>by have:=El (y::r);simp[Lib.join,flat,List.intercalate] at this ⊢;rw[this]
theorem P0:au Tryz.prog 160 xJ:=by
 intro args m nx K hk hwf hargs Γ E w hs;unfold xJ at hk;split at hk
 ·rename_i v b;split at hk
  ·rename_i p l hl;obtain⟨⟨hp,h1,h2⟩,hk⟩:=hk;have hc:Calls Tryz.prog 160 (SV.vals E [v,.str b []]).toArray w fun e w'=>e=.returned (.string ⟨(flat l).toArray⟩)/\RowKit.Below w.heap.size w w':=by
    rw[← akt];rcases acN hs hl hp with ⟨a,c,rfl,hv⟩ | ⟨k,o,c,hv,g1,g2,g3⟩
    ·simp only[SV.vals,hv,SV.val];exact(Any.strings_Join_none Tryz.SC Tryz.extra a c _ w).mono fun e w' ⟨he,hw⟩=>⟨he,hw▸ RowKit.Below.refl _ _⟩
    ·simp only[SV.vals,hv,SV.val];have:=Any.strings_Join Tryz.SC Tryz.extra k o c (l.map fun x=>⟨x.toArray⟩) ⟨#[]⟩ w (fun j x hx=>by
      rw[List.getElem?_map] at hx;cases hj:l[j]? with
      | none=>rw[hj] at hx;cases hx
      | some y=>rw[hj] at hx;injection hx with hx;subst hx;exact g3 j y hj) g2 (by simpa using h1) (by simpa using g1) (by
      simp only[List.map_map];have:(l.map ((fun x:ByteArray=>x.data.toList)∘ fun x=>(⟨x.toArray⟩:ByteArray)))=l:=by
       rw[show((fun x:ByteArray=>x.data.toList)∘ fun x:List UInt8=>(⟨x.toArray⟩:ByteArray))=id from by funext x;simp]
       simp
      rw[this];show(Lib.join l []).length<=_;rw[El];exact h2)
     rw[List.length_map] at this;refine this.mono fun e w' ⟨he,hw⟩=>⟨?_,hw⟩
     rw[he,List.map_map];have:(l.map ((fun x:ByteArray=>x.data.toList)∘ fun x=>(⟨x.toArray⟩:ByteArray)))=l:=by
      rw[show((fun x:ByteArray=>x.data.toList)∘ fun x:List UInt8=>(⟨x.toArray⟩:ByteArray))=id from by funext x;simp]
      simp
     rw[this];rw[← El]
   refine ic Tryz.func160 (by kernel_rfl) (by kernel_rfl) (hc.mono ?_);rintro e w' ⟨rfl,hb⟩;exact⟨_,rfl,E,some (.str false (flat l)),m,nx,fun _ _=>rfl,Nat.le_refl _,fun x hx=>by injection hx with hx;subst hx;rfl,hs.still (Ext.agm hb),hk⟩
  ·exact hk.elim
 ·exact hk.elim
end Go.Proofs.YtpaaiebohjjieaaGreatDoor
namespace Go.Proofs.YtpaaiebohjjieaaGreatDoor
open Go Sx
set_option maxRecDepth 20000
noncomputable def amB:List (FuncId×PT):=(160,xJ)::amA
theorem afF:aU Tryz.prog (fun f=>aA f amB):=.cons P0 FO afE
def bN (s:List UInt8):Nat->List UInt8
 | 0=>s
 | k+1=>aC (bN s k)
def Bj (s:List UInt8):List UInt8:=s.take (s.length - (aC s).length)
def aj (s:List UInt8)(k:Nat):List UInt8:=Bj (bN s k)
def scan:Nat->List UInt8->Nat×Bool
 | 0,s=>(0,decide (s=[]))
 | f+1,s=>if s=[] then(0,true)else if cA s then((scan f (aC s)).1+1,(scan f (aC s)).2)else(0,false)
def aH (s:List UInt8):Nat:=(scan s.length s).1
def dU (s:List UInt8):Bool:=(scan s.length s).2
def Wn (s:List UInt8):b7:=.fork (dU s) fun b=>match b with
 | true=>.all Nat fun c=>.req (aH s<=c) (.new (fun k=>.bL [.bI k 1 true 0 (aH s) c,.int .i64 true 0]) (.rows true (aH s) [.str (aj s)] false c 9))
 | false=>.ret (.bL [.aO,.int .i64 true 2])
structure LZ where
 k:Nat
 c:Nat
structure Hf (s:List UInt8)(x:LZ):Prop where
 walk: ∀ j,j<x.k->bN s j≠[]/\cA (bN s j)=true
 cap:x.k<=x.c
noncomputable def adC (s:List UInt8):bp :=
 {α:=LZ,pre:=fun _ x=>Hf s x,sM:=fun _ x=>(bN s x.k).length,fresh:=1,slots:=fun _ x=>[(3,.str false (bN s x.k))],
  mem:=fun st x=>[(2,.cells [.bI st.nx 1 true 0 x.k x.c] 1 28),(st.nx,.rows true x.k [.str (aj s)] false x.c 9)]}
noncomputable def anh (s:List UInt8):gF:={cF with cM:=fun f=>aA f amB,aR:=fun f=>if f=249 then [(1,always (adC s))] else []}
theorem apZ (s:List UInt8):Sx.Good Tryz.prog (anh s):=.of bO afF bt
section
variable (n m k i : Nat) (s t : List UInt8) (p q r : Prop) (v : SV) (B : SB) (g : Nat -> List UInt8) (h : Bool) (f : Loop) (z : TypeId) (y : List aK) (x : LZ)
abbrev wO:=SB.loop LoopState.ready none f
abbrev oG:=Sr (wO f)
abbrev TJ:=bh (bN s x.k) - bh (aC (bN s x.k))
abbrev wF:=bN s x.k
abbrev aP:=n+1
abbrev pS:=aP (aP n)
abbrev Av:=pS (pS 0)
abbrev c8:=SB.cells (SV.cells v) n z
abbrev JW:=c8 1 SV.aO 28
abbrev eC:=SB.rows true n y false m z
abbrev cU:List aK:=aK.str g::y
abbrev bD:=cU g List.nil
abbrev ZA:=eC x.k x.c 9 (bD (aj s))
abbrev aht:=kG (Sr (c8 1 (ax s) 9)) (Sr (c8 1 (bx 0) 25)) (Sr JW)
abbrev fX:=SV.bI n m true 0 k i
abbrev ahT:=fV (fX (aP Av) 1 x.k x.c)
abbrev aW:=Er 0
abbrev jd:=n<=281474976710656
abbrev iT:List UInt8:=if n<m then s else t
abbrev bT:=n<=m/\p
abbrev dn:=ak aW (n=m) (k=i)
abbrev dZ:=h=true
abbrev cq:=eC n (m*k) z y
abbrev oh:=dZ (SB.no B)
abbrev fW:=aL p True q r
abbrev cI:=0+n<=m
abbrev iW:=lZ [s] n
abbrev gK:=ak (n<=m) p q
abbrev qw:=cQ SV.aO v List.nil
abbrev kH:=Er 1
end
theorem alM (s:List UInt8):VC.holds (jy (anh s) 137 Tryz.f137 [.str false s] (Wn s))=(∀(a:Loop),(∃(b:LZ),ak (Hf s b) (s=wF s b) (aI kH (b.k=0) (oh (ZA s b)) (oG a) (aht s)))/\(∀(b:LZ),Hf s b->bn (aS (dj (wF s b)) (dG (aI (ak ((0:Int)<=0) (0<=TJ s b) (TJ s b<=bh (wF s b))) (Er a) (fW (cI b.k b.k) (jd (2*aP b.k*16)) (cr (aP b.k))) (b.c=b.c*1) (∀(c:Nat),aX (aP b.k) c (∃(d:LZ),aL (Hf s d/\List.length (wF s d)<List.length (wF s b)) (aC (wF s b)=wF s d) kH (aI (dn (aP b.k) d.k c d.c) True (af (cq (aP b.k) c 1 9 (bD (fun a=>iT a b.k (aj s a) (iW (a - b.k) (eK (wF s b) none (iG 37) 0 (TJ s b)))))) (ZA s d)) (oG a) (aht s))))) (TJ s b)) (∀(_:Int),ak (I6 (bP s - bh (wF s b))) (Er a) (dY (∃(a:Nat),bT (aH s) a False) (qw vT) (qw vT) (dU s))) (cA (wF s b))) (dY (∃(a:Nat),gK (aH s) a (af (ZA s b) (eC (aH s) a 9 (bD (aj s)))) (ah (ahT b) (fV (fX (aP Av) 1 (aH s) a)))) (ahT b) (qw vT) (dU s)) (dX (wF s b)))):=by kernel_rfl
theorem P7 {s:List UInt8}(h: ¬ ai s 0<128):0<=lead s:=by unfold lead;split<;>omega
theorem Ih {s:List UInt8}(h:cA s=true):(aC s).length<s.length:=by
 obtain⟨h0,h⟩:=gZ.1 h;have hl:=List.length_pos_iff.2 h0;by_cases hA:ai s 0<128
 ·rw[(qQ hA).2.2,List.length_drop];omega
 ·have g:=P7 hA;by_cases hL:55<lead s
  ·have:=zA s (lead s - 54);rw[(rq hA hL).2,List.length_drop];omega
  ·rw[(vn hA hL).2,List.length_drop];omega
theorem Oq: ∀(f f':Nat) (s:List UInt8),s.length<=f->s.length<=f'->scan f s=scan f' s
 | 0,0,_,_,_=>rfl
 | 0,f'+1,s,h,_=>by have:s=[]:=List.length_eq_zero_iff.1 (by omega);subst this;rfl
 | f+1,0,s,_,h=>by have:s=[]:=List.length_eq_zero_iff.1 (by omega);subst this;rfl
 | f+1,f'+1,s,h,h'=>by
   simp only[scan];split
   ·rfl
   ·split
    ·rename_i hc;have:=Ih hc;rw[Oq f f' (aC s) (by omega) (by omega)]
    ·rfl
theorem oy:dU []=true/\aH []=0:=⟨rfl,rfl⟩
theorem Ek {s:List UInt8}(h0:s≠[])(h:cA s=true):dU s=dU (aC s)/\aH s=aH (aC s)+1:=by
 have hl:=Ih h;unfold dU aH;obtain⟨n,hn⟩: ∃ n,s.length=n+1:=⟨s.length - 1,by omega⟩
 rw[hn];simp only[scan,h0,h,if_true,if_false];rw[Oq n (aC s).length (aC s) (by omega) (by omega)];exact⟨rfl,rfl⟩
theorem MG {s:List UInt8}(h0:s≠[])(h:cA s=false):dU s=false:=by
 have hl:=List.length_pos_iff.2 h0;unfold dU;obtain⟨n,hn⟩: ∃ n,s.length=n+1:=⟨s.length - 1,by omega⟩
 rw[hn];simp[scan,h0,h]
theorem pZ (s:List UInt8): ∀ k,bN s (k+1)=bN (aC s) k
 | 0=>by simp only[bN]
 | k+1=>by rw[bN,pZ s k];simp only[bN]
def Walk (s:List UInt8)(k:Nat):Prop:=∀ j,j<k->bN s j≠[]/\cA (bN s j)=true
theorem Walk.len {s:List UInt8}: ∀ {k:Nat},Walk s k->(bN s k).length+k<=s.length
 | 0,_=>by simp[bN]
 | k+1,h=>by have h1:=Walk.len (k:=k) (fun j hj=>h j (by omega));have h2:=Ih (h k (by omega)).2;simp only[bN];omega
theorem Walk.tail {s:List UInt8}{k:Nat}(h:Walk s (k+1)):Walk (aC s) k:=fun j hj=>by rw[← pZ];exact h (j+1) (by omega)
theorem Walk.items {s:List UInt8}: ∀ {k:Nat},Walk s k->dU s=dU (bN s k)/\aH s=aH (bN s k)+k
 | 0,_=>⟨rfl,rfl⟩
 | k+1,h=>by obtain⟨h0,h1⟩:=h 0 (by omega);obtain⟨g1,g2⟩:=Ek (s:=s) h0 h1;obtain⟨g3,g4⟩:=Walk.items h.tail;rw[pZ,g1,g2,g3,g4];exact⟨rfl,by omega⟩
theorem Walk.snoc {s:List UInt8}{k:Nat}(h:Walk s k)(h0:bN s k≠[])(h1:cA (bN s k)=true):Walk s (k+1):=fun j hj=>by
 by_cases e:j=k
 ·subst e;exact⟨h0,h1⟩
 ·exact h j (by omega)
theorem Sx.af.On {z:Bool}{n n':Nat}{av cols':List aK}{tot tot':Nat}{ty:TypeId}(hn:n=n')(ht:tot=tot')(hl:av.length=cols'.length)
  (h: ∀(i k:Nat) (c':aK),i<n->cols'[k]?=some c'->∃ c,av[k]?=some c/\c.at i=c'.at i):af (.rows z n av false tot ty) (.rows z n' cols' false tot' ty):=by
 subst hn;subst ht;refine af.of rfl rfl fun hno=> ?_;refine⟨hno,fun E o ⟨c,fr,h1,h2,h3,h4,h5⟩=>⟨c,fr,h1,h2,by rw[← hl];exact h3,h4,fun i k col hi hk=> ?_⟩,fun _=>rfl⟩;obtain⟨c0,hc0,he⟩:=h i k col hi hk;rw[← he,← hl];exact h5 i k c0 hi hc0
theorem Sx.af.vZ {z:Bool}{n n':Nat}{f g:Nat->List UInt8}{tot tot':Nat}{ty:TypeId}(hn:n=n')(ht:tot=tot')(h: ∀ i,i<n->f i=g i):af (.rows z n [.str f] false tot ty) (.rows z n' [.str g] false tot' ty):=by
 refine Sx.af.On hn ht rfl fun i k c' hi hk=>⟨.str f,?_,?_⟩
 ·match k,hk with
  | 0,_=>rfl
 ·match k,hk with
  | 0,hk =>simp only[List.getElem?_cons_zero,Option.some.injEq] at hk;subst hk;simp only[aK.at,h i hi]
theorem Sj {s:List UInt8}(hs:s.length<1099511627776):aq (jy (anh s) 137 Tryz.f137 [.str false s] (Wn s)):=by
 refine aq.j7 (alM s) (by delta Bk I6 Sr Er NI aX aF bx bh bP ak k6 cY aI aL dG kG ax iG vT cr aS dj dY bn cQ dX fV wO oG TJ wF aP pS Av c8 JW eC cU bD ZA aht fX ahT aW jd iT bT dn dZ cq oh fW cI iW gK qw kH;exact rfl) ?_;intro R;refine⟨⟨⟨0,0⟩,⟨fun j hj=>absurd hj (Nat.not_lt_zero _),Nat.le_refl _⟩,rfl,rfl,rfl,rfl,af.refl _,af.refl _,af.refl _,af.refl _,trivial⟩,fun x hx=> ?_⟩;have hw:Walk s x.k:=hx.walk;have hl:=hw.len;obtain⟨i1,i2⟩:=hw.items;refine⟨fun a=> ?_,fun a=> ?_⟩
 ·have a:bN s x.k≠[]:=by simpa using a
  refine⟨by omega,fun b=> ?_,fun b y=> ?_⟩
  ·have hlt:=Ih b;refine⟨by omega,by omega,rfl,⟨by omega,trivial,by omega,by omega⟩,by omega,fun c hc=>⟨⟨x.k+1,c⟩,⟨⟨hw.snoc a b,hc⟩,?_⟩,?_,rfl,⟨rfl,rfl,rfl⟩,trivial,?_,af.refl _,af.refl _,af.refl _,af.refl _,trivial⟩⟩
   ·simp only[bN];exact hlt
   ·simp only[bN]
   ·refine Sx.af.vZ rfl (Nat.mul_one c) fun i hi=> ?_;by_cases h:i<x.k
    ·rw[if_pos h]
    ·rw[if_neg h];have e:i=x.k:=by omega
     subst e;simp only[Nat.sub_self,lZ,eK,aj,Bj];rw[show((↑(bN s x.k).length:Int) - (↑(aC (bN s x.k)).length:Int)).toNat=(bN s x.k).length - (aC (bN s x.k)).length by omega];simp only[List.getD_cons_zero]
  ·have hb:=MG a b;rw[← i1] at hb;exact⟨by omega,rfl,(fun h=>by rw[hb] at h;cases h),fun _ _=>rfl⟩
 ·have a:bN s x.k=[]:=by simpa using a
  rw[a] at i1 i2;have n0:aH s=x.k:=by rw[i2,oy.2];omega
  have b0:dU s=true:=by rw[i1,oy.1]
  refine⟨fun _=>⟨x.c,by rw[n0];exact hx.cap,?_,?_⟩,fun h=>by rw[b0] at h;cases h⟩
  ·rw[n0];exact af.refl _
  ·rw[n0];exact fun _=>rfl
def tZ:List SV->Option (Prop×b7)
 | [.str false s]=>some (s.length<1099511627776,Wn s)
 | _=>none
noncomputable def aks:PT:=bW tZ
theorem Sk:au Tryz.prog 137 aks:=by
 refine fE (n:=20) (fn:=Tryz.f137) Tryz.func137 (by kernel_rfl) (by kernel_rfl) ?_;intro args p a h hp;unfold tZ at h;split at h
 ·rename_i s;injection h with h;injection h with h1 h2;subst h1;subst h2;refine⟨_,apZ s,rfl,fun b=> ?_,Sj hp⟩;cases b with
  | false=>exact rfl
  | true =>
    intro c;refine⟨rfl,rfl,fun k=>by simp[SV.wf,SV.gM,Nat.blt_eq],fun E E' k k' h=> ?_⟩;cases hn:aH s with
    | zero=>rfl
    | succ n =>rw[hn] at h;have hk:E k=E' k':=h rfl;simp[SV.val,SV.vals,hk]
 ·cases h
end Go.Proofs.YtpaaiebohjjieaaGreatDoor
namespace Go.Proofs.YtpaaiebohjjieaaGreatDoor.Sx
open Go
def aog:SV->SV
 | .int k _ n=>.int k true n
 | .bool _ b=>.bool true b
 | .str _ s=>.str true s
 | v=>v
def afS:SV->SV
 | .agg cs=>.agg (cs.map aog)
 | v=>aog v
def lit:SV->SV
 | .bL vs=>.bL (vs.map afS)
 | v=>afS v
theorem uZ {f:SV->SV}{E:Nat->Nat}(hf: ∀ v,(f v).val E=v.val E): ∀ l:List SV,SV.vals E (l.map f)=SV.vals E l
 | []=>rfl
 | v::r=>by simp only[List.map_cons,SV.vals,hf,uZ hf r]
theorem SP (E:Nat->Nat)(v:SV):(aog v).val E=v.val E:=by cases v<;>rfl
theorem afT (E:Nat->Nat)(v:SV):(afS v).val E=v.val E:=by cases v<;>first | rfl | simp only[afS,SV.val,uZ (SP E)]
theorem HB (E:Nat->Nat)(v:SV):(lit v).val E=v.val E:=by cases v<;>first | rfl | simp only[lit,afS,SV.val,uZ (SP E),uZ (afT E)]
def afj:SV->Bool
 | .int _ l _=>l
 | .bool l _=>l
 | .str l _=>l
 | _=>false
def isLit:SV->Bool
 | .agg cs=>cs.all afj
 | v=>afj v
def DX:List SV->Bool
 | []=>true
 | v::r=>isLit v&&DX r
def yB (av:List aK)(i:Nat):Nat->List SV
 | 0=>[]
 | n+1=>av.map (fun c=>lit (c.at i))++yB av (i+1) n
theorem Dq {av:List aK}: ∀ {n i0 j:Nat} {v:SV},(yB av i0 n)[j]?=some v->∃ i k col,j=i*av.length+k/\i<n/\av[k]?=some col/\v=lit (col.at (i0+i))
 | 0,_,_,_,h=>by simp[yB] at h
 | n+1,i0,j,v,h=>by
   simp only[yB] at h;by_cases hj:j<av.length
   ·rw[List.getElem?_append_left (by simpa using hj),List.getElem?_map] at h;cases hc:av[j]? with
    | none=>rw[hc] at h;cases h
    | some c=>rw[hc] at h;injection h with h;exact⟨0,j,c,by simp,by omega,hc,h.symm⟩
   ·rw[List.getElem?_append_right (by simpa using hj)] at h;obtain⟨i,k,col,h1,h2,h3,h4⟩:=Dq h;simp only[List.length_map] at h1;refine⟨i+1,k,col,by rw[Nat.add_mul];omega,by omega,h3,?_⟩;rw[h4];congr 2;omega
def anr:SB->SB
 | .rows true 0 av ro tot ty=>.rows true 0 av ro tot ty
 | .rows _z n av false tot ty=>.cells (yB av 0 n) tot ty
 | B=>B
def YL:SV->SV
 | .bI _ _ true _ 0 _=>.aO
 | .bI k _ _ 0 n c=>.slc k 0 n false c
 | v=>v
def YM:SV->SV
 | .agg cs=>.agg (cs.map YL)
 | v=>YL v
def akb:SV->SV
 | .bL vs=>.bL (vs.map YM)
 | v=>YM v
theorem aka (B:SB):af B (anr B):=by
 unfold anr;split
 ·exact af.refl _
 ·rename_i z n av tot ty hne;refine af.of rfl rfl fun _=> ?_;have hno:(SB.rows z n av false tot ty).no=false:=by
   cases z with
   | false=>rfl
   | true =>
     cases n with
     | zero=>exact(hne rfl rfl).elim
     | succ n=>rfl
  refine⟨hno,fun E o ⟨c,fr,h1,h2,h3,h4,h5⟩=>⟨c,fr,h1,h2 rfl,fun j v hv=> ?_,h4⟩,fun _=>rfl⟩;obtain⟨i,k,col,g1,g2,g3,g4⟩:=Dq hv;rw[g4,HB,Nat.zero_add,g1];exact h5 i k col g2 g3
 ·exact af.refl _
theorem Mr (E:Nat->Nat)(v:SV):(YL v).val E=v.val E:=by
 unfold YL;split
 ·rfl
 ·rename_i k w z n c hne;have hz:(z&&Nat.beq n 0)=false:=by
   cases z with
   | false=>rfl
   | true =>
     cases n with
     | zero=>exact(hne rfl rfl).elim
     | succ n=>rfl
  simp[SV.val,hz]
 ·rfl
theorem Ms (E:Nat->Nat)(v:SV):(YM v).val E=v.val E:=by
 unfold YM;split
 ·simp only[SV.val,uZ (Mr E)]
 ·exact Mr E _
theorem aeP (E:Nat->Nat)(v:SV):(akb v).val E=v.val E:=by
 unfold akb;split
 ·simp only[SV.val,uZ (Ms E)]
 ·exact Ms E _
def b7.vcl (m:Mem)(nx:Nat)(K:SV->Mem->Nat->VC):b7->VC
 | .ret v=>K (lit v) m nx
 | .new v B=>K (lit (akb (v nx))) ((nx,anr B)::m) (nx+1)
 | .all α f=>.all α fun x=>(f x).vcl m nx K
 | .req p a=>.imp p (a.vcl m nx K)
 | .fork b f=>match b with
   | true=>(f true).vcl m nx K
   | false=>(f false).vcl m nx K
def aoT (Γ:aQ)(E:Nat->Nat)(nx:Nat)(K:SV->Mem->Nat->VC):SV->Mem->Nat->VC:=fun v m' nx' =>.atom (∀(E':Nat->Nat) (w':World),(∀ k,k<nx->E' k=E k)->nx<=nx'->aG Γ E' m' nx' w'->aV (lift K) Γ E nx (v.val E') w')
theorem b7.tf {Γ:aQ}{E:Nat->Nat}{m:Mem}{nx:Nat}{K:SV->Mem->Nat->VC}: ∀ {a:b7},(a.vcl m nx K).holds->(a.vc m nx (aoT Γ E nx K)).holds
 | .ret v,h=>fun E' w' h1 h2 hs=>⟨E',some (lit v),m,nx,h1,h2,fun x hx=>by injection hx with hx;subst hx;rw[HB],hs,h⟩
 | .new v B,h=>fun E' w' h1 h2 hs=>⟨E',some (lit (akb (v nx))),_,nx+1,h1,h2,fun x hx=>by injection hx with hx;subst hx;rw[HB,aeP],hs.Va (aka B),h⟩
 | .all _ f,h=>fun x=>b7.tf (a:=f x) (h x)
 | .req _ a,h=>fun x=>b7.tf (a:=a) (h x)
 | .fork b f,h=>dx.2 (by
    cases b with
    | true=>exact b7.tf (a:=f true) h
    | false=>exact b7.tf (a:=f false) h)
theorem b7.sq {m:Mem}{nx:Nat}{K K':SV->Mem->Nat->VC}(hK: ∀ v m nx,(K v m nx).holds->(K' v m nx).holds): ∀ {a:b7},(a.vcl m nx K).holds->(a.vcl m nx K').holds
 | .ret _,h=>hK _ _ _ h
 | .new _ _,h=>hK _ _ _ h
 | .all _ f,h=>fun x=>b7.sq (a:=f x) hK (h x)
 | .req _ a,h=>fun x=>b7.sq (a:=a) hK (h x)
 | .fork b f,h=>by
   cases b with
   | true=>exact b7.sq (a:=f true) hK h
   | false=>exact b7.sq (a:=f false) hK h
noncomputable def m7 (spec:List SV->Option (Prop×b7)):PT:=fun args m nx K=>match DX args with
 | true=>(match spec (args.map yS)with
   | some (p,a)=>.and (.atom p) (a.vcl m nx K)
   | none=>.fail "arguments that nothing is said of")
 | false=>bW spec args m nx K
theorem gY (spec:List SV->Option (Prop×b7)):aJ (m7 spec):=by
 intro args m nx K K' hK h;unfold m7 at h ⊢;split at h
 ·split at h
  ·exact⟨h.1,b7.sq hK h.2⟩
  ·exact h
 ·exact bX spec _ _ _ _ _ hK h
theorem aV.aap {Γ:aQ}{E:Nat->Nat}{nx:Nat}{r:Value}{w:World}{K:SV->Mem->Nat->VC}(h:aV (lift (fun v m nx=>K (lit v) m nx)) Γ E nx r w):aV (lift K) Γ E nx r w:=by
 obtain⟨E',sv,m',nx',h1,h2,h3,h4,h5⟩:=h;cases sv with
 | none=>exact h5.elim
 | some v=>exact⟨E',some (lit v),m',nx',h1,h2,fun x hx=>by injection hx with hx;subst hx;rw[HB];exact h3 v rfl,h4,h5⟩
theorem oP {P:Program}{f:FuncId}{spec:List SV->Option (Prop×b7)}(h:au P f (bW spec)):au P f (m7 spec):=by
 intro args m nx K hk hwf hargs Γ E w hs;unfold m7 at hk;split at hk
 ·have:(bW spec args m nx (aoT Γ E nx K)).holds:=by
   unfold bW;split at hk
   ·rename_i p a hsp
    first
     | exact⟨hk.1,b7.tf hk.2⟩
     | (rw[hsp];exact⟨hk.1,b7.tf hk.2⟩)
   ·exact hk.elim
  refine(h args m nx _ this hwf hargs Γ E w hs).mono (fun e w' hh=> ?_) (fun _ _ h=>h);obtain⟨E',sv,m',nx',h1,h2,h3,h4,h5⟩:=hh;cases sv with
  | none=>exact h5.elim
  | some v=>rw[h3 v rfl];exact h5 E' w' h1 h2 h4
 ·exact h args m nx K hk hwf hargs Γ E w hs
noncomputable def sQ (spec:List SV->Option (Prop×SV)):PT:=fun args m nx K=>match DX args with
 | true=>aT spec args m nx (fun v m nx=>K (lit v) m nx)
 | false=>aT spec args m nx K
theorem qL (spec:List SV->Option (Prop×SV)):aJ (sQ spec):=by
 intro args m nx K K' hK h;unfold sQ at h ⊢;split at h
 ·exact aN spec _ _ _ _ _ (fun v m nx=>hK _ _ _) h
 ·exact aN spec _ _ _ _ _ hK h
theorem CN {P:Program}{f:FuncId}{spec:List SV->Option (Prop×SV)}(h:au P f (aT spec)):au P f (sQ spec):=by
 intro args m nx K hk hwf hargs Γ E w hs;unfold sQ at hk;split at hk
 ·exact(h args m nx _ hk hwf hargs Γ E w hs).mono (fun e w' hh=>aV.aap hh) (fun _ _ h=>h)
 ·exact h args m nx K hk hwf hargs Γ E w hs
def M3 (t:List SV->Mem->Bool)(pt:PT):PT:=fun args m nx K=>match t args m with
 | true=>pt args m nx (fun v m nx=>K (lit v) m nx)
 | false=>pt args m nx K
theorem Jf {t:List SV->Mem->Bool}{pt:PT}(h:aJ pt):aJ (M3 t pt):=by
 intro args m nx K K' hK hh;unfold M3 at hh ⊢;split at hh
 ·exact h _ _ _ _ _ (fun v m nx=>hK _ _ _) hh
 ·exact h _ _ _ _ _ hK hh
theorem SQ {P:Program}{f:FuncId}{t:List SV->Mem->Bool}{pt:PT}(h:au P f pt):au P f (M3 t pt):=by
 intro args m nx K hk hwf hargs Γ E w hs;unfold M3 at hk;split at hk
 ·exact(h args m nx _ hk hwf hargs Γ E w hs).mono (fun e w' hh=>aV.aap hh) (fun _ _ h=>h)
 ·exact h args m nx K hk hwf hargs Γ E w hs
def afU (m:Mem):SV->Bool
 | .aO=>true
 | .slc key o n _ _=>(match m.get key with
   | some (.cells cs _ _)=>DX ((cs.drop o).take n)
   | _=>false)
 | _=>false
end Go.Proofs.YtpaaiebohjjieaaGreatDoor.Sx
namespace Go.Proofs.YtpaaiebohjjieaaGreatDoor
open Go Sx
set_option maxRecDepth 20000
noncomputable def Cz:List (FuncId×PT) :=
 (137,m7 tZ)::(160,M3 (fun args m=>afU m (args.headD .cc)) xJ)::(68,m7 Co)::(96,sQ CH) ::
 (39,sQ yL)::(138,m7 uW)::(195,m7 Pf)::(78,sQ xF)::kK
theorem pz:aU Tryz.prog (fun f=>aA f Cz) :=
 .cons (oP Sk) (gY _) (.cons (SQ P0) (Jf FO) (.cons (oP Wc) (gY _) (.cons (CN W4) (qL _)
  (.cons (CN Rc) (qL _) (.cons (oP K5) (gY _) (.cons (oP aeB) (gY _) (.cons (CN PU) (qL _) fO)))))))
noncomputable def apP:gF:={cF with cM:=fun f=>aA f Cz,rounds:=4}
theorem apX:Sx.Good Tryz.prog apP:=.of bO pz bt
theorem oY {x y:List UInt8}{i:Int}(h0:0<=i)(h:i<x.length):ai (x++y) i=ai x i:=by unfold ai;rw[List.getD_eq_getElem?_getD,List.getD_eq_getElem?_getD,List.getElem?_append_left (by omega)]
theorem mD (b:UInt8)(l:List UInt8):ai (b::l) 0=(b.toNat:Int):=rfl
theorem B8 (b c:UInt8)(l:List UInt8):ai (b::c::l) 1=(c.toNat:Int):=rfl
theorem ofNat_toNat {n:Int}(h0:0<=n)(h:n<256):((UInt8.ofNat n.toNat).toNat:Int)=n:=by rw[UInt8.toNat_ofNat'];omega
theorem tS {k:Nat}{n:Int}(h:n<=0):Ls k n=[]:=by
 cases k with
 | zero=>rfl
 | succ k=>unfold Ls;rw[if_neg (by omega)]
theorem Hp {k:Nat}{n:Int}(h:0<n):Ls (k+1) n=Ls k (n / 256)++[UInt8.ofNat (n% 256).toNat]:=by
 conv=>lhs;unfold Ls
 rw[if_pos h]
theorem YA: ∀(k:Nat) (n:Int),0<=n->n<256^ k->num (Ls k n)=n
 | 0,n,h0,h=>by
   have:n=0:=by simp at h;omega
   subst this;rfl
 | k+1,n,h0,h=>by
   by_cases hp:0<n
   ·rw[Int.pow_succ] at h;rw[Hp hp,uq,YA k (n / 256) (by omega) (by omega),ofNat_toNat (by omega) (by omega)];omega
   ·have:n=0:=by omega
    subst this;rw[tS (Int.le_refl _)];rfl
theorem xg {x:List UInt8}{b:UInt8}(h:x≠[]):ai (x++[b]) 0=ai x 0:=by have:=List.length_pos_iff.2 h;exact oY (Int.le_refl _) (by omega)
theorem RK: ∀(k:Nat) (n:Int),0<n->n<256^ k->Ls k n≠[]/\ai (Ls k n) 0≠0
 | 0,n,h0,h=>by simp at h;omega
 | k+1,n,h0,h=>by
   rw[Int.pow_succ] at h;rw[Hp h0];refine⟨by simp,?_⟩;by_cases hp:0<n / 256
   ·obtain⟨h1,h2⟩:=RK k (n / 256) hp (by omega);rw[xg h1];exact h2
   ·rw[tS (by omega),List.nil_append,mD,ofNat_toNat (by omega) (by omega)];omega
theorem Tm: ∀(n:Nat) (l:List UInt8),l.length<=n->ai l 0≠0->0<num l
 | 0,l,hn,h=>by have:l=[]:=List.length_eq_zero_iff.1 (by omega);subst this;exact absurd rfl h
 | n+1,l,hn,h=>by
   rcases List.eq_nil_or_concat l with rfl | ⟨r,b,rfl⟩
   ·exact absurd rfl h
   ·rw[List.concat_eq_append] at h hn ⊢;rw[uq];by_cases hr:r=[]
    ·subst hr;rw[List.nil_append,mD] at h;have:num []=0:=rfl;rw[this];omega
    ·rw[xg hr] at h;have h2:=Tm n r (by simp at hn;omega) h;omega
theorem akM (l:List UInt8)(h:ai l 0≠0):0<num l:=Tm l.length l (Nat.le_refl _) h
theorem aeC: ∀(k:Nat) (l:List UInt8),l.length<=k->(l=[]∨ai l 0≠0)->Ls k (num l)=l
 | 0,l,h,_=>by have:l=[]:=List.length_eq_zero_iff.1 (by omega);subst this;rfl
 | k+1,l,h,hl=>by
   rcases List.eq_nil_or_concat l with rfl | ⟨r,b,rfl⟩
   ·exact tS (Int.le_refl _)
   ·rw[List.concat_eq_append] at hl h ⊢;have hne:ai (r++[b]) 0≠0:=by
     rcases hl with hl | hl
     ·simp at hl
     ·exact hl
    have hp:=akM _ hne;have hb:=b.toNat_lt;rw[Hp hp];rw[uq] at hp ⊢;have e1:(num r*256+(b.toNat:Int)) / 256=num r:=by omega
    have e2:((num r*256+(b.toNat:Int))% 256).toNat=b.toNat:=by omega
    rw[e1,e2,UInt8.ofNat_toNat];congr 1;refine aeC k r (by simp at h;omega) ?_;by_cases hr:r=[]
    ·exact .inl hr
    ·rw[xg hr] at hne;exact .inr hne
theorem Mg: ∀(j k:Nat) (n:Int),n<256^ j->(Ls k n).length<=j
 | 0,k,n,h=>by rw[tS (by simp at h;omega)];simp
 | j+1,0,n,h=>by simp[Ls]
 | j+1,k+1,n,h=>by
   by_cases hp:0<n
   ·rw[Int.pow_succ] at h;rw[Hp hp];have:=Mg j k (n / 256) (by omega);simp only[List.length_append,List.length_cons,List.length_nil];omega
   ·rw[tS (by omega)];simp
theorem Ij {n:Int}(h0:0<=n)(h:n<18446744073709551616):num (digits n)=n:=YA 8 n h0 h
theorem FK {n:Int}(h0:0<n)(h:n<18446744073709551616):digits n≠[]/\ai (digits n) 0≠0:=RK 8 n h0 h
theorem aa7 {l:List UInt8}(h:l.length<=8)(h2:l=[]∨ai l 0≠0):digits (num l)=l:=aeC 8 l h h2
theorem RM:digits 0=[]:=tS (Int.le_refl _)
theorem Pq {n:Int}(h:n<16777216):(digits n).length<=3:=Mg 3 8 n h
theorem IK {base:Int}{n:Nat}(h:n<=55):cP base n=[UInt8.ofNat (base+n).toNat]:=if_pos h
theorem MC {base:Int}{n:Nat}(h: ¬ n<=55):cP base n=UInt8.ofNat (base+55+(digits n).length).toNat::digits n:=if_neg h
theorem YZ {s:List UInt8}{base n:Int}(hb:base=128∨base=192)(h0:0<=n)(h:n<64)(h1:ai s 0=base+n):lead s=n/\¬ ai s 0<128/\(ai s 0<192↔base=128):=by
 unfold lead;rcases hb with rfl | rfl
 ·rw[if_pos (by omega)];omega
 ·rw[if_neg (by omega)];omega
structure AX (base:Int)(n:Nat)(s d t:List UInt8):Prop where
 eq:s=UInt8.ofNat (base+55+d.length).toNat::(d++t)
 num:num d=n
 hd:ai d 0≠0
 len:1<=d.length/\d.length<=3
theorem akD {base:Int}{n:Nat}(h: ¬ n<=55)(h2:n<=1048576)(t:List UInt8):AX base n (cP base n++t) (digits n) t:=by have h1:=FK (n:=n) (by omega) (by omega);have h3:=List.length_pos_iff.2 h1.1;exact⟨by rw[MC h];rfl,Ij (by omega) (by omega),h1.2,by omega,Pq (by omega)⟩
theorem AX.ap3 {base:Int}{n:Nat}{s d t:List UInt8}(hb:base=128∨base=192)(h:AX base n s d t):ai s 0=base+55+d.length/\lead s=55+d.length/\¬ ai s 0<128/\(ai s 0<192↔base=128):=by
 have hl:=h.len;have h0:ai s 0=base+55+d.length:=by rw[h.eq,mD,ofNat_toNat (by omega) (by omega)]
 obtain⟨h1,h2,h3⟩:=YZ (s:=s) (base:=base) (n:=55+d.length) hb (by omega) (by omega) (by omega);exact⟨h0,h1,h2,h3⟩
theorem AX.part' {base:Int}{n:Nat}{s d t:List UInt8}(h:AX base n s d t):part s (d.length+1)=n/\ai s 1≠0:=by
 have hl:=h.len;constructor
 ·unfold part;rw[h.eq];have e:((d.length:Int)+1 - 1).toNat=d.length:=by omega
  rw[e,List.drop_one,List.tail_cons,List.take_left];exact h.num
 ·rw[h.eq];have h2:=h.hd
  match d,hl with
  | c::d,_ =>rw[mD] at h2;rw[List.cons_append,B8];exact h2
theorem AX.cut {base:Int}{n:Nat}{s d t:List UInt8}(hb:base=128∨base=192)(hn:55<n)(hn2:n<=1048576)(h:AX base n s d t):cA s=decide (n<=t.length)/\dD s=decide (base=192)/\aa s=t.take n/\aC s=t.drop n:=by
 obtain⟨b0,l1,l2,l3⟩:=h.ap3 hb;obtain⟨p1,p2⟩:=h.part';have hl:=h.len;have e1:lead s - 54=d.length+1:=by omega
 have hs:s.length=1+d.length+t.length:=by rw[h.eq];simp;omega
 have hlen:uc s (lead s - 54)=true:=lI.2 (by rw[e1,p1];exact⟨by omega,p2,by omega,by omega⟩);rw[e1] at hlen;obtain⟨c1,c2⟩:=rq (s:=s) l2 (by omega);refine⟨?_,?_,?_,?_⟩
 ·rw[Bool.eq_iff_iff,gZ];have hne:s≠[]:=by rw[h.eq];simp
  have hL:55<lead s:=by omega
  simp only[hne,ne_eq,not_false_eq_true,l2,hL,hlen,e1,p1,true_and,false_or,not_true_eq_false,false_and,or_false,decide_eq_true_eq];omega
 ·unfold dD;rcases hb with rfl | rfl
  ·have:=l3.2 rfl;simp;omega
  ·simp;omega
 ·rw[c1,e1,p1,h.eq];have e:((d.length:Int)+1).toNat=d.length+1:=by omega
  rw[e,List.drop_succ_cons,List.drop_left,Int.toNat_natCast]
 ·rw[c2,e1,p1,h.eq];have e:((d.length:Int)+1+n).toNat=d.length+n+1:=by omega
  rw[e,List.drop_succ_cons,← List.drop_drop,List.drop_left]
theorem acF {base:Int}{n:Nat}{s t:List UInt8}(hb:base=128∨base=192)(hn:n<=55)(h:s=UInt8.ofNat (base+n).toNat::t) :
  (cA s=true↔n<=t.length/\¬ (base=128/\n=1/\ai t 0<128))/\dD s=decide (base=192)/\aa s=t.take n/\aC s=t.drop n:=by
 have h0:ai s 0=base+n:=by rw[h,mD,ofNat_toNat (by omega) (by omega)]
 obtain⟨l1,l2,l3⟩:=YZ (s:=s) (base:=base) (n:=n) hb (by omega) (by omega) h0;have hs:s.length=1+t.length:=by rw[h];simp;omega
 obtain⟨c1,c2⟩:=vn (s:=s) l2 (by omega);have hb1:0<t.length->ai s 1=ai t 0:=fun hp=>by
  rw[h]
  match t,hp with
  | c::t,_=>rw[B8,mD]
 refine⟨?_,?_,?_,?_⟩
 ·rw[gZ];have hne:s≠[]:=by rw[h];simp
  have hL: ¬ (55:Int)<n:=by omega
  simp only[hne,ne_eq,not_false_eq_true,l2,hL,true_and,false_or,false_and,l1,l3];constructor
  ·rintro⟨a,b⟩;refine⟨by omega,fun⟨x,y,z⟩=>b ⟨x,by omega,by rw[hb1 (by omega)];exact z⟩⟩
  ·rintro⟨a,b⟩;refine⟨by omega,fun⟨x,y,z⟩=>b ⟨x,by omega,by rw[hb1 (by omega)] at z;exact z⟩⟩
 ·unfold dD;rcases hb with rfl | rfl
  ·have:=l3.2 rfl;simp;omega
  ·simp;omega
 ·rw[c1,l1,h,Int.toNat_natCast];rfl
 ·rw[c2,l1,h];have e:(1+(n:Int)).toNat=n+1:=by omega
  rw[e,List.drop_succ_cons]
theorem YD {base:Int}{x:List UInt8}(hb:base=128∨base=192)(hx:x.length<=1048576)(h1: ¬ (base=128/\x.length=1/\ai x 0<128))(rest:List UInt8) :
  cA (cP base x.length++x++rest)=true/\dD (cP base x.length++x++rest)=decide (base=192)/\aa (cP base x.length++x++rest)=x/\aC (cP base x.length++x++rest)=rest:=by
 rw[List.append_assoc];by_cases hn:x.length<=55
 ·obtain⟨g1,g2,g3,g4⟩:=acF (s:=cP base x.length++(x++rest)) (t:=x++rest) hb hn (by rw[IK hn];rfl);refine⟨g1.2 ⟨by simp,fun⟨a,b,c⟩=>h1 ⟨a,b,?_⟩⟩,g2,by rw[g3,List.take_left],by rw[g4,List.drop_left]⟩
  rwa [oY (Int.le_refl _) (by omega)] at c
 ·obtain⟨g1,g2,g3,g4⟩:=(akD (base:=base) hn hx (x++rest)).cut hb (by omega) hx;exact⟨by rw[g1];simp,g2,by rw[g3,List.take_left],by rw[g4,List.drop_left]⟩
theorem BQ {b:List UInt8}(h:b.length=1/\ai b 0<128):aB b=b:=if_pos h
theorem yM {b:List UInt8}(hb:b.length<=1048576)(rest:List UInt8):cA (aB b++rest)=true/\dD (aB b++rest)=false/\aa (aB b++rest)=b/\aC (aB b++rest)=rest:=by
 by_cases h:b.length=1/\ai b 0<128
 ·rw[BQ h]
  match b,h with
  | [c],h =>have h0:ai ([c]++rest) 0<128:=h.2;obtain⟨g1,g2,g3⟩:=qQ h0;exact⟨gZ.2 ⟨by simp,.inl h0⟩,g1,by rw[g2];rfl,by rw[g3];rfl⟩
 ·rw[q7 h];exact YD (base:=128) (.inl rfl) hb (fun x=>h x.2) rest
theorem yN (b:List UInt8):(aB b).length<=b.length+9:=by
 by_cases h:b.length=1/\ai b 0<128
 ·rw[BQ h];omega
 ·rw[q7 h];have:=xH 128 b.length;simp only[List.length_append];omega
end Go.Proofs.YtpaaiebohjjieaaGreatDoor
namespace Go.Proofs.YtpaaiebohjjieaaGreatDoor.Sx
open Go
theorem Yl {P:Program}{f:FuncId}{fn:Func}(hf:P.funcs[f]?=some fn) (hn:(fn.name== "runtime.NumGoroutine")=false) (hb:fn.body.isSome=true) {n:Nat} {spec:List SV->Option (Prop×b7)}
  (h: ∀ args p a,spec args=some (p,a)->p->∃ cfg args',Good P cfg/\(∀ E,SV.vals E args'=SV.vals E args)/\SV.gM 0 args'=true/\a.Ok/\aq (gR P (calling P cfg n) [] Al (cfg.aR f) cfg.rounds fn args' [] 0 (fun v m _=>a.fit v m))):au P f (bW spec):=by
 intro args m nx K hk hwf hargs Γ E w hs;unfold bW at hk;split at hk
 ·rename_i p a hr;obtain⟨hp,hk⟩:=hk;obtain⟨cfg,args',hg,e,h1,h2,h3⟩:=h _ _ _ hr hp;have hc:=gG hg hf hn hb h3 rfl h1 (aG.none w hs.G2);rw[SV.oN h1 (fun _=>0) E,e,oM] at hc;refine ic hf hn hb (hc.mono ?_);rintro e w' ⟨v,rfl,E',sv,m',nx',_,_,g3,g4,g5⟩;refine⟨v,rfl,?_⟩;cases sv with
  | none=>exact g5.elim
  | some u=>rw[g3 u rfl];exact b7.told hs hwf g4 h2 g5 hk
 ·exact hk.elim
theorem gz {P:Program}{f:FuncId}{spec:List SV->Option (Prop×SV)}(h:au P f (bW fun args=>(spec args).map fun p=>(p.1,.ret p.2))):au P f (aT spec):=by
 intro args m nx K hk;refine h args m nx K ?_;unfold aT at hk;unfold bW;split at hk
 ·rename_i p r hr;simp only[hr,Option.map_some];exact hk
 ·exact hk.elim
end Go.Proofs.YtpaaiebohjjieaaGreatDoor.Sx
namespace Go.Proofs.YtpaaiebohjjieaaGreatDoor
open Go Sx
set_option maxRecDepth 20000
structure gd (n:Nat)(t:Nat->Bool)(i:Nat):Prop where
 le:i<=n
 all: ∀ j,j<i->t j=true
noncomputable def A2 (tmp n:Nat)(t:Nat->Bool):bp :={α:=Nat,pre:=fun _ i=>gd n t i,sM:=fun _ i=>n - i,fresh:=0,slots:=fun _ i=>[(tmp,.int .i64 false i)],mem:=fun _ _=>[]}
def Qr (p:List UInt8)(i:Nat):Bool:=!decide (15<ai p i)
def oB (p:List UInt8):Bool:=(List.range p.length).all (Qr p)
noncomputable def ad8 (p:List UInt8):gF:={cF with cM:=fun f=>aA f Cz,aR:=fun f=>if f=252 then [(2,always (A2 6 p.length (Qr p)))] else []}
theorem anP (p:List UInt8):Sx.Good Tryz.prog (ad8 p):=.of bO pz bt
def pF (k:List UInt8)(j:Nat):Int:=if j% 2=0 then ai k (j / 2) / 16 else ai k (j / 2)% 16
def ay (k:List UInt8):List UInt8:=eP (pF k) 0 (2*k.length)
noncomputable def ajQ (k:List UInt8):bp :=
 {α:=Nat×Nat,pre:=fun _ x=>x.1<=k.length/\2*x.1<=x.2,sM:=fun _ x=>k.length - x.1,fresh:=1,slots:=fun st x=>[(11,.int .i64 false x.1),(3,.bI st.nx 1 false 0 (2*x.1) x.2)],
  mem:=fun st x=>[(st.nx,.rows false (2*x.1) [.int .u8 (pF k)] false x.2 5)]}
noncomputable def ad6 (k:List UInt8):gF:={cF with cM:=fun f=>aA f Cz,aR:=fun f=>if f=31 then [(3,always (ajQ k))] else []}
theorem anN (k:List UInt8):Sx.Good Tryz.prog (ad6 k):=.of bO pz bt
def ny (p:List UInt8)(j:Nat):Int:=bitsOf .or (ai p (2*(j:Int))*16% 256) (ai p (2*(j:Int)+1))
def dJ (p:List UInt8):List UInt8:=eP (ny p) 0 (p.length / 2)
noncomputable def adE (p:List UInt8):bp :=
 {α:=Nat×(Nat->Int),pre:=fun _ x=>x.1<=p.length / 2/\∀ j,j<x.1->x.2 j=ny p j,sM:=fun _ x=>p.length / 2 - x.1,fresh:=0,slots:=fun _ x=>[(11,.int .i64 false x.1)],
  mem:=fun st x=>match slot st.tmps 3 with
   | some (.bI k _ _ _ _ _)=>(match st.m.get k with
     | some (.rows z n _ ro tot ty)=>[(k,.rows z n [.int .u8 x.2] ro tot ty)]
     | _=>[])
   | _=>[]}
noncomputable def ad7 (p:List UInt8):gF:={cF with cM:=fun f=>aA f Cz,aR:=fun f=>if f=253 then [(3,always (adE p))] else []}
theorem anO (p:List UInt8):Sx.Good Tryz.prog (ad7 p):=.of bO pz bt
def mF (leaf odd:Bool):Int:=(bif leaf then 2 else 0)+(bif odd then 1 else 0)
section
variable (n m k i : Nat) (s : List UInt8) (p q r P Q z B C D : Prop) (a b : Int) (E G : SB) (x h : Nat × Nat) (F : TypeId) (g : List aK) (y : Nat × (Nat -> Int)) (o : Nat -> Int) (f : aK) (A : Nat -> Prop)
abbrev fJ:=NI x.1
abbrev mN:=2*x.1
abbrev C4:=x.2=x.2*1
abbrev mP:=fJ x+1=fJ h
abbrev mQ:=fJ x+1
abbrev qn:=bitsOf BinOp.and a b
abbrev cB:List aK:=[f]
abbrev Dg:=aK.int IntKind.u8 o
abbrev cg:=p/\n - m<k - i
abbrev gB:=SB.rows false n g false m F
abbrev eY:=bT n m (k<=x.2)
abbrev gp:=p/\aI q r P Q z
abbrev mz:=SV.bool true true
abbrev gU:=NI n+1=NI m
abbrev fh:=0=NI n
abbrev jb:=I6 (NI n+1)
abbrev qq:=Ix (NI n) a
abbrev jh:=ak p q True
abbrev fN:=jb n/\Exists A
abbrev Au:=NI y.1
abbrev Zw:=bT y.1 (List.length s / 2) (∀(a:Nat),a<y.1->y.2 a=ny s a)
abbrev rP:=Int.toNat (bP s / 2)
abbrev Kc:=ak (0<=bP s) (eI (bP s)) ((0:Int)<2)
abbrev wQ:=2*Au y
abbrev bl:=aI p q r P (aI Q z B C D)
abbrev cZ:=aL p q (af E G) r
abbrev fA:=bf p q a (NI n)
abbrev sV:Int:=if n=m then a else b
abbrev fM:=0+Int.toNat a
abbrev GD:=SV.int IntKind.u8 true a
abbrev dz:=GD 0
end
theorem aiZ (p:List UInt8)(R:SV->Prop):VC.holds (fS (ad8 p) 252 Tryz.f252 [.str false p] R)=((∃(a:Nat),jh (gd (List.length p) (Qr p) a) (fh a))/\(∀(a:Nat),gd (List.length p) (Qr p) a->bf (qq a (bP p)/\bf (R fK) (fN a (fun b=>jh (cg (List.length p) b (List.length p) a (gd (List.length p) (Qr p) b)) (gU a b))) 15 (ai p (NI a))) (R mz) (NI a) (bP p))):=by kernel_rfl
theorem alP (k:List UInt8)(R:SV->Prop):VC.holds (fS (ad6 k) 31 Tryz.f31 [.str false k] R)=(aL (I6 (2*bP k)) (oe (eI (2*bP k)) (2*bP k) (1*(2*bP k)) 140737488355328) (∃(a:Nat×Nat),gp (eY a.1 (List.length k) (mN a) a) (0=fJ a) (dn 0 (mN a) (Int.toNat (2*bP k)) a.2) True (bH (Int.toNat (2*bP k)*1) (gB (mN a) a.2 5 (cB (Dg (pF k)))) List.nil 5) True) (∀(a:Nat×Nat),eY a.1 (List.length k) (mN a) a->bf (gp (lV k (fJ a)) (lV k (fJ a)) (aL (0<=ai k (fJ a)) (ai k (fJ a)<=255) ((0:Int)<=15) ((15:Int)<=255)) (fW (cI (mN a) (mN a)) (jd (2*(mN a+2)*1)) (cr (mN a+2))) (C4 a) (∀(b:Nat),aX (mN a+2) b (dG (∃(c:Nat×Nat),gp (cg (List.length k) c.1 (List.length k) a.1 (eY c.1 (List.length k) (mN c) c)) (mP a c) (dn (mN a+2) (mN c) b c.2) True (af (gB (mN a+2) (b*1) 5 (cB (Dg (fun b=>if b<mN a then pF k b else LR [ai k (fJ a) / 16,qn (ai k (fJ a)) 15] (b - mN a))))) (gB (mN c) c.2 5 (cB (Dg (pF k))))) True) (mQ a)))) (bT (0+mN a) (mN a) (R (ax (eP (pF k) 0 (mN a))))) (fJ a) (bP k))):=by kernel_rfl
theorem aiY (p:List UInt8)(R:SV->Prop):VC.holds (fS (ad7 p) 253 Tryz.f253 [.str false p] R)=(aL (Kc p) (aL (Er (bP p / 2)) (0<=bP p / 2) (1*(bP p / 2)<=140737488355328) (eI (bP p / 2))) (∃(a:Nat×(Nat->Int)),cZ (Zw p a) (0=Au a) True (gB (rP p) (rP p*1) 5 (cB (Dg (fun _=>0)))) (gB (rP p) (rP p*1) 5 (cB (Dg a.2)))) (∀(a:Nat×(Nat->Int)),Zw p a->fA (rP p) (dG (bl (lV p (wQ a)) (I6 (wQ a)) (I6 (wQ a+1)) (lV p (wQ a+1)) (aL (0<=jc (ai p (wQ a)*16)) (jc (ai p (wQ a)*16)<=255) (0<=ai p (wQ a+1)) (ai p (wQ a+1)<=255)) (fo (rP p) (Au a)) (fM (Au a)<rP p) (I6 (Au a+1)) (∃(b:Nat×(Nat->Int)),cZ (cg (List.length p / 2) b.1 (List.length p / 2) a.1 (Zw p b)) (Au a+1=Au b) True (gB (rP p) (rP p*1) 5 (cB (Dg (fun b=>sV b (fM (Au a)) (iS (jc (ai p (wQ a)*16)) (ai p (wQ a+1))) (a.2 b))))) (gB (rP p) (rP p*1) 5 (cB (Dg b.2))))) (wQ a)) (bT (0+rP p) (rP p) (R (ax (eP a.2 0 (rP p))))) (Au a))):=by kernel_rfl
theorem alO (a b:Bool)(R:SV->Prop):VC.holds (fS apP 320 Tryz.f320 [.bool false a,.bool false b] R)=(Bk a (Bk b (R (GD 3)) (Bk a (R (GD 2)) (Bk b (R (GD 1)) (R dz)))) (Bk a (R (GD 2)) (Bk b (R (GD 1)) (R dz)))):=by kernel_rfl
end Go.Proofs.YtpaaiebohjjieaaGreatDoor
