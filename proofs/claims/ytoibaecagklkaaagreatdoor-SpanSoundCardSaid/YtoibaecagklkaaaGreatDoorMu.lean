/-
  Canon: a part above its kids: a plain law.
-/
import Derived.Test.YtoibaecagklkaaaGreatDoorMt
import Derived.Test.YtoibaecagklkaaaGreatDoorMs
namespace Go.Proofs.YtoibaecagklkaaaGreatDoor
open Go Sx
set_option maxRecDepth 20000
def Pd.top (P:Pd)(a a1:Nat)(t:List UInt8)(nb cb:Nat)(f:Nat->Nat):Pd :=
 {D:=fun b=>P.D b||b.beq a1,iF:=fun b=>bif P.D b then P.iF b else t,fb:=fun b=>bif P.D b then P.fb b else a,nb:=fun b=>bif P.D b then P.nb b else nb,cb:=fun b=>bif P.D b then P.cb b else cb,
  D2:=fun b=>P.D2 b||b.beq a&& !(true&&nb.beq 0),n2:=fun b=>bif P.D2 b then P.n2 b else nb,g:=fun b i=>bif P.D2 b then P.g b i else f i}
def Pd.one (a a1:Nat)(t:List UInt8)(nb cb:Nat)(f:Nat->Nat):Pd :=
 {D:=fun b=>b.beq a1,iF:=fun _=>t,fb:=fun _=>a,nb:=fun _=>nb,cb:=fun _=>cb,D2:=fun b=>b.beq a&& !(true&&nb.beq 0),n2:=fun _=>nb,g:=fun _=>f}
theorem Uo (P:Pd)(a a1:Nat)(t:List UInt8)(nb cb:Nat)(f:Nat->Nat):P.top a a1 t nb cb f=P.or (Pd.one a a1 t nb cb f):=rfl
theorem MV {P:Pd}{d a a1 nb cb:Nat}{t:List UInt8}{f:Nat->Nat}{B:List (List UInt8)}(hd: ∀ b,P.D b=true->b.beq a1=false)(hd2: ∀ b,P.D2 b=true->(b.beq a&& !(true&&nb.beq 0))=false)(h:jd P d nb f B) :
  Told (P.top a a1 t nb cb f) (d+1) a1 (t::B):=by
 obtain⟨Ks,h1,h2,h3⟩:=h
 have e:a1.beq a1=true:=Nat.beq_refl a1
 have hp:P.D a1=false:=by
  cases h:P.D a1 with
  | false=>rfl
  | true=>rw[hd a1 h] at e;cases e
 have e2:(P.top a a1 t nb cb f).nb a1=nb:=by show(bif P.D a1 then _ else _)=_;rw[hp];rfl
 have e3:(P.top a a1 t nb cb f).fb a1=a:=by show(bif P.D a1 then _ else _)=_;rw[hp];rfl
 have e4:(P.top a a1 t nb cb f).iF a1=t:=by show(bif P.D a1 then _ else _)=_;rw[hp];rfl
 have hn:0<nb->(a.beq a&& !(true&&nb.beq 0))=true:=fun h=>by
  have:nb.beq 0=false:=by cases nb with
   | zero=>omega
   | succ n=>rfl
  rw[this,show a.beq a=true from Nat.beq_refl a];rfl
 have hp2:0<nb->P.D2 a=false:=fun h=>by
  cases g:P.D2 a with
  | false=>rfl
  | true=>have:=hd2 a g;rw[hn h] at this;cases this
 refine⟨by show(P.D a1||a1.beq a1)=true;rw[e,Bool.or_true],Ks,e2.trans h1,fun h=> ?_,by rw[e4,h2],fun i L' hi=> ?_⟩
 ·rw[← h1] at h
  rw[e3]
  refine⟨by show(P.D2 a||_)=true;rw[hn h,Bool.or_true],?_⟩
  show _<=(bif P.D2 a then _ else nb)
  rw[hp2 h,h1];exact Nat.le_refl _
 ·have hk:0<Ks.length:=Nat.lt_of_le_of_lt (Nat.zero_le _) (List.getElem?_eq_some_iff.1 hi).1
  have:(P.top a a1 t nb cb f).g ((P.top a a1 t nb cb f).fb a1) i=f i:=by
   rw[e3];show(bif P.D2 a then _ else f i)=_;rw[hp2 (by omega)];rfl
  rw[this,Uo];exact va (h3 i L' hi)
def Pd.leaf (a:Nat)(t:List UInt8):Pd:={D:=fun b=>b.beq a,iF:=fun _=>t,fb:=fun _=>0,nb:=fun _=>0,cb:=fun _=>0,D2:=fun _=>false,n2:=fun _=>0,g:=fun _ _=>0}
theorem Ly (d a:Nat)(t:List UInt8):Told (Pd.leaf a t) (d+1) a [t]:=⟨Nat.beq_refl a,[],rfl,fun h=>absurd h (Nat.lt_irrefl 0),rfl,fun i L' hi=>by simp at hi⟩
def ow (i:Nat)(p:List UInt8):Bool:=match p with
 | []=>false
 | b::_=>decide (b.toNat<i)
theorem IJ (i:Nat)(p:List UInt8):(jD i p=true->ow i p=false/\ow (i+1) p=true)/\(jD i p=false->ow (i+1) p=ow i p):=by
 cases p with
 | nil=>exact⟨fun h=>(by cases h),fun _=>rfl⟩
 | cons b q =>
   refine⟨fun h=> ?_,fun h=> ?_⟩
   ·have h:b.toNat=i:=of_decide_eq_true h
    exact⟨decide_eq_false (by omega),decide_eq_true (by omega)⟩
   ·have h: ¬ b.toNat=i:=of_decide_eq_false h
    show decide (b.toNat<i+1)=decide (b.toNat<i)
    exact decide_eq_decide.2 (by omega)
theorem El (i:Nat): ∀ l:List Rw,(l.filter fun r=>ow i r.1).length+(bx i l).length=(l.filter fun r=>ow (i+1) r.1).length
 | []=>rfl
 | x::l=>by
   have ih:=El i l
   obtain⟨h1,h2⟩:=IJ i x.1
   unfold bx at ih ⊢
   rw[List.filter_cons,List.filter_cons,List.filter_cons]
   cases h:jD i x.1 with
   | true =>
     obtain⟨g1,g2⟩:=h1 h
     rw[g1,g2]
     simp only[if_true,Bool.false_eq_true,if_false,List.length_cons];omega
   | false =>
     rw[h2 h]
     cases ow i x.1<;>simp only[if_true,Bool.false_eq_true,if_false,List.length_cons]<;>omega
def nJ (l:List Rw):Nat->Nat
 | 0=>0
 | i+1=>nJ l i+(bM l i).length
theorem BU (l:List Rw)(i:Nat):nJ l i<=l.length:=by
 match l with
 | []=>induction i with
   | zero=>exact Nat.le_refl _
   | succ i ih=>exact ih
 | [r]=>induction i with
   | zero=>exact Nat.zero_le _
   | succ i ih=>exact ih
 | r::s::t =>
   by_cases hk:0<bH r.1 ((s::t).getLastD r).1
   ·cases i with
    | zero=>exact Nat.zero_le _
    | succ i =>
      induction i with
      | zero =>
        show 0+(bM (r::s::t) 0).length<=_
        rw[cP,if_pos hk,if_pos rfl,Nat.zero_add,bT,List.length_map];exact Nat.le_refl _
      | succ i ih =>
        show nJ (r::s::t) (i+1)+(bM (r::s::t) (i+1)).length<=_
        rw[cP,if_pos hk,if_neg (Nat.succ_ne_zero i)];exact ih
   ·have:nJ (r::s::t) i<=((r::s::t).filter fun x=>ow i x.1).length:=by
     induction i with
     | zero=>exact Nat.zero_le _
     | succ i ih =>
       show nJ (r::s::t) i+(bM (r::s::t) i).length<=_
       rw[cP,if_neg hk,bT,List.length_map,← El i (r::s::t)]
       omega
    exact Nat.le_trans this (List.length_filter_le _ _)
theorem gF (m:Nat)(l:List Rw)(i:Nat):eE m l (i+1)=eE m l i++kP m (bM l i):=by
 unfold eE
 rw[List.range_succ,List.flatMap_append]
 simp
theorem mO (m:Nat)(l:List Rw):ey (m+1) l=eE m l 16:=rfl
mutual
theorem yj: ∀(m:Nat) (l:List Rw),(kP m l).length<=(m+1)*l.length
 | m,l=>by
   unfold kP
   by_cases h:l=[]
   ·rw[if_pos h];exact Nat.zero_le _
   ·rw[if_neg h]
    have hb:=B5 m l
    have hp:1<=l.length:=List.length_pos_iff.2 h
    have:(if(ctext m l).length<32 then([]:List (List UInt8))else [ctext m l]).length<=1:=by split<;>simp
    rw[List.length_append,Nat.add_mul,Nat.one_mul];omega
 termination_by m=>(m,1)
theorem B5: ∀(m:Nat) (l:List Rw),(ey m l).length<=m*l.length
 | 0,_=>Nat.zero_le _
 | m+1,l=>by
   have: ∀ i,(eE m l i).length<=(m+1)*nJ l i:=fun i=>by
    induction i with
    | zero=>exact Nat.zero_le _
    | succ i ih =>
      have:=yj m (bM l i)
      rw[gF,List.length_append,nJ,Nat.mul_add];omega
   rw[mO]
   exact Nat.le_trans (this 16) (Nat.mul_le_mul_left _ (BU l 16))
 termination_by m=>(m,0)
end
theorem Et (m:Nat)(l:List Rw)(i:Nat):(eE m l i).length<=(m+1)*l.length:=by
 have: ∀ i,(eE m l i).length<=(m+1)*nJ l i:=fun i=>by
  induction i with
  | zero=>exact Nat.zero_le _
  | succ i ih =>
    have:=yj m (bM l i)
    rw[gF,List.length_append,nJ,Nat.mul_add];omega
 exact Nat.le_trans (this i) (Nat.mul_le_mul_left _ (BU l i))
theorem RQ (m:Nat)(x:List Rw×Nat):eT (.n (.s 0 (.n (.s 0 (.n .k (.s 0 .k))) (.s 0 (.n .k (.s 0 .k))))) (.n (.s 4 (.n (.s 0 (.n .k (.s 0 .k))) (.s 0 (.n .k (.s 0 .k))))) (.s 5 (.n (.s 11 (.n (.s 0 .k) (.s 0 (.n .k (.s 1 (.n .k (.s 3 (.n (.s 0 (.n .k (.s 0 .k))) (.s 0 (.n .k (.s 0 .k))))))))))) (.n (.s 0 (.n .k (.s 1 (.n .k (.s 2 (.n .k .t)))))) (.n (.s 0 (.n (.s 0 .k) (.s 1 (.n .k (.n .k (.s 4 (.n (.s 0 .k) (.s 0 (.n .k (.s 1 (.n (.s 0 .k) (.s 0 (.n .k (.n .k (.n .k (.s 4 (.n .k (.s 1 (.n (.s 0 .k) (.s 0 (.n .k (.n .k (.n .k (.n .k .t)))))))))))))))))))))))) (.s 1 (.n (.s 2 (.n (.s 0 (.n .k (.s 0 .k))) (.s 0 (.n .k (.s 0 .k))))) (.s 0 (.n (.s 0 (.n .k (.s 0 .k))) (.s 0 (.n .k (.s 0 .k))))))))))))) (runM (JK m x.1) 63 Tryz.f63 (ug (m+1)) x) ((fun R0:Nat->(Nat×ju)->SV=>((fun R1:Nat->(Nat×ju)->(qW)->SV=>((fun R2:Nat->(Nat×ju)->SV=>((fun P0:(List Rw×Nat×Nat)->SB=>(((decide ((x.fst.length:Int)=0)=true->Fits {k:=(0:Int),p:=[],v:=[],r:=fun(u160:Nat)=>[[],[],[],[],[],[],[],[],[],[],[],[],[],[],[],[]].getD u160 []:Nd}/\(aS {k:=(0:Int),p:=[],v:=[],r:=fun(u159:Nat)=>[[],[],[],[],[],[],[],[],[],[],[],[],[],[],[],[]].getD u159 []:Nd}=true->∀(u158:Nat),∃(u157:Nat×Pd),Told u157.snd (m+1+(1:Nat)) u157.fst (dH (m+1) x.fst)/\u158=u157.fst/\ah (SB.iw (fun(u156:Nat)=>u156.beq u158) [au.str fun(_u155:Nat)=>cu {k:=(0:Int),p:=[],v:=[],r:=fun(u154:Nat)=>[[],[],[],[],[],[],[],[],[],[],[],[],[],[],[],[]].getD u154 []:Nd},au.cn 0 1 true (fun(_u153:Nat)=>(0:Nat)) (fun(_u152:Nat)=>(0:Nat)) fun(_u151:Nat)=>(0:Nat)] 2 165 false) (u157.snd.parts 2)/\∀(u150:Nat),¬SB.eO 0 (u157.snd.lists 1) u150)/\(aS {k:=(0:Int),p:=[],v:=[],r:=fun(u149:Nat)=>[[],[],[],[],[],[],[],[],[],[],[],[],[],[],[],[]].getD u149 []:Nd}=false->∀(u148:Nat),∃(u147:Nat×Pd),Told u147.snd (m+1+(1:Nat)) u147.fst (dH (m+1) x.fst)/\u148=u147.fst /\ah (SB.iw (fun(u146:Nat)=>u146.beq u148) [au.str fun(_u145:Nat)=>[],au.cn 0 1 true (fun(_u144:Nat)=>(0:Nat)) (fun(_u143:Nat)=>(0:Nat)) fun(_u142:Nat)=>(0:Nat)] 2 165 false) (u147.snd.parts 2)/\∀(u141:Nat),¬SB.eO 0 (u147.snd.lists 1) u141))/\(decide ((x.fst.length:Int)=0)=false->(decide ((x.fst.length:Int)=1)=true->((0:Int)<=(0:Int)/\0<(x.fst.length:Int))/\0<x.fst.length/\((0:Int)<=(0:Int)/\0<(x.fst.length:Int))/\0<x.fst.length/\Fits {k:=(1:Int),p:=(x.fst.getD 0 ([],[])).fst,v:=(x.fst.getD 0 ([],[])).snd,r:=fun(u140:Nat)=>[[],[],[],[],[],[],[],[],[],[],[],[],[],[],[],[]].getD u140 []:Nd}/\(aS {k:=(1:Int),p:=(x.fst.getD 0 ([],[])).fst,v:=(x.fst.getD 0 ([],[])).snd,r:=fun(u139:Nat)=>[[],[],[],[],[],[],[],[],[],[],[],[],[],[],[],[]].getD u139 []:Nd}=true->∀(u138:Nat),∃(u137:Nat×Pd),Told u137.snd (m+1+(1:Nat)) u137.fst (dH (m+1) x.fst)/\u138=u137.fst /\ah (SB.iw (fun(u136:Nat)=>u136.beq u138) [au.str fun(_u135:Nat)=>cu {k:=(1:Int),p:=(x.fst.getD 0 ([],[])).fst,v:=(x.fst.getD 0 ([],[])).snd,r:=fun(u134:Nat)=>[[],[],[],[],[],[],[],[],[],[],[],[],[],[],[],[]].getD u134 []:Nd},au.cn 0 1 true (fun(_u133:Nat)=>(0:Nat)) (fun(_u132:Nat)=>(0:Nat)) fun(_u131:Nat)=>(0:Nat)] 2 165 false) (u137.snd.parts 2)/\∀(u130:Nat),¬SB.eO 0 (u137.snd.lists 1) u130)/\(aS {k:=(1:Int),p:=(x.fst.getD 0 ([],[])).fst,v:=(x.fst.getD 0 ([],[])).snd,r:=fun(u129:Nat)=>[[],[],[],[],[],[],[],[],[],[],[],[],[],[],[],[]].getD u129 []:Nd}=false->∀(u128:Nat),∃(u127:Nat×Pd),Told u127.snd (m+1+(1:Nat)) u127.fst (dH (m+1) x.fst)/\u128=u127.fst/\ah (SB.iw (fun(u126:Nat)=>u126.beq u128) [au.str fun(_u125:Nat)=>[],au.cn 0 1 true (fun(_u124:Nat)=>(0:Nat)) (fun(_u123:Nat)=>(0:Nat)) fun(_u122:Nat)=>(0:Nat)] 2 165 false) (u127.snd.parts 2)/\∀(u121:Nat),¬SB.eO 0 (u127.snd.lists 1) u121))/\(decide ((x.fst.length:Int)=1)=false->((0:Int)<=(0:Int)/\0<(x.fst.length:Int)) /\0<x.fst.length/\((-9223372036854775808:Int)<=(x.fst.length:Int) - 1/\(x.fst.length:Int) - 1<=(9223372036854775807:Int))/\(0<=(x.fst.length:Int) - 1/\(x.fst.length:Int) - 1<(x.fst.length:Int))/\0+((x.fst.length:Int) - 1).toNat<x.fst.length/\(x.fst.getD 0 ([],[])).fst.length<9223372036854775807/\(decide (0<(↑(bH (x.fst.getD 0 ([],[])).fst (x.fst.getD (0+((x.fst.length:Int) - 1).toNat) ([],[])).fst):Int))=true->((0:Int)<=(0:Int)/\0<(x.fst.length:Int))/\0<x.fst.length/\((-9223372036854775808:Int)<=(x.fst.length:Int) - 1/\(x.fst.length:Int) - 1<=(9223372036854775807:Int))/\(0<=(x.fst.length:Int) - 1/\(x.fst.length:Int) - 1<(x.fst.length:Int))/\0+((x.fst.length:Int) - 1).toNat<x.fst.length/\(x.fst.getD 0 ([],[])).fst.length<9223372036854775807/\((0:Int)<=(0:Int)/\0<(x.fst.length:Int))/\0<x.fst.length/\((0:Int)<=(0:Int)/\0<=(↑(bH (x.fst.getD 0 ([],[])).fst (x.fst.getD (0+((x.fst.length:Int) - 1).toNat) ([],[])).fst):Int) /\(↑(bH (x.fst.getD 0 ([],[])).fst (x.fst.getD (0+((x.fst.length:Int) - 1).toNat) ([],[])).fst):Int)<=(↑(x.fst.getD 0 ([],[])).fst.length:Int))/\(((false=false/\0+x.fst.length<=x.fst.length)/\True/\True)/\0<=(↑(bH (x.fst.getD 0 ([],[])).fst (x.fst.getD (0+((x.fst.length:Int) - 1).toNat) ([],[])).fst):Int)/\x.fst.length<=1000/\∀(u120:Nat),u120<x.fst.length->(↑(bH (x.fst.getD 0 ([],[])).fst (x.fst.getD (0+((x.fst.length:Int) - 1).toNat) ([],[])).fst):Int).toNat<=(x.fst.getD u120 ([],[])).fst.length)/\∀(u119:Nat),(bT (↑(bH (x.fst.getD 0 ([],[])).fst (x.fst.getD (0+((x.fst.length:Int) - 1).toNat) ([],[])).fst):Int).toNat (aX x.fst.length (fun(u118:Nat)=>(x.fst.getD u118 ([],[])).fst) fun(u117:Nat)=>(x.fst.getD u117 ([],[])).snd)).length<=u119->∃(u116:qW),(cW m u116.l/\u116.l.length<=1000/\m<=13/\u116.nb<=u116.cb/\(u116.B++kP m u116.l).length<=100000/\jd u116.P (m+1) u116.nb u116.f u116.B) /\((bT (↑(bH (x.fst.getD 0 ([],[])).fst (x.fst.getD (0+((x.fst.length:Int) - 1).toNat) ([],[])).fst):Int).toNat (aX x.fst.length (fun(u115:Nat)=>(x.fst.getD u115 ([],[])).fst) fun(u114:Nat)=>(x.fst.getD u114 ([],[])).snd)).length=u116.l.length/\u119=u116.c)/\ah (SB.rows false (bT (↑(bH (x.fst.getD 0 ([],[])).fst (x.fst.getD (0+((x.fst.length:Int) - 1).toNat) ([],[])).fst):Int).toNat (aX x.fst.length (fun(u113:Nat)=>(x.fst.getD u113 ([],[])).fst) fun(u112:Nat)=>(x.fst.getD u112 ([],[])).snd)).length [b8 (bT (↑(bH (x.fst.getD 0 ([],[])).fst (x.fst.getD (0+((x.fst.length:Int) - 1).toNat) ([],[])).fst):Int).toNat (aX x.fst.length (fun(u111:Nat)=>(x.fst.getD u111 ([],[])).fst) fun(u110:Nat)=>(x.fst.getD u110 ([],[])).snd)),b6 (bT (↑(bH (x.fst.getD 0 ([],[])).fst (x.fst.getD (0+((x.fst.length:Int) - 1).toNat) ([],[])).fst):Int).toNat (aX x.fst.length (fun(u109:Nat)=>(x.fst.getD u109 ([],[])).fst) fun(u108:Nat)=>(x.fst.getD u108 ([],[])).snd))] false (u119*2) 174) (SB.rows false u116.l.length [b8 u116.l,b6 u116.l] true (u116.c*2) 174)/\u116.nb=0 /\(SB.rows true u116.nb [au.ref 3 u116.f] false (u116.cb*1) 106).no=true/\(∀(u107:Nat),¬SB.eO 0 (u116.P.parts 4) u107)/\(∀(u106:Nat),¬SB.eO 0 (u116.P.lists 3) u106)/\∀(u105:ju),u105.nb<=u105.cb/\jd u105.P (m+1) u105.nb u105.f (u116.B++kP m u116.l)->Fits {k:=(2:Int),p:=bz (x.fst.getD 0 ([],[])).fst none (some (Operand.tmp 81)) 0 (↑(bH (x.fst.getD 0 ([],[])).fst (x.fst.getD (0+((x.fst.length:Int) - 1).toNat) ([],[])).fst):Int),v:=[],r:=fun(u104:Nat)=>[gK m u116.l,[],[],[],[],[],[],[],[],[],[],[],[],[],[],[]].getD u104 []:Nd}/\(aS {k:=(2:Int),p:=bz (x.fst.getD 0 ([],[])).fst none (some (Operand.tmp 81)) 0 (↑(bH (x.fst.getD 0 ([],[])).fst (x.fst.getD (0+((x.fst.length:Int) - 1).toNat) ([],[])).fst):Int),v:=[],r:=fun(u103:Nat)=>[gK m u116.l,[],[],[],[],[],[],[],[],[],[],[],[],[],[],[]].getD u103 []:Nd}=true->∀(u102:Nat),(∀(u101:Nat),u105.P.D2 u101=true->(u101.beq u102&& !(true&&u105.nb.beq 0))=false)->∀(u100:Nat),(∀(u99:Nat),u105.P.D u99=true->u99.beq u100=false) ->∃(u98:Nat×Pd),Told u98.snd (m+1+(1:Nat)) u98.fst (dH (m+1) x.fst)/\u100=u98.fst/\ah (SB.iw (fun(u97:Nat)=>u105.P.D u97||u97.beq u100) [au.str fun(u96:Nat)=>bif u105.P.D u96 then u105.P.iF u96 else cu {k:=(2:Int),p:=bz (x.fst.getD 0 ([],[])).fst none (some (Operand.tmp 81)) 0 (↑(bH (x.fst.getD 0 ([],[])).fst (x.fst.getD (0+((x.fst.length:Int) - 1).toNat) ([],[])).fst):Int),v:=[],r:=fun(u95:Nat)=>[gK m u116.l,[],[],[],[],[],[],[],[],[],[],[],[],[],[],[]].getD u95 []:Nd},au.cn (bif(id (bif(id 8).beq 9 then(8:Nat)else id 8)).beq 1 then(7:Nat)else id (bif(id 8).beq 9 then(8:Nat)else id 8)) 1 true (fun(u94:Nat)=>bif u105.P.D u94 then u105.P.fb u94 else u102) (fun(u93:Nat)=>bif u105.P.D u93 then u105.P.nb u93 else u105.nb) fun(u92:Nat)=>bif u105.P.D u92 then u105.P.cb u92 else u105.cb] 2 165 false) (u98.snd.parts 2) /\ah (SB.dI (fun(u91:Nat)=>u105.P.D2 u91||u91.beq u102&& !(true&&u105.nb.beq 0)) (fun(u90:Nat)=>bif u105.P.D2 u90 then u105.P.n2 u90 else u105.nb) [bU.ref (bif(id (bif(id 7).beq 9 then(8:Nat)else id 7)).beq 1 then(7:Nat)else id (bif(id 7).beq 9 then(8:Nat)else id 7)) fun(b i:Nat)=>bif u105.P.D2 b then u105.P.g b i else u105.f i] false) (u98.snd.lists 1))/\(aS {k:=(2:Int),p:=bz (x.fst.getD 0 ([],[])).fst none (some (Operand.tmp 81)) 0 (↑(bH (x.fst.getD 0 ([],[])).fst (x.fst.getD (0+((x.fst.length:Int) - 1).toNat) ([],[])).fst):Int),v:=[],r:=fun(u89:Nat)=>[gK m u116.l,[],[],[],[],[],[],[],[],[],[],[],[],[],[],[]].getD u89 []:Nd}=false->∀(u88:Nat),(∀(u87:Nat),u105.P.D2 u87=true->(u87.beq u88&& !(true&&u105.nb.beq 0))=false)->∀(u86:Nat),(∀(u85:Nat),u105.P.D u85=true->u85.beq u86=false)->∃(u84:Nat×Pd),Told u84.snd (m+1+(1:Nat)) u84.fst (dH (m+1) x.fst)/\u86=u84.fst /\ah (SB.iw (fun(u83:Nat)=>u105.P.D u83||u83.beq u86) [au.str fun(u82:Nat)=>bif u105.P.D u82 then u105.P.iF u82 else [],au.cn (bif(id (bif(id 8).beq 9 then(8:Nat)else id 8)).beq 1 then(7:Nat)else id (bif(id 8).beq 9 then(8:Nat)else id 8)) 1 true (fun(u81:Nat)=>bif u105.P.D u81 then u105.P.fb u81 else u88) (fun(u80:Nat)=>bif u105.P.D u80 then u105.P.nb u80 else u105.nb) fun(u79:Nat)=>bif u105.P.D u79 then u105.P.cb u79 else u105.cb] 2 165 false) (u84.snd.parts 2)/\ah (SB.dI (fun(u78:Nat)=>u105.P.D2 u78||u78.beq u88&& !(true&&u105.nb.beq 0)) (fun(u77:Nat)=>bif u105.P.D2 u77 then u105.P.n2 u77 else u105.nb) [bU.ref (bif(id (bif(id 7).beq 9 then(8:Nat)else id 7)).beq 1 then(7:Nat)else id (bif(id 7).beq 9 then(8:Nat)else id 7)) fun(b i:Nat)=>bif u105.P.D2 b then u105.P.g b i else u105.f i] false) (u84.snd.lists 1)))/\(decide (0<(↑(bH (x.fst.getD 0 ([],[])).fst (x.fst.getD (0+((x.fst.length:Int) - 1).toNat) ([],[])).fst):Int))=false->(∃(u76:Nat×ju),(u76.fst<=16/\u76.snd.nb<=u76.snd.cb/\jd u76.snd.P (m+1) u76.snd.nb u76.snd.f (eE m x.fst u76.fst)) /\0=(u76.fst:Int)/\u76.snd.nb=0/\(SB.rows true u76.snd.nb [au.ref ((1:Nat)+(1:Nat)+(1:Nat)+(1:Nat)) u76.snd.f] false (u76.snd.cb*1) 106).no=true/\(∀(u75:Nat),¬SB.eO 0 (u76.snd.P.parts ((1:Nat)+(1:Nat)+(1:Nat)+(2:Nat))) u75)/\(∀(u74:Nat),¬SB.eO 0 (u76.snd.P.lists ((1:Nat)+(1:Nat)+(1:Nat)+(1:Nat))) u74)/\ah (SB.cells [SV.int .i64 true 3,SV.str true [],SV.str true [],SV.str true [],SV.str true [],SV.str true [],SV.str true [],SV.str true [],SV.str true [],SV.str true [],SV.str true [],SV.str true [],SV.str true [],SV.str true [],SV.str true [],SV.str true [],SV.str true [],SV.str true [],SV.str true []] 19 138) (SB.cells [SV.int .i64 false 3,SV.str false [],SV.str false [],R0 0 u76,R0 1 u76,R0 2 u76,R0 3 u76,R0 4 u76,R0 5 u76,R0 6 u76,R0 7 u76,R0 8 u76,R0 9 u76,R0 10 u76,R0 11 u76,R0 12 u76,R0 13 u76,R0 14 u76,R0 15 u76] 19 138))/\∀(u73:Nat×ju),u73.fst<=16/\u73.snd.nb<=u73.snd.cb/\jd u73.snd.P (m+1) u73.snd.nb u73.snd.f (eE m x.fst u73.fst)->(decide ((u73.fst:Int)<16)=true->∃(u72:List Rw×Nat×Nat),u72.fst.length<=1000 /\(x.fst.length=u72.fst.length/\x.snd=u72.snd.fst)/\ah (SB.rows false x.fst.length [b8 x.fst,b6 x.fst] true (x.snd*2) 174) (SB.rows false u72.fst.length [b8 u72.fst,b6 u72.fst] true (u72.snd.fst*2) 174)/\ah (SB.cells [SV.int .i64 false (u73.fst:Int)] 1 3) (P0 u72)/\∀(u71:Nat),(bx u72.snd.snd u72.fst).length<=u71->some (P0 u72)=some (SB.cells [SV.int .i64 false (u73.fst:Int)] 1 3)/\(((true=true/\0+(bx u72.snd.snd u72.fst).length<=(bx u72.snd.snd u72.fst).length)/\True/\True)/\(0:Int)<=(1:Int)/\(bx u72.snd.snd u72.fst).length<=1000/\∀(u70:Nat),u70<(bx u72.snd.snd u72.fst).length->1<=((bx u72.snd.snd u72.fst).getD u70 ([],[])).fst.length)/\∀(u69:Nat),(bT 1 (aX (bx u72.snd.snd u72.fst).length (fun(u68:Nat)=>((bx u72.snd.snd u72.fst).getD u68 ([],[])).fst) fun(u67:Nat)=>((bx u72.snd.snd u72.fst).getD u67 ([],[])).snd)).length<=u69->some (P0 u72)=some (P0 u72)/\∃(u66:qW),(cW m u66.l/\u66.l.length<=1000/\m<=13/\u66.nb<=u66.cb/\(u66.B++kP m u66.l).length<=100000/\jd u66.P (m+1) u66.nb u66.f u66.B) /\((bT 1 (aX (bx u72.snd.snd u72.fst).length (fun(u65:Nat)=>((bx u72.snd.snd u72.fst).getD u65 ([],[])).fst) fun(u64:Nat)=>((bx u72.snd.snd u72.fst).getD u64 ([],[])).snd)).length=u66.l.length/\u69=u66.c)/\ah (SB.rows false (bT 1 (aX (bx u72.snd.snd u72.fst).length (fun(u63:Nat)=>((bx u72.snd.snd u72.fst).getD u63 ([],[])).fst) fun(u62:Nat)=>((bx u72.snd.snd u72.fst).getD u62 ([],[])).snd)).length [b8 (bT 1 (aX (bx u72.snd.snd u72.fst).length (fun(u61:Nat)=>((bx u72.snd.snd u72.fst).getD u61 ([],[])).fst) fun(u60:Nat)=>((bx u72.snd.snd u72.fst).getD u60 ([],[])).snd)),b6 (bT 1 (aX (bx u72.snd.snd u72.fst).length (fun(u59:Nat)=>((bx u72.snd.snd u72.fst).getD u59 ([],[])).fst) fun(u58:Nat)=>((bx u72.snd.snd u72.fst).getD u58 ([],[])).snd))] false (u69*2) 174) (SB.rows false u66.l.length [b8 u66.l,b6 u66.l] true (u66.c*2) 174)/\(u73.snd.nb=u66.nb/\u73.snd.cb=u66.cb)/\ah (SB.rows true u73.snd.nb [au.ref ((1:Nat)+(1:Nat)+(1:Nat)+(1:Nat)) u73.snd.f] false (u73.snd.cb*1) 106) (SB.rows true u66.nb [au.ref 3 u66.f] false (u66.cb*1) 106) /\ah (SB.iw u73.snd.P.D [au.str u73.snd.P.iF,au.cn ((1:Nat)+(1:Nat)+(1:Nat)+(2:Nat)) 1 true u73.snd.P.fb u73.snd.P.nb u73.snd.P.cb] 2 165 false) (u66.P.parts 4)/\ah (SB.dI u73.snd.P.D2 u73.snd.P.n2 [bU.ref ((1:Nat)+(1:Nat)+(1:Nat)+(1:Nat)) u73.snd.P.g] false) (u66.P.lists 3)/\∀(u57:ju),u57.nb<=u57.cb/\jd u57.P (m+1) u57.nb u57.f (u66.B++kP m u66.l)->some (P0 u72)=some (P0 u72)/\(0<=(u73.fst:Int)/\(u73.fst:Int)<16)/\(u73.fst:Int).toNat<16/\((-9223372036854775808:Int)<=(u73.fst:Int)+1/\(u73.fst:Int)+1<=(9223372036854775807:Int))/\∃(u56:Nat×ju),((u56.fst<=16/\u56.snd.nb<=u56.snd.cb/\jd u56.snd.P (m+1) u56.snd.nb u56.snd.f (eE m x.fst u56.fst))/\16 - u56.fst<16 - u73.fst)/\(u73.fst:Int)+1=(u56.fst:Int)/\(u57.nb=u56.snd.nb/\u57.cb=u56.snd.cb)/\ah (SB.rows true u57.nb [au.ref 4 u57.f] false (u57.cb*1) 106) (SB.rows true u56.snd.nb [au.ref ((1:Nat)+(1:Nat)+(1:Nat)+(1:Nat)) u56.snd.f] false (u56.snd.cb*1) 106) /\ah (SB.iw u57.P.D [au.str u57.P.iF,au.cn 5 1 true u57.P.fb u57.P.nb u57.P.cb] 2 165 false) (u56.snd.P.parts ((1:Nat)+(1:Nat)+(1:Nat)+(2:Nat)))/\ah (SB.dI u57.P.D2 u57.P.n2 [bU.ref 4 u57.P.g] false) (u56.snd.P.lists ((1:Nat)+(1:Nat)+(1:Nat)+(1:Nat)))/\ah (SB.cells [SV.int .i64 false 3,SV.str false [],SV.str false [],R1 0 u73 u66,R1 1 u73 u66,R1 2 u73 u66,R1 3 u73 u66,R1 4 u73 u66,R1 5 u73 u66,R1 6 u73 u66,R1 7 u73 u66,R1 8 u73 u66,R1 9 u73 u66,R1 10 u73 u66,R1 11 u73 u66,R1 12 u73 u66,R1 13 u73 u66,R1 14 u73 u66,R1 15 u73 u66] 19 138) (SB.cells [SV.int .i64 false 3,SV.str false [],SV.str false [],R2 0 u56,R2 1 u56,R2 2 u56,R2 3 u56,R2 4 u56,R2 5 u56,R2 6 u56,R2 7 u56,R2 8 u56,R2 9 u56,R2 10 u56,R2 11 u56,R2 12 u56,R2 13 u56,R2 14 u56,R2 15 u56] 19 138))/\(decide ((u73.fst:Int)<16)=false->((0:Int)<=(0:Int)/\0<(x.fst.length:Int))/\0<x.fst.length/\(decide ((x.fst.getD 0 ([],[])).fst=[])=true->((0:Int)<=(0:Int)/\0<(x.fst.length:Int))/\0<x.fst.length /\Fits {k:=(3:Int),p:=[],v:=(x.fst.getD 0 ([],[])).snd,r:=fun(u55:Nat)=>[aF m x.fst u73.fst 0,aF m x.fst u73.fst 1,aF m x.fst u73.fst 2,aF m x.fst u73.fst 3,aF m x.fst u73.fst 4,aF m x.fst u73.fst 5,aF m x.fst u73.fst 6,aF m x.fst u73.fst 7,aF m x.fst u73.fst 8,aF m x.fst u73.fst 9,aF m x.fst u73.fst 10,aF m x.fst u73.fst 11,aF m x.fst u73.fst 12,aF m x.fst u73.fst 13,aF m x.fst u73.fst 14,aF m x.fst u73.fst 15].getD u55 []:Nd}/\(aS {k:=(3:Int),p:=[],v:=(x.fst.getD 0 ([],[])).snd,r:=fun(u54:Nat)=>[aF m x.fst u73.fst 0,aF m x.fst u73.fst 1,aF m x.fst u73.fst 2,aF m x.fst u73.fst 3,aF m x.fst u73.fst 4,aF m x.fst u73.fst 5,aF m x.fst u73.fst 6,aF m x.fst u73.fst 7,aF m x.fst u73.fst 8,aF m x.fst u73.fst 9,aF m x.fst u73.fst 10,aF m x.fst u73.fst 11,aF m x.fst u73.fst 12,aF m x.fst u73.fst 13,aF m x.fst u73.fst 14,aF m x.fst u73.fst 15].getD u54 []:Nd}=true->∀(u53:Nat),(∀(u52:Nat),u73.snd.P.D2 u52=true->(u52.beq u53&& !(true&&u73.snd.nb.beq 0))=false) ->∀(u51:Nat),(∀(u50:Nat),u73.snd.P.D u50=true->u50.beq u51=false)->∃(u49:Nat×Pd),Told u49.snd (m+1+(1:Nat)) u49.fst (dH (m+1) x.fst)/\u51=u49.fst /\ah (SB.iw (fun(u48:Nat)=>u73.snd.P.D u48||u48.beq u51) [au.str fun(u47:Nat)=>bif u73.snd.P.D u47 then u73.snd.P.iF u47 else cu {k:=(3:Int),p:=[],v:=(x.fst.getD 0 ([],[])).snd,r:=fun(u46:Nat)=>[aF m x.fst u73.fst 0,aF m x.fst u73.fst 1,aF m x.fst u73.fst 2,aF m x.fst u73.fst 3,aF m x.fst u73.fst 4,aF m x.fst u73.fst 5,aF m x.fst u73.fst 6,aF m x.fst u73.fst 7,aF m x.fst u73.fst 8,aF m x.fst u73.fst 9,aF m x.fst u73.fst 10,aF m x.fst u73.fst 11,aF m x.fst u73.fst 12,aF m x.fst u73.fst 13,aF m x.fst u73.fst 14,aF m x.fst u73.fst 15].getD u46 []:Nd},au.cn (bif(id (bif(id ((1:Nat)+(1:Nat)+(1:Nat)+(2:Nat))).beq ((1:Nat)+(1:Nat)+(1:Nat))then(1:Nat)+(1:Nat)+(1:Nat)+(2:Nat)else id ((1:Nat)+(1:Nat)+(1:Nat)+(2:Nat)))).beq 1 then(1:Nat)+(1:Nat)+(1:Nat)+(1:Nat)else id (bif(id ((1:Nat)+(1:Nat)+(1:Nat)+(2:Nat))).beq ((1:Nat)+(1:Nat)+(1:Nat))then(1:Nat)+(1:Nat)+(1:Nat)+(2:Nat)else id ((1:Nat)+(1:Nat)+(1:Nat)+(2:Nat)))) 1 true (fun(u45:Nat)=>bif u73.snd.P.D u45 then u73.snd.P.fb u45 else u53) (fun(u44:Nat)=>bif u73.snd.P.D u44 then u73.snd.P.nb u44 else u73.snd.nb) fun(u43:Nat)=>bif u73.snd.P.D u43 then u73.snd.P.cb u43 else u73.snd.cb] 2 165 false) (u49.snd.parts 2) /\ah (SB.dI (fun(u42:Nat)=>u73.snd.P.D2 u42||u42.beq u53&& !(true&&u73.snd.nb.beq 0)) (fun(u41:Nat)=>bif u73.snd.P.D2 u41 then u73.snd.P.n2 u41 else u73.snd.nb) [bU.ref (bif(id (bif(id ((1:Nat)+(1:Nat)+(1:Nat)+(1:Nat))).beq ((1:Nat)+(1:Nat)+(1:Nat))then(1:Nat)+(1:Nat)+(1:Nat)+(2:Nat)else id ((1:Nat)+(1:Nat)+(1:Nat)+(1:Nat)))).beq 1 then(1:Nat)+(1:Nat)+(1:Nat)+(1:Nat)else id (bif(id ((1:Nat)+(1:Nat)+(1:Nat)+(1:Nat))).beq ((1:Nat)+(1:Nat)+(1:Nat))then(1:Nat)+(1:Nat)+(1:Nat)+(2:Nat)else id ((1:Nat)+(1:Nat)+(1:Nat)+(1:Nat)))) fun(b i:Nat)=>bif u73.snd.P.D2 b then u73.snd.P.g b i else u73.snd.f i] false) (u49.snd.lists 1)) /\(aS {k:=(3:Int),p:=[],v:=(x.fst.getD 0 ([],[])).snd,r:=fun(u40:Nat)=>[aF m x.fst u73.fst 0,aF m x.fst u73.fst 1,aF m x.fst u73.fst 2,aF m x.fst u73.fst 3,aF m x.fst u73.fst 4,aF m x.fst u73.fst 5,aF m x.fst u73.fst 6,aF m x.fst u73.fst 7,aF m x.fst u73.fst 8,aF m x.fst u73.fst 9,aF m x.fst u73.fst 10,aF m x.fst u73.fst 11,aF m x.fst u73.fst 12,aF m x.fst u73.fst 13,aF m x.fst u73.fst 14,aF m x.fst u73.fst 15].getD u40 []:Nd}=false->∀(u39:Nat),(∀(u38:Nat),u73.snd.P.D2 u38=true->(u38.beq u39&& !(true&&u73.snd.nb.beq 0))=false)->∀(u37:Nat),(∀(u36:Nat),u73.snd.P.D u36=true->u36.beq u37=false)->∃(u35:Nat×Pd),Told u35.snd (m+1+(1:Nat)) u35.fst (dH (m+1) x.fst)/\u37=u35.fst /\ah (SB.iw (fun(u34:Nat)=>u73.snd.P.D u34||u34.beq u37) [au.str fun(u33:Nat)=>bif u73.snd.P.D u33 then u73.snd.P.iF u33 else [],au.cn (bif(id (bif(id ((1:Nat)+(1:Nat)+(1:Nat)+(2:Nat))).beq ((1:Nat)+(1:Nat)+(1:Nat))then(1:Nat)+(1:Nat)+(1:Nat)+(2:Nat)else id ((1:Nat)+(1:Nat)+(1:Nat)+(2:Nat)))).beq 1 then(1:Nat)+(1:Nat)+(1:Nat)+(1:Nat)else id (bif(id ((1:Nat)+(1:Nat)+(1:Nat)+(2:Nat))).beq ((1:Nat)+(1:Nat)+(1:Nat))then(1:Nat)+(1:Nat)+(1:Nat)+(2:Nat)else id ((1:Nat)+(1:Nat)+(1:Nat)+(2:Nat)))) 1 true (fun(u32:Nat)=>bif u73.snd.P.D u32 then u73.snd.P.fb u32 else u39) (fun(u31:Nat)=>bif u73.snd.P.D u31 then u73.snd.P.nb u31 else u73.snd.nb) fun(u30:Nat)=>bif u73.snd.P.D u30 then u73.snd.P.cb u30 else u73.snd.cb] 2 165 false) (u35.snd.parts 2) /\ah (SB.dI (fun(u29:Nat)=>u73.snd.P.D2 u29||u29.beq u39&& !(true&&u73.snd.nb.beq 0)) (fun(u28:Nat)=>bif u73.snd.P.D2 u28 then u73.snd.P.n2 u28 else u73.snd.nb) [bU.ref (bif(id (bif(id ((1:Nat)+(1:Nat)+(1:Nat)+(1:Nat))).beq ((1:Nat)+(1:Nat)+(1:Nat))then(1:Nat)+(1:Nat)+(1:Nat)+(2:Nat)else id ((1:Nat)+(1:Nat)+(1:Nat)+(1:Nat)))).beq 1 then(1:Nat)+(1:Nat)+(1:Nat)+(1:Nat)else id (bif(id ((1:Nat)+(1:Nat)+(1:Nat)+(1:Nat))).beq ((1:Nat)+(1:Nat)+(1:Nat))then(1:Nat)+(1:Nat)+(1:Nat)+(2:Nat)else id ((1:Nat)+(1:Nat)+(1:Nat)+(1:Nat)))) fun(b i:Nat)=>bif u73.snd.P.D2 b then u73.snd.P.g b i else u73.snd.f i] false) (u35.snd.lists 1)))/\(decide ((x.fst.getD 0 ([],[])).fst=[])=false ->Fits {k:=(3:Int),p:=[],v:=[],r:=fun(u27:Nat)=>[aF m x.fst u73.fst 0,aF m x.fst u73.fst 1,aF m x.fst u73.fst 2,aF m x.fst u73.fst 3,aF m x.fst u73.fst 4,aF m x.fst u73.fst 5,aF m x.fst u73.fst 6,aF m x.fst u73.fst 7,aF m x.fst u73.fst 8,aF m x.fst u73.fst 9,aF m x.fst u73.fst 10,aF m x.fst u73.fst 11,aF m x.fst u73.fst 12,aF m x.fst u73.fst 13,aF m x.fst u73.fst 14,aF m x.fst u73.fst 15].getD u27 []:Nd}/\(aS {k:=(3:Int),p:=[],v:=[],r:=fun(u26:Nat)=>[aF m x.fst u73.fst 0,aF m x.fst u73.fst 1,aF m x.fst u73.fst 2,aF m x.fst u73.fst 3,aF m x.fst u73.fst 4,aF m x.fst u73.fst 5,aF m x.fst u73.fst 6,aF m x.fst u73.fst 7,aF m x.fst u73.fst 8,aF m x.fst u73.fst 9,aF m x.fst u73.fst 10,aF m x.fst u73.fst 11,aF m x.fst u73.fst 12,aF m x.fst u73.fst 13,aF m x.fst u73.fst 14,aF m x.fst u73.fst 15].getD u26 []:Nd}=true->∀(u25:Nat),(∀(u24:Nat),u73.snd.P.D2 u24=true->(u24.beq u25&& !(true&&u73.snd.nb.beq 0))=false)->∀(u23:Nat),(∀(u22:Nat),u73.snd.P.D u22=true->u22.beq u23=false) ->∃(u21:Nat×Pd),Told u21.snd (m+1+(1:Nat)) u21.fst (dH (m+1) x.fst)/\u23=u21.fst /\ah (SB.iw (fun(u20:Nat)=>u73.snd.P.D u20||u20.beq u23) [au.str fun(u19:Nat)=>bif u73.snd.P.D u19 then u73.snd.P.iF u19 else cu {k:=(3:Int),p:=[],v:=[],r:=fun(u18:Nat)=>[aF m x.fst u73.fst 0,aF m x.fst u73.fst 1,aF m x.fst u73.fst 2,aF m x.fst u73.fst 3,aF m x.fst u73.fst 4,aF m x.fst u73.fst 5,aF m x.fst u73.fst 6,aF m x.fst u73.fst 7,aF m x.fst u73.fst 8,aF m x.fst u73.fst 9,aF m x.fst u73.fst 10,aF m x.fst u73.fst 11,aF m x.fst u73.fst 12,aF m x.fst u73.fst 13,aF m x.fst u73.fst 14,aF m x.fst u73.fst 15].getD u18 []:Nd},au.cn (bif(id (bif(id ((1:Nat)+(1:Nat)+(1:Nat)+(2:Nat))).beq ((1:Nat)+(1:Nat)+(1:Nat))then(1:Nat)+(1:Nat)+(1:Nat)+(2:Nat)else id ((1:Nat)+(1:Nat)+(1:Nat)+(2:Nat)))).beq 1 then(1:Nat)+(1:Nat)+(1:Nat)+(1:Nat)else id (bif(id ((1:Nat)+(1:Nat)+(1:Nat)+(2:Nat))).beq ((1:Nat)+(1:Nat)+(1:Nat))then(1:Nat)+(1:Nat)+(1:Nat)+(2:Nat)else id ((1:Nat)+(1:Nat)+(1:Nat)+(2:Nat)))) 1 true (fun(u17:Nat)=>bif u73.snd.P.D u17 then u73.snd.P.fb u17 else u25) (fun(u16:Nat)=>bif u73.snd.P.D u16 then u73.snd.P.nb u16 else u73.snd.nb) fun(u15:Nat)=>bif u73.snd.P.D u15 then u73.snd.P.cb u15 else u73.snd.cb] 2 165 false) (u21.snd.parts 2) /\ah (SB.dI (fun(u14:Nat)=>u73.snd.P.D2 u14||u14.beq u25&& !(true&&u73.snd.nb.beq 0)) (fun(u13:Nat)=>bif u73.snd.P.D2 u13 then u73.snd.P.n2 u13 else u73.snd.nb) [bU.ref (bif(id (bif(id ((1:Nat)+(1:Nat)+(1:Nat)+(1:Nat))).beq ((1:Nat)+(1:Nat)+(1:Nat))then(1:Nat)+(1:Nat)+(1:Nat)+(2:Nat)else id ((1:Nat)+(1:Nat)+(1:Nat)+(1:Nat)))).beq 1 then(1:Nat)+(1:Nat)+(1:Nat)+(1:Nat)else id (bif(id ((1:Nat)+(1:Nat)+(1:Nat)+(1:Nat))).beq ((1:Nat)+(1:Nat)+(1:Nat))then(1:Nat)+(1:Nat)+(1:Nat)+(2:Nat)else id ((1:Nat)+(1:Nat)+(1:Nat)+(1:Nat)))) fun(b i:Nat)=>bif u73.snd.P.D2 b then u73.snd.P.g b i else u73.snd.f i] false) (u21.snd.lists 1)) /\(aS {k:=(3:Int),p:=[],v:=[],r:=fun(u12:Nat)=>[aF m x.fst u73.fst 0,aF m x.fst u73.fst 1,aF m x.fst u73.fst 2,aF m x.fst u73.fst 3,aF m x.fst u73.fst 4,aF m x.fst u73.fst 5,aF m x.fst u73.fst 6,aF m x.fst u73.fst 7,aF m x.fst u73.fst 8,aF m x.fst u73.fst 9,aF m x.fst u73.fst 10,aF m x.fst u73.fst 11,aF m x.fst u73.fst 12,aF m x.fst u73.fst 13,aF m x.fst u73.fst 14,aF m x.fst u73.fst 15].getD u12 []:Nd}=false->∀(u11:Nat),(∀(u10:Nat),u73.snd.P.D2 u10=true->(u10.beq u11&& !(true&&u73.snd.nb.beq 0))=false)->∀(u9:Nat),(∀(u8:Nat),u73.snd.P.D u8=true->u8.beq u9=false)->∃(u7:Nat×Pd),Told u7.snd (m+1+(1:Nat)) u7.fst (dH (m+1) x.fst)/\u9=u7.fst /\ah (SB.iw (fun(u6:Nat)=>u73.snd.P.D u6||u6.beq u9) [au.str fun(u5:Nat)=>bif u73.snd.P.D u5 then u73.snd.P.iF u5 else [],au.cn (bif(id (bif(id ((1:Nat)+(1:Nat)+(1:Nat)+(2:Nat))).beq ((1:Nat)+(1:Nat)+(1:Nat))then(1:Nat)+(1:Nat)+(1:Nat)+(2:Nat)else id ((1:Nat)+(1:Nat)+(1:Nat)+(2:Nat)))).beq 1 then(1:Nat)+(1:Nat)+(1:Nat)+(1:Nat)else id (bif(id ((1:Nat)+(1:Nat)+(1:Nat)+(2:Nat))).beq ((1:Nat)+(1:Nat)+(1:Nat))then(1:Nat)+(1:Nat)+(1:Nat)+(2:Nat)else id ((1:Nat)+(1:Nat)+(1:Nat)+(2:Nat)))) 1 true (fun(u4:Nat)=>bif u73.snd.P.D u4 then u73.snd.P.fb u4 else u11) (fun(u3:Nat)=>bif u73.snd.P.D u3 then u73.snd.P.nb u3 else u73.snd.nb) fun(u2:Nat)=>bif u73.snd.P.D u2 then u73.snd.P.cb u2 else u73.snd.cb] 2 165 false) (u7.snd.parts 2) /\ah (SB.dI (fun(u1:Nat)=>u73.snd.P.D2 u1||u1.beq u11&& !(true&&u73.snd.nb.beq 0)) (fun(u0:Nat)=>bif u73.snd.P.D2 u0 then u73.snd.P.n2 u0 else u73.snd.nb) [bU.ref (bif(id (bif(id ((1:Nat)+(1:Nat)+(1:Nat)+(1:Nat))).beq ((1:Nat)+(1:Nat)+(1:Nat))then(1:Nat)+(1:Nat)+(1:Nat)+(2:Nat)else id ((1:Nat)+(1:Nat)+(1:Nat)+(1:Nat)))).beq 1 then(1:Nat)+(1:Nat)+(1:Nat)+(1:Nat)else id (bif(id ((1:Nat)+(1:Nat)+(1:Nat)+(1:Nat))).beq ((1:Nat)+(1:Nat)+(1:Nat))then(1:Nat)+(1:Nat)+(1:Nat)+(2:Nat)else id ((1:Nat)+(1:Nat)+(1:Nat)+(1:Nat)))) fun(b i:Nat)=>bif u73.snd.P.D2 b then u73.snd.P.g b i else u73.snd.f i] false) (u7.snd.lists 1)))))))))) (fun(u72:List Rw×Nat×Nat)=>(SB.cells [SV.int .i64 false (u72.snd.snd:Int)] 1 3)))) (fun(n0:Nat) (u56:Nat×ju)=>SV.str false (aF m x.fst u56.fst n0)))) (fun(n0:Nat) (u73:Nat×ju) (u66:qW)=>SV.str false (if(u73.fst:Int).toNat=n0 then gK m u66.l else aF m x.fst u73.fst n0)))) (fun(n0:Nat) (u76:Nat×ju)=>SV.str false (aF m x.fst u76.fst n0))):=⟨by kernel_rfl,by kernel_rfl⟩
theorem tN {m:Nat}{l:List Rw}(hm:m<=12)(h:cW (m+1) l):Fits (gV (m+1) l):=fun j hj=>by
 rw[Dk m l hj]
 split
 ·decide
 ·rename_i hk
  have:=ES (jM (m:=m) (by omega) (jJ h j) hk)
  omega
theorem RV {m:Nat}{r s:Rw}{t:List Rw}(hk:0<bH r.1 ((s::t).getLastD r).1):gV (m+1) (r::s::t)=⟨2,r.1.take (bH r.1 ((s::t).getLastD r).1),[],ak (gK m (bT (bH r.1 ((s::t).getLastD r).1) (r::s::t)))⟩:=by
 show fI _ (r::s::t)=_
 unfold fI
 dsimp only
 rw[if_pos hk,cP,if_pos hk,if_pos rfl];rfl
theorem Hz {m:Nat}{r s:Rw}{t:List Rw}(hk: ¬ 0<bH r.1 ((s::t).getLastD r).1):gV (m+1) (r::s::t)=⟨3,[],if r.1=[] then r.2 else [],aP (aF m (r::s::t) 16)⟩:=by
 show fI _ (r::s::t)=_
 unfold fI
 dsimp only
 rw[if_neg hk];rfl
theorem LH {m:Nat}{r s:Rw}{t:List Rw}(hk:0<bH r.1 ((s::t).getLastD r).1):ey (m+1) (r::s::t)=kP m (bT (bH r.1 ((s::t).getLastD r).1) (r::s::t)):=by
 rw[mO]
 have: ∀ i,eE m (r::s::t) (i+1)=kP m (bT (bH r.1 ((s::t).getLastD r).1) (r::s::t)):=fun i=>by
  induction i with
  | zero=>rw[gF,cP,if_pos hk,if_pos rfl];rfl
  | succ i ih =>
    rw[gF,ih,cP,if_pos hk,if_neg (Nat.succ_ne_zero i)]
    show _++[]=_
    rw[List.append_nil]
 exact this 15
theorem yL {m:Nat}{l:List Rw}(h: ∀ i,bM l i=[]):ey (m+1) l=[]:=by
 rw[mO]
 have: ∀ i,eE m l i=[]:=fun i=>by
  induction i with
  | zero=>rfl
  | succ i ih=>rw[gF,ih,h i];rfl
 exact this 16
theorem Bi (P:Pd)(d:Nat)(f:Nat->Nat):jd P d 0 f []:=⟨[],rfl,rfl,fun i L' hi=>by simp at hi⟩
def Pd.none:Pd:={D:=fun _=>false,iF:=fun _=>[],fb:=fun _=>0,nb:=fun _=>0,cb:=fun _=>0,D2:=fun _=>false,n2:=fun _=>0,g:=fun _ _=>0}
theorem sW (k a:Nat): ¬ SB.eO 0 (Pd.none.parts k) a:=fun h=>Bool.noConfusion (show false=true from h)
theorem sJ (k a:Nat): ¬ SB.eO 0 (Pd.none.lists k) a:=fun h=>Bool.noConfusion (show false=true from h)
theorem tY {k k' tot:Nat}{D:Nat->Bool}{iF:Nat->List UInt8}{fb nb cb:Nat->Nat}{ty:TypeId}:ah (.iw D [.str iF,.cn k 1 true fb nb cb] tot ty false) (.iw D [.str iF,.cn k' 1 true fb nb cb] tot ty false) :=
 ⟨rfl,fun _ a h=>⟨h,fun E o hb=>((ah.cells (cs:=[(au.str iF).at a,(au.cn k 1 true fb nb cb).at a]) (cs':=[(au.str iF).at a,(au.cn k' 1 true fb nb cb).at a]) (tot:=tot) (ty:=ty) (fun _=>rfl) rfl).old rfl).2.1 E o hb,id⟩⟩
theorem xE {m:Nat}{l:List Rw}{t:List UInt8}(ht:t=ctext (m+1) l)(hb:ey (m+1) l=[])(a:Nat): ∃(x:Nat×Pd),Told x.2 (m+1+1) x.1 (dH (m+1) l)/\a=x.1 /\
  ah (.iw (fun b=>b.beq a) [.str fun _=>t,.cn 0 1 true (fun _=>0) (fun _=>0) fun _=>0] 2 165 false) (x.2.parts 2)/\∀ a,¬ SB.eO 0 (x.2.lists 1) a:=by
 refine⟨(a,Pd.leaf a t),?_,rfl,tY,fun b h=>Bool.noConfusion (show false=true from h)⟩
 have:=Ly (m+1) a t
 unfold dH
 rw[hb,← ht];exact this
theorem Lo (r:Rw)(t:List Rw):(r::t).getD t.length ([],[])=t.getLastD r:=by
 rw[List.getD_eq_getElem?_getD,List.getLastD_eq_getLast?,List.getLast?_eq_getElem?]
 cases t with
 | nil=>rfl
 | cons s t=>simp
theorem zQ {k k':Nat}{D:Nat->Bool}{n:Nat->Nat}{g:Nat->Nat->Nat}:ah (.dI D n [.ref k g] false) (.dI D n [.ref k' g] false) :=
 ⟨rfl,fun _ a h=>⟨h,fun E o ⟨c,ty,fr,h1,h2⟩=>⟨c,ty,fr,h1,fun i j col hi hj=>by
  match j,hj with
  | 0,hj=>injection hj with hj;subst hj;have e:=h2 i 0 (bU.at a (.ref k g)) hi rfl;exact e
  | j+1,hj=>simp at hj⟩,id⟩⟩
theorem uT {m a a1 nb cb k k2:Nat}{l:List Rw}{t:List UInt8}{P:Pd}{f:Nat->Nat}{B:List (List UInt8)}(ht:t=ctext (m+1) l)(hb:ey (m+1) l=B)(hd2: ∀ b,P.D2 b=true->(b.beq a&& !(true&&nb.beq 0))=false)(hd: ∀ b,P.D b=true->b.beq a1=false)(h:jd P (m+1) nb f B) :
  ∃(x:Nat×Pd),Told x.2 (m+1+1) x.1 (dH (m+1) l)/\a1=x.1 /\
   ah (.iw (fun b=>P.D b||b.beq a1) [.str fun b=>bif P.D b then P.iF b else t,.cn k 1 true (fun b=>bif P.D b then P.fb b else a) (fun b=>bif P.D b then P.nb b else nb) fun b=>bif P.D b then P.cb b else cb] 2 165 false) (x.2.parts 2) /\
   ah (.dI (fun b=>P.D2 b||b.beq a&& !(true&&nb.beq 0)) (fun b=>bif P.D2 b then P.n2 b else nb) [.ref k2 fun b i=>bif P.D2 b then P.g b i else f i] false) (x.2.lists 1):=by
 refine⟨(a1,P.top a a1 t nb cb f),?_,rfl,tY,zQ⟩
 have:=MV (cb:=cb) (t:=t) hd hd2 h
 unfold dH
 rw[hb,← ht];exact this
theorem UX {m:Nat}{l:List Rw}(h:cW m l)(hl:l≠[]):(gV m l).k≠0:=by
 match m,h with
 | 0,ho =>
   cases l with
   | nil=>exact absurd rfl hl
   | cons x y=>exact absurd (ho.len x (List.mem_cons_self ..)) (Nat.not_lt_zero _)
 | m+1,_=>exact(Qj hl).1
theorem Lm {m:Nat}{l:List Rw}{i:Nat}(hi:i<16)(hk:bM l i≠[]){t:List UInt8}(ht:t∈ ey m (bM l i)):t∈ ey (m+1) l:=by
 unfold ey
 refine List.mem_flatMap.2 ⟨i,List.mem_range.2 hi,?_⟩
 rw[if_neg hk]
 exact List.mem_append_right _ ht
theorem G2 {m:Nat}{l:List Rw}{i:Nat}(hi:i<16)(hk:bM l i≠[])(hl: ¬ (ctext m (bM l i)).length<32):ctext m (bM l i)∈ ey (m+1) l:=by
 unfold ey
 refine List.mem_flatMap.2 ⟨i,List.mem_range.2 hi,?_⟩
 rw[if_neg hk,if_neg hl]
 exact List.mem_append_left _ (List.mem_cons_self ..)
theorem Fq {w:Sp}: ∀ {m:Nat} {l:List Rw},m<=13->cW m l->Clear w (ey m l)->M6 w m l
 | 0,_,_,_,_=>trivial
 | m+1,l,hm,h,hc=>fun i hi=>by
   refine⟨fun e=>by rw[Dk m l hi,if_pos e],fun hk=> ?_⟩
   have ho:=jJ h i
   have hv:=gU (m:=m) (by omega) ho hk
   have hk0:=UX ho hk
   have er:(gV (m+1) l).r i=dx (ctext m (bM l i)):=by rw[Dk m l hi,if_neg hk]
   refine⟨by rw[er];exact(GZ hv hk0).2,fun s y s' hs=> ?_,Fq (by omega) ho fun t ht=>hc t (Lm hi hk ht)⟩
   rw[er] at hs
   by_cases hl:(ctext m (bM l i)).length<32
   ·rw[j0 hl] at hs
    unfold gp at hs
    rw[if_pos (show bO (ctext m (bM l i))=true from(Ek hv hk0 hl).1)] at hs
    injection hs with hs;injection hs with hs _
    rw[← hs];exact mF hv
   ·obtain⟨h1,h2,h3⟩:=mP hl
    have hin: ¬ bO (dx (ctext m (bM l i)))=true:=fun e=>by have:=p4 e;omega
    unfold gp at hs
    rw[if_neg hin,h2] at hs
    split at hs
    ·rename_i hb
     injection hs with hs;injection hs with hs _
     rw[Bool.and_eq_true] at hb
     rw[← hs,hc _ (G2 hi hk hl) hb.2];exact mF hv
    ·cases hs
theorem j6 (b:UInt8)(k:List UInt8):az (b::k)=UInt8.ofNat (b.toNat / 16)::UInt8.ofNat (b.toNat% 16)::az k:=by
 have hb:ai (b::k) 0=(b.toNat:Int):=rfl
 have e0:jw (b::k) 0=(b.toNat:Int) / 16:=by
  unfold jw;rw[if_pos rfl];rfl
 have e1:jw (b::k) 1=(b.toNat:Int)% 16:=by
  unfold jw;rw[if_neg (by decide)];rfl
 have e2: ∀ j:Nat,jw (b::k) (j+2)=jw k j:=fun j=>by
  unfold jw
  have:(((j+2:Nat):Int) / 2)=((j / 2+1:Nat):Int):=by omega
  have h2:((j:Int) / 2)=((j / 2:Nat):Int):=by omega
  have h3:(j+2)% 2=j% 2:=by omega
  rw[h3,this,bL,h2]
 have hn:2*(b::k).length=2*k.length+1+1:=by rw[List.length_cons];omega
 unfold az cO
 rw[hn,List.range_succ_eq_map,List.map_cons,List.map_map,List.range_succ_eq_map,List.map_cons,List.map_map]
 simp only[Nat.zero_add,Function.comp,e0,e1,Nat.succ_eq_add_one]
 refine congr (congrArg _ ?_) (congr (congrArg _ ?_) ?_)
 ·congr 1
 ·congr 1
 ·refine List.map_congr_left fun j _=> ?_
  show UInt8.ofNat (jw (b::k) (j+2)).toNat=_
  rw[e2]
theorem Ey (a b:UInt8)(p:List UInt8)(ha:a.toNat<16)(hb:b.toNat<16):bF (a::b::p)=UInt8.ofNat (a.toNat*16+b.toNat)::bF p:=by
 have e0:gb (a::b::p) 0=(a.toNat:Int)*16+(b.toNat:Int):=by
  have h1:ai (a::b::p) (2*((0:Nat):Int))=(a.toNat:Int):=rfl
  have h2:ai (a::b::p) (2*((0:Nat):Int)+1)=(b.toNat:Int):=rfl
  unfold gb
  rw[h1,h2,J4 ⟨by omega,by omega⟩ ⟨by omega,by omega⟩]
 have e2: ∀ j:Nat,gb (a::b::p) (j+1)=gb p j:=fun j=>by
  unfold gb
  rw[show(2*((j+1:Nat):Int))=((2*j+1+1:Nat):Int)by push_cast;omega,bL,bL,
   show(((2*j+1+1:Nat):Int)+1)=((2*j+1+1+1:Nat):Int)by push_cast;omega,bL,bL]
  rw[show((2*j+1:Nat):Int)=2*(j:Int)+1 by push_cast;omega,show((2*j:Nat):Int)=2*(j:Int)by push_cast;omega]
 have hn:(a::b::p).length / 2=p.length / 2+1:=by rw[List.length_cons,List.length_cons];omega
 unfold bF cO
 rw[hn,List.range_succ_eq_map,List.map_cons,List.map_map]
 simp only[Nat.zero_add,e0]
 refine congr (congrArg _ ?_) (List.map_congr_left fun j _=>by
  show UInt8.ofNat (gb (a::b::p) (j+1)).toNat=_
  rw[e2])
 congr 1
theorem qx (b:UInt8):(UInt8.ofNat (b.toNat / 16)).toNat=b.toNat / 16/\(UInt8.ofNat (b.toNat% 16)).toNat=b.toNat% 16:=by
 have:=b.toNat_lt
 constructor
 ·rw[UInt8.toNat_ofNat'];omega
 ·rw[UInt8.toNat_ofNat'];omega
theorem zg: ∀(k:List UInt8),bF (az k)=k
 | []=>rfl
 | b::k=>by
   have hb:=b.toNat_lt
   obtain⟨h1,h2⟩:=qx b
   rw[j6,Ey _ _ _ (by rw[h1];omega) (by rw[h2];omega),zg k,h1,h2]
   congr 1
   rw[show b.toNat / 16*16+b.toNat% 16=b.toNat by omega,UInt8.ofNat_toNat]
theorem zL: ∀(k:List UInt8) (b:UInt8),b∈ az k->b.toNat<16
 | [],b,h=>by cases h
 | c::k,b,h=>by
   have hc:=c.toNat_lt
   obtain⟨h1,h2⟩:=qx c
   rw[j6] at h
   rcases List.mem_cons.1 h with rfl | h
   ·rw[h1];omega
   ·rcases List.mem_cons.1 h with rfl | h
    ·rw[h2];omega
    ·exact zL k b h
theorem M9 (k:List UInt8):nU (az k)=true:=by
 unfold nU
 rw[HS (zL k),pW,decide_eq_true (by omega)];rfl
theorem pP (a b:UInt8)(p q:List UInt8):Op.bytesLess (a::p) (b::q)=(decide (a<b)||(decide (a=b)&&Op.bytesLess p q)):=by
 show(decide (a<b)||(a==b&&Op.bytesLess p q))=_
 by_cases e:a=b
 ·subst e;simp
 ·simp[e]
theorem A4: ∀ {a b:List UInt8},Op.bytesLess a b=true->Op.bytesLess (az a) (az b)=true
 | [],[],h=>by cases h
 | [],b::q,_=>by rw[j6];rfl
 | a::p,[],h=>by cases h
 | a::p,b::q,h=>by
   have ha:=a.toNat_lt
   have hb:=b.toNat_lt
   obtain⟨a1,a2⟩:=qx a
   obtain⟨b1,b2⟩:=qx b
   rw[pP,Bool.or_eq_true,Bool.and_eq_true,decide_eq_true_eq,decide_eq_true_eq] at h
   rw[j6,j6,pP,pP]
   rcases h with h | ⟨rfl,h⟩
   ·have hlt:a.toNat<b.toNat:=UInt8.lt_iff_toNat_lt.1 h
    by_cases h1:a.toNat / 16<b.toNat / 16
    ·have:UInt8.ofNat (a.toNat / 16)<UInt8.ofNat (b.toNat / 16):=UInt8.lt_iff_toNat_lt.2 (by rw[a1,b1];exact h1)
     rw[decide_eq_true this];rfl
    ·have e1:UInt8.ofNat (a.toNat / 16)=UInt8.ofNat (b.toNat / 16):=by congr 1;omega
     have:UInt8.ofNat (a.toNat% 16)<UInt8.ofNat (b.toNat% 16):=UInt8.lt_iff_toNat_lt.2 (by rw[a2,b2];omega)
     rw[decide_eq_true e1,decide_eq_true this];simp
   ·rw[decide_eq_true rfl,decide_eq_true rfl,A4 h];simp
end Go.Proofs.YtoibaecagklkaaaGreatDoor
