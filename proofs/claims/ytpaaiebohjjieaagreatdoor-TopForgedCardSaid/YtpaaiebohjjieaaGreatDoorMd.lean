/-
  The framework's tenth part: append and copy on blocks that are written out; make.
-/
import Derived.Test.YtpaaiebohjjieaaGreatDoorMc
import Derived.Test.YtpaaiebohjjieaaGreatDoorMa
namespace Go.Proofs.YtpaaiebohjjieaaGreatDoor.Sx
open Go
noncomputable section
theorem anm {nx key:Nat}{m:Mem}(h:Mem.wf nx m=true):Mem.wf nx (m.drop key)=true:=by
 induction m with
 | nil=>rfl
 | cons e r ih =>
   simp only[Mem.wf,Bool.and_eq_true] at h;by_cases he:e.1=key
   ·rw[Mem.drop,if_pos he];exact ih h.2
   ·rw[Mem.drop,if_neg he];simp only[Mem.wf,Bool.and_eq_true];exact⟨h.1,ih h.2⟩
def kO (m:Mem)(s:Nat):SV->Option (List SV×Nat)
 | .aO=>some ([],0)
 | .slc key o n _ _=>(match m.get key with
   | some (.cells cs _ _)=>(match jQ cs o (n*s)with
     | some l=>some (l,n)
     | none=>none)
   | _=>none)
 | _=>none
theorem nW {P:Program}{Γ E m nx w}(hs:aG Γ E m nx w){s:Nat}{x:SV}{l:List SV}{n:Nat}(h:kO m s x=some (l,n)) :
  (Builtin.lenOf (x.val E)).run P w=.ok n w/\(∀ j,j<=n->(Builtin.firstCells s j (x.val E)).run P w=.ok (SV.vals E (l.take (j*s))).toArray w)/\l.length=n*s:=by
 unfold kO at h;split at h
 ·injection h with h;injection h with h1 h2;subst h1;subst h2;refine⟨rfl,fun j hj=> ?_,by simp⟩;obtain rfl:j=0:=by omega
  simp[SV.val,Builtin.firstCells,SV.vals]
 ·rename_i key o n' cl c;split at h
  ·rename_i cs tot ty hk;split at h
   ·rename_i l' hl;injection h with h;injection h with h1 h2;subst h1;subst h2;have hg:=cW hl;obtain⟨ob,ho,c0,fr,rfl,_,h2,_⟩:=hs.qD key _ hk rfl;refine⟨rfl,fun j hj=> ?_,hg.1⟩;have hle:j*s<=n'*s:=Nat.mul_le_mul_right s hj;have hrun:=run_loadCells (P:=P) (w:=w) ho o ((l'.take (j*s)).map (SV.val E)) (fun i v hi=>by
     rw[List.getElem?_map] at hi;cases hil:(l'.take (j*s))[i]? with
     | none=>rw[hil] at hi;cases hi
     | some u =>
       rw[hil] at hi;injection hi with hi;subst hi;have:l'[i]?=some u:=by
        rw[List.getElem?_take] at hil;split at hil
        ·exact hil
        ·cases hil
       exact h2 _ _ (hg.2 i u this))
    have hlen:((l'.take (j*s)).map (SV.val E)).length=j*s:=by rw[List.length_map,List.length_take,hg.1];exact Nat.min_eq_left hle
    rw[hlen] at hrun;simp only[SV.val,Builtin.firstCells,hrun,SV.bA]
   ·cases h
  ·cases h
 ·cases h
def bytes (P:Program)(t:TypeId):Option Nat:=match P.info? t with | some i=>some i.bytes | none=>none
def grown (elem:TypeId)(need:Nat)(cs:List SV)(s:Nat)(m:Mem)(nx:Nat)(K:KL):VC :=.all Nat fun c=>.imp (need<=c) (K (some (.slc nx 0 need false c)) ((nx,.cells cs (c*s) elem)::m) (nx+1))
def Ep (P:Program)(elem:TypeId)(s:Nat)(b:SV)(new:List SV)(n:Nat)(m:Mem)(nx:Nat)(K:KL):VC :=
 match bytes P elem,i6 P elem,kO m s b with
 | some by_,some z,some (old,n0) =>
   if(z.plain&&tL new&&SV.gM nx new&&decide (z.cells.length=s)&&decide (2*(n0+n)*by_<=281474976710656)&&decide (n0+n<9223372036854775808))=true then
   (match b with
   | .aO=>(match n with
     | 0=>K (some .aO) m nx
     | n+1=>grown elem (n+1) new s m nx K)
   | .slc key o _ true c=>(match m.get key with
     | some (.cells cs tot ty)=>if n0+n<=c then(if o+n0*s+new.length<=cs.length then
        K (some (.slc key o (n0+n) true c)) (m.put key (.cells (bz cs (o+n0*s) new) tot ty)) nx else .fail "append: cells that are not known")else
        grown elem (n0+n) (old++new) s m nx K
     | _=>.fail "append: no such block")
   | .slc key 0 _ false c=>(match m.get key with
     | some (.cells cs tot ty)=>if cs.length=n0*s/\ty=elem then .and (ng tot (c*s)) (.all Nat fun c'=>.imp (n0+n<=c') (K (some (.slc nx 0 (n0+n) false c')) ((nx,.cells (old++new) (c'*s) elem)::m.drop key) (nx+1)))
        else .fail "append: another block"
     | _=>.fail "append: no such block")
   | _=>.fail "append: to what")
   else .fail "append: sizes"
 | _,_,_=>.fail "append"
theorem WY (need c:Nat)(h:c<need):Builtin.nextslicecap need c<=2*need:=by
 unfold Builtin.nextslicecap;split
 ·omega
 ·split
  ·omega
  ·rename_i h1 h2;have key: ∀(r x:Nat),256<=x->x<need->Builtin.growBy need r x<=2*need:=by
    intro r;induction r with
    | zero=>intro x h3 h4;simp only[Builtin.growBy];omega
    | succ r ih =>
      intro x h3 h4;simp only[Builtin.growBy];rw[if_neg (by omega)];by_cases h5:x+(x+768) / 4<need
      ·exact ih _ (by omega) h5
      ·cases r with
       | zero=>simp only[Builtin.growBy];omega
       | succ r=>simp only[Builtin.growBy];rw[if_pos (by omega)];omega
   exact key 4 c (by omega) h
theorem acz {w:World}{P:Program}{q:Question}(hq:q.forced=false):(choose q).run P w=.ok (q.cut (w.tape w.drawn q)) {w with drawn:=w.drawn+1}:=by rw[run_choose,hq];rfl
def EO:TypeDesc->Bool
 | .slice _=>true
 | .string=>true
 | _=>false
section
variable {P : Program} {Γ : aQ}
theorem sA {w:World}{ats:Array TypeId}{ty t0 t1 elem:TypeId}{d:TypeDesc}{s by_:Nat}{base:Option Addr}{n0 c n:Nat}{x z:Value}{old new:Array Value}
  (h0:ats[0]?=some t0) (h1:ats[1]?=some t1) (hd:P.underlying t0=some (.slice elem)) (hd1:P.underlying t1=some d) (hni:EO d=true) (hs:sz P elem=some s) (hb:bytes P elem=some by_)
  (hz: ∀ w,(zeroValue elem).run P w=.ok z w) (hzs:z.cells.size=s) (hlen:(Builtin.lenOf x).run P w=.ok n w)
  (hold: ∀ k,(Builtin.firstCells s n0 (.slice base n0 c)).run P {w with drawn:=k}=.ok old {w with drawn:=k}) (hnew: ∀ k,(Builtin.firstCells s n x).run P {w with drawn:=k}=.ok new {w with drawn:=k})
  (hneed:c<n0+n) (hbound:2*(n0+n)*by_<=2^ 48) (hsmall:n0+n<2^ 63) :
  ∃ c' rest,n0+n<=c'/\rest.size=(c' - (n0+n))*s/\(Builtin.append_ ats ty #[.slice base n0 c,x]).run P w =
    .ok (.slice (some ⟨w.heap.size,0,none⟩) (n0+n) c') {w with drawn:=w.drawn+1,heap:=w.heap.push (.cells (old++new++rest) elem)}:=by
 have hby: ∃ i,P.info? elem=some i/\i.bytes=by_:=by
  unfold bytes at hb;split at hb
  ·rename_i i hi;injection hb with hb;exact⟨i,hi,hb⟩
  ·cases hb
 obtain⟨i,hi,hib⟩:=hby;have hcap:=WY (n0+n) c hneed;have hmul:Builtin.nextslicecap (n0+n) c*by_<=2^ 48:=Nat.le_trans (Nat.mul_le_mul_right by_ hcap) hbound;have h2: ¬ (n0+n<=c):=by omega
 have h3: ¬ (((n0+n:Nat):Int)>9223372036854775807):=by omega
 have h4: ¬ (Builtin.nextslicecap (n0+n) c*by_>2^ 48):=Nat.not_lt.2 hmul;refine⟨(Question.appendCap (n0+n) c elem).cut (w.tape w.drawn (.appendCap (n0+n) c elem)),Builtin.zeroCells z.cells ((Question.appendCap (n0+n) c elem).cut (w.tape w.drawn (.appendCap (n0+n) c elem)) - (n0+n)),?_,?_,?_⟩
 ·simp only[Question.cut];omega
 ·simp[Builtin.zeroCells,hzs]
 ·cases d
  all_goals first | (cases hni;done) | skip
  all_goals
   simp only[Builtin.append_,h0,h1,List.getElem?_toArray,List.getElem?_cons_zero,List.getElem?_cons_succ,Sem.run_bind,az hd,Result.andThen_ok,bU hs,az hd1,Sem.run_pure,
    Bool.false_eq_true,if_false,hlen,Sem.run_ite,h2,nQ hi,hib,imax,h3,false_and,h4,acz (q:=.appendCap (n0+n) c elem) rfl,run_askRoom,hold,Bool.not_false,if_true,hnew,hz,newRow,run_newObj]
theorem yZ {w w':World}{ats:Array TypeId}{ty t0 t1 elem:TypeId}{d:TypeDesc}{s:Nat}{b o:Nat}{n0 c n:Nat}{x:Value}{new:Array Value}
  (h0:ats[0]?=some t0) (h1:ats[1]?=some t1) (hd:P.underlying t0=some (.slice elem)) (hd1:P.underlying t1=some d) (hni:EO d=true) (hs:sz P elem=some s)
  (hlen:(Builtin.lenOf x).run P w=.ok n w) (hnew:(Builtin.firstCells s n x).run P w=.ok new w) (hneed:n0+n<=c)
  (hst:(storeCells ⟨b,o+n0*s,none⟩ new.toList).run P w=.ok () w') :
  (Builtin.append_ ats ty #[.slice (some ⟨b,o,none⟩) n0 c,x]).run P w=.ok (.slice (some ⟨b,o,none⟩) (n0+n) c) w':=by
 cases d
 all_goals first | (cases hni;done) | skip
 all_goals
  simp only[Builtin.append_,h0,h1,List.getElem?_toArray,List.getElem?_cons_zero,List.getElem?_cons_succ,Sem.run_bind,az hd,Result.andThen_ok,bU hs,az hd1,Sem.run_pure,
   Bool.false_eq_true,if_false,hlen,Sem.run_ite,hneed,if_true,hnew,Bool.not_false,cN,hst]
theorem append_nil {w:World}{ats:Array TypeId}{ty t0 t1 elem:TypeId}{d:TypeDesc}{s:Nat}{x:Value}{new:Array Value}
  (h0:ats[0]?=some t0) (h1:ats[1]?=some t1) (hd:P.underlying t0=some (.slice elem)) (hd1:P.underlying t1=some d) (hni:EO d=true) (hs:sz P elem=some s)
  (hlen:(Builtin.lenOf x).run P w=.ok 0 w) (hnew:(Builtin.firstCells s 0 x).run P w=.ok new w) :
  (Builtin.append_ ats ty #[.slice none 0 0,x]).run P w=.ok (.slice none 0 0) w:=by
 cases d
 all_goals first | (cases hni;done) | skip
 all_goals
  simp only[Builtin.append_,h0,h1,List.getElem?_toArray,List.getElem?_cons_zero,List.getElem?_cons_succ,Sem.run_bind,az hd,Result.andThen_ok,bU hs,az hd1,Sem.run_pure,
   Bool.false_eq_true,if_false,hlen,Sem.run_ite,Nat.add_zero,Nat.le_refl,if_true,hnew,Bool.not_false]
theorem DB {m:Mem}{s key o n c:Nat}{cl:Bool}{l:List SV}{n0:Nat}(h:kO m s (.slc key o n cl c)=some (l,n0)):n0=n:=by
 simp only[kO] at h;split at h
 ·split at h
  ·injection h with h;injection h with _ h;exact h.symm
  ·cases h
 ·cases h
theorem aV.grown {m:Mem}{nx:Nat}{K:KL}{Γ:aQ}{E:Nat->Nat}{w:World}(hs:aG Γ E m nx w)(hw:Mem.wf nx m=true){elem:TypeId}{need s:Nat}{cs:List SV}
  (hcs:SV.gM nx cs=true) (hl:cs.length=need*s) (h:(Sx.grown elem need cs s m nx K).holds) {c':Nat} (hc':need<=c') {rest:Array Value} (hr:rest.size=(c' - need)*s) {a:Array Value} (ha:a.toList=cs.map (SV.val E)) :
  aV K Γ E nx (.slice (some ⟨w.heap.size,0,none⟩) need c') {w with drawn:=w.drawn+1,heap:=w.heap.push (.cells (a++rest) elem)}:=by
 have h':=h c' hc';have hs':=hs.drew (w.drawn+1);refine aV.alloc (sv:=.slc nx 0 need false c') hs' hw hcs (fun i v hv=> ?_) ?_ h' (by simp[SV.val])
 ·have:=CB (E:=E) ha i v hv;rw[Array.getElem?_append_left (Array.getElem?_eq_some_iff.1 this).1];exact this
 ·rw[Array.size_append,xO (E:=E) ha,hl,hr,← Nat.add_mul];congr 1;omega
theorem U5 {m:Mem}{nx s:Nat}(hw:Mem.wf nx m=true){x:SV}{l:List SV}{n:Nat}(h:kO m s x=some (l,n)):SV.gM nx l=true:=by
 unfold kO at h;split at h
 ·injection h with h;injection h with h1 h2;subst h1;rfl
 ·split at h
  ·rename_i cs tot ty hk;split at h
   ·rename_i l' hl;injection h with h;injection h with h1 h2;subst h1;have hwk:=Mem.Rj hw hk;simp only[SB.wf] at hwk;have hg:=cW hl;have: ∀(l':List SV),(∀(j:Nat) (v:SV),l'[j]?=some v->v.wf nx=true)->SV.gM nx l'=true:=by
     intro l';induction l' with
     | nil=>intro _;rfl
     | cons x r ih=>intro hh;simp only[SV.gM,Bool.and_eq_true];exact⟨hh 0 x rfl,ih fun j v hj=>hh (j+1) v (by simpa using hj)⟩
    exact this l' fun j v hj=>SV.zT hwk (hg.2 j v hj)
   ·cases h
  ·cases h
 ·cases h
def Hx (P:Program)(ats:Array TypeId)(x y:SV)(m:Mem)(nx:Nat)(K:KL):VC :=
 match ats[0]?,ats[1]? with
 | some t0,some t1=>(match P.underlying t0,P.underlying t1 with
   | some (.slice elem),some d=>(match sz P elem with
     | some s=>(match kO m s y with
       | some (new,n)=>if EO d=true then Ep P elem s x new n m nx K else .fail "append: make"
       | none=>.fail "append: of what")
     | none=>.fail "append")
   | _,_=>.fail "append")
 | _,_=>.fail "append"
theorem Wt {m:Mem}{nx:Nat}{ats:Array TypeId}{ty:TypeId}{x y:SV}{K:KL}{Γ:aQ}{E:Nat->Nat}{w:World}
  (h:(Hx P ats x y m nx K).holds) (hs:aG Γ E m nx w) (hw:Mem.wf nx m=true) :
  ∃ r w',(Builtin.append_ ats ty #[x.val E,y.val E]).run P w=.ok r w'/\aV K Γ E nx r w':=by
 unfold Hx at h;split at h
 ·rename_i t0 t1 h0 h1;split at h
  ·rename_i elem d hd hd1;split at h
   ·rename_i s hsz;split at h
    ·rename_i new n hy;split at h
     ·rename_i hni;obtain⟨ylen,ycells,ynum⟩:=nW (P:=P) hs hy;have hynew:=ycells n (Nat.le_refl _);rw[List.take_of_length_le (by omega)] at hynew;unfold Ep at h;split at h
      ·rename_i by_ z old n0 hby hz hx;split at h
       ·rename_i hc;simp only[Bool.and_eq_true,decide_eq_true_eq] at hc;obtain⟨⟨⟨⟨⟨g1,g2⟩,g3⟩,g4⟩,g5⟩,g6⟩:=hc;have hzr: ∀ w:World,(zeroValue elem).run P w=.ok (z.val E) w:=fun w=>eN hz;have hzs:(z.val E).cells.size=s:=by rw[SV.gX g1];simp[g4]
        have hdraw: ∀ k,aG Γ E m nx {w with drawn:=k}:=fun k=>hs.drew k;have ydraw: ∀ k,(Builtin.firstCells s n (y.val E)).run P {w with drawn:=k}=.ok (SV.vals E new).toArray {w with drawn:=k}:=fun k=>by have:=(nW (P:=P) (hdraw k) hy).2.1 n (Nat.le_refl _);rw[List.take_of_length_le (by omega)] at this;exact this
        have oldwf:=U5 hw hx;obtain⟨xlen,xcells,xnum⟩:=nW (P:=P) hs hx;have xdraw: ∀ k,(Builtin.firstCells s n0 (x.val E)).run P {w with drawn:=k}=.ok (SV.vals E old).toArray {w with drawn:=k}:=fun k=>by have:=(nW (P:=P) (hdraw k) hx).2.1 n0 (Nat.le_refl _);rw[List.take_of_length_le (by omega)] at this;exact this
        split at h
        ·
         simp only[kO] at hx;injection hx with hx;injection hx with e1 e2;subst e1;subst e2;split at h
         ·exact⟨_,_,append_nil h0 h1 hd hd1 hni hsz ylen hynew,E,some .aO,m,nx,fun _ _=>rfl,Nat.le_refl _,fun v hv=>by injection hv with hv;subst hv;rfl,hs,h⟩
         ·rename_i n';obtain⟨c',rest,q1,q2,q3⟩:=sA (w:=w) (ty:=ty) (base:=none) (n0:=0) (c:=0) h0 h1 hd hd1 hni hsz hby hzr hzs ylen xdraw ydraw (by omega) (by omega) (by omega);refine⟨_,_,q3,?_⟩;rw[Nat.zero_add] at q1 q2 ⊢;exact aV.grown hs hw g3 ynum h q1 q2 (by simp[SV.bA,SV.vals])
        ·
         rename_i key o _ c;have e0:=DB hx;subst e0;split at h
         ·rename_i cs tot ty' hk;split at h
          ·rename_i hle;split at h
           ·rename_i hin
            obtain⟨w',hrun,haft⟩:=aV.write (P:=P) (sv:=some (.slc key o (n0+n) true c)) (r:=.slice (some ⟨E key,o,none⟩) (n0+n) c) hs hk (m6 g2) hin
             (fun v hv=>by injection hv with hv;subst hv;rfl) h
            exact⟨_,w',yZ h0 h1 hd hd1 hni hsz ylen hynew hle hrun,haft⟩
           ·exact h.elim
          ·rename_i hle;obtain⟨c',rest,q1,q2,q3⟩:=sA (w:=w) (ty:=ty) (base:=some ⟨E key,o,none⟩) (n0:=n0) (c:=c) h0 h1 hd hd1 hni hsz hby hzr hzs ylen xdraw ydraw (by omega) (by omega) (by omega);exact⟨_,_,q3,aV.grown hs hw (ga oldwf g3) (by simp[xnum,ynum,Nat.add_mul]) h q1 q2 (by simp[SV.bA])⟩
         ·exact h.elim
        ·
         rename_i key _ c;have e0:=DB hx;subst e0;split at h
         ·rename_i cs tot ty' hk;split at h
          ·rename_i hcond;obtain⟨hcl,rfl⟩:=hcond;obtain⟨htot,h⟩:=h;have htot:tot=c*s:=htot;by_cases hle:n0+n<=c
           ·
            obtain⟨ob,ho,ca,fr,rfl,hf1,hf2,hf3⟩:=hs.qD key _ hk rfl;have hcap:n0*s+new.length<=ca.size:=by rw[hf3,htot,ynum,← Nat.add_mul];exact Nat.mul_le_mul_right s hle
            have hrun:=dN (P:=P) (o:=0+n0*s) (SV.vals E new) 0 w ca ho hf1 (by simp[SV.bA];omega) (fun v hv'=>by rw[SV.bA,List.mem_map] at hv';obtain⟨u,hu,rfl⟩:=hv';exact SV.vB (m6 g2 u hu))
            refine⟨_,_,yZ (o:=0) h0 h1 hd hd1 hni hsz ylen hynew hle hrun,?_⟩;have hold:old=cs:=by
             simp only[kO,hk] at hx;split at hx
             ·rename_i l hl;injection hx with hx;injection hx with e1 _;subst e1;have hg:=cW hl;apply List.ext_getElem?;intro j;by_cases hj:j<l.length
              ·have:=hg.2 j l[j] (List.getElem?_eq_getElem hj);rw[Nat.zero_add] at this;rw[this,List.getElem?_eq_getElem hj]
              ·rw[List.getElem?_eq_none (by omega),List.getElem?_eq_none (by rw[hcl,← hg.1];omega)]
             ·cases hx
            have hkn:=hs.lt key _ hk
            refine⟨fun j=>if j=nx then E key else E j,some (.slc nx 0 (n0+n) false c),_,_,fun k hk'=>by simp[Nat.ne_of_lt hk'],Nat.le_succ _,fun v hv=>by injection hv with hv;subst hv;simp[SV.val],
             hs.move hw hk rfl rfl (B':=.cells (old++new) (c*s) ty') ?_,h c hle⟩
            refine⟨_,fr,rfl,by rw[bG];exact hf1,fun i v hi=> ?_,by rw[bG,hf3,htot]⟩;have hcong:v.val (fun j=>if j=nx then E key else E j)=v.val E:=SV.val_congr (nx:=nx) (fun k hk'=>by simp[Nat.ne_of_lt hk']) v (SV.zT (ga oldwf g3) hi)
            rw[hcong,← Array.getElem?_toList,jH];have hcat: ∀(vs:List Value) (pre post:List Value),vs.length<=post.length->bz (pre++post) pre.length vs=pre++(vs++post.drop vs.length):=by
             intro vs;induction vs with
             | nil=>intro pre post _;simp[bz]
             | cons u r ih =>
               intro pre post hp;cases post with
               | nil=>simp at hp
               | cons q qs =>
                 rw[bz];have:(pre++q::qs).set pre.length u=(pre++[u])++qs:=by simp
                 rw[this];have:=ih (pre++[u]) qs (by simpa using hp);simp only[List.length_append,List.length_singleton] at this;rw[this];simp
            have hsplit:ca.toList=ca.toList.take (n0*s)++ca.toList.drop (n0*s):=(List.take_append_drop _ _).symm;have hpl:(ca.toList.take (n0*s)).length=n0*s:=by rw[List.length_take,Array.length_toList];omega
            rw[hsplit,show 0+n0*s+0=(ca.toList.take (n0*s)).length by rw[hpl];omega,hcat _ _ _ (by simp[SV.bA];omega)];rw[List.getElem?_append] at hi ⊢;rw[hold,hcl] at hi;rw[hpl];split
            ·rename_i hlt;rw[if_pos hlt] at hi;rw[List.getElem?_take,if_pos hlt,Array.getElem?_toList];exact hf2 i v hi
            ·rename_i hge;rw[if_neg hge] at hi;have hil:i - n0*s<new.length:=(List.getElem?_eq_some_iff.1 hi).1;rw[List.getElem?_append_left (by simpa [SV.bA] using hil),SV.bA,List.getElem?_map,hi];rfl
           ·obtain⟨c',rest,q1,q2,q3⟩:=sA (w:=w) (ty:=ty) (base:=some ⟨E key,0,none⟩) (n0:=n0) (c:=c) h0 h1 hd hd1 hni hsz hby hzr hzs ylen xdraw ydraw (by omega) (by omega) (by omega);refine⟨_,_,q3,?_⟩;have hsub:aG Γ E (m.drop key) nx w:=hs.sub (fun k B hk=>(Mem.hG hk).2) (fun k B hk=>hs.lt k B (Mem.hG hk).2) (.inl (Nat.le_refl _));refine aV.grown (m:=m.drop key) hsub (anm hw) (ga oldwf g3) (by simp[xnum,ynum,Nat.add_mul]) ?_ q1 q2 (by simp[SV.bA]);exact h
          ·exact h.elim
         ·exact h.elim
        ·exact h.elim
       ·exact h.elim
      ·exact h.elim
     ·exact h.elim
    ·exact h.elim
   ·exact h.elim
  ·exact h.elim
 ·exact h.elim
end
structure ou (E:Nat->Nat)(s:Nat)(av:List aK)(n:Nat)(l:List Value):Prop where
 len:l.length=n*s
 wide:av.length=s
 get: ∀ i k col,i<n->av[k]?=some col->l[i*s+k]?=some ((col.at i).val E)
def aK.flat:aK->Bool
 | .raw _=>false
 | _=>true
def ni:List aK->Bool
 | []=>true
 | c::r=>c.flat&&ni r
theorem y9: ∀ {l:List aK},ni l=true->∀ {k:Nat} {c:aK},l[k]?=some c->c.flat=true
 | [],_,k,c,h=>by simp at h
 | x::r,h,k,c,hk=>by
   simp only[ni,Bool.and_eq_true] at h;cases k with
   | zero=>simp at hk;subst hk;exact h.1
   | succ k=>exact y9 h.2 (by simpa using hk)
theorem aK.tU {c:aK}(h:c.flat=true)(E:Nat->Nat)(i:Nat):((c.at i).val E).oneCell'=true:=by cases c<;>first | (cases h;done) | rfl
theorem aK.R7 {c:aK}(h:c.flat=true)(E E':Nat->Nat)(i:Nat):(c.at i).val E=(c.at i).val E':=by cases c<;>first | (cases h;done) | rfl
theorem ou.one {E:Nat->Nat}{s:Nat}{av:List aK}{n:Nat}{l:List Value}(h:ou E s av n l)(hf:ni av=true): ∀ v∈ l,v.oneCell'=true:=by
 intro v hv;obtain⟨q,hq⟩:=List.getElem?_of_mem hv;have hql:=(List.getElem?_eq_some_iff.1 hq).1;rw[h.len] at hql;have hs:0<s:=by grind
 have h1:q / s<n:=(Nat.div_lt_iff_lt_mul hs).2 hql;have h2:q% s<av.length:=by rw[h.wide];exact Nat.mod_lt _ hs
 have h3:=h.get (q / s) (q% s) av[q% s] h1 (List.getElem?_eq_getElem h2);rw[show q / s*s+q% s=q by grind [Nat.mul_comm,Nat.div_add_mod],hq] at h3;injection h3 with h3;rw[h3];exact aK.tU (y9 hf (List.getElem?_eq_getElem h2)) E _
def aK.shift (i:Nat):aK->aK
 | .int k f=>.int k (fun j=>f (j+i))
 | .bool f=>.bool (fun j=>f (j+i))
 | .str f=>.str (fun j=>f (j+i))
 | .raw f=>.raw (fun j=>f (j+i))
 | .ref k f=>.ref k (fun j=>f (j+i))
 | .fq k w z f n c=>.fq k w z (fun j=>f (j+i)) (fun j=>n (j+i)) (fun j=>c (j+i))
theorem aK.aip (i j:Nat)(c:aK):(c.shift i).at j=c.at (i+j):=by rw[Nat.add_comm];cases c<;>rfl
def gE (i:Nat)(av:List aK):List aK:=av.map (aK.shift i)
theorem tG {i:Nat}{av:List aK}{k:Nat}{c:aK}(h:(gE i av)[k]?=some c): ∃ d,av[k]?=some d/\∀ j,c.at j=d.at (i+j):=by
 simp only[gE,List.getElem?_map] at h
 grind [aK.aip]
theorem jI {i:Nat}{av:List aK}:(gE i av).length=av.length:=by simp[gE]
theorem XL {i:Nat}{c:aK}:(c.shift i).flat=c.flat:=by cases c<;>rfl
theorem nV {i:Nat}{av:List aK}:ni (gE i av)=ni av:=by
 simp only[gE];induction av with
 | nil=>rfl
 | cons c r ih=>grind [XL,ni]
def agi (w k:Nat):Nat->List SV->Option (List SV)
 | 0,_=>some []
 | n+1,l=>match l[k]?,agi w k n (l.drop w)with
   | some v,some r=>some (v::r)
   | _,_=>none
theorem Tk {w k:Nat}: ∀ {n:Nat} {l r:List SV},agi w k n l=some r->r.length=n/\∀(i:Nat),i<n->∃ v,r[i]?=some v/\l[i*w+k]?=some v
 | 0,l,r,h=>by simp[agi] at h;subst h;exact⟨rfl,fun i hi=>by omega⟩
 | n+1,l,r,h=>by
   simp only[agi] at h;split at h
   ·rename_i v r' hv hr;injection h with h;subst h;obtain⟨h1,h2⟩:=Tk hr;refine⟨by simp[h1],fun i hi=> ?_⟩;cases i with
    | zero=>exact⟨v,rfl,by simpa using hv⟩
    | succ i =>obtain⟨u,hu1,hu2⟩:=h2 i (by omega);refine⟨u,by simpa using hu1,?_⟩;rw[List.getElem?_drop] at hu2;rw[show(i+1)*w+k=w+(i*w+k)by rw[Nat.add_mul];omega];exact hu2
   ·cases h
def Hh:List SV->Option (List Bool)
 | []=>some []
 | .bool _ s::r=>(match Hh r with
   | some l=>some (s::l)
   | none=>none)
 | _::_=>none
def aqj (l:List Bool)(i:Nat):Bool:=l.getD i false
theorem FB: ∀ {cs:List SV} {l:List Bool},Hh cs=some l->∀(i:Nat) (v:SV),cs[i]?=some v->∃ b,v=.bool b (aqj l i)
 | [],l,h,i,v,hv=>by simp at hv
 | .bool b s::r,l,h,i,v,hv=>by
   simp only[Hh] at h;split at h
   ·rename_i l' hl;injection h with h;subst h;cases i with
    | zero=>simp at hv;subst hv;exact⟨b,rfl⟩
    | succ i=>obtain⟨b',hb⟩:=FB hl i v (by simpa using hv);exact⟨b',by rw[hb];rfl⟩
   ·cases h
def Hg:List SV->Option (List Nat)
 | []=>some []
 | .iq _ a 0::r=>(match Hg r with
   | some l=>some (a::l)
   | none=>none)
 | _::_=>none
def aim (l:List Nat)(i:Nat):Nat:=l.getD i 0
theorem Fy: ∀ {cs:List SV} {l:List Nat},Hg cs=some l->∀(i:Nat) (v:SV),cs[i]?=some v->∃ k,v=.iq k (aim l i) 0
 | [],l,h,i,v,hv=>by simp at hv
 | .iq k a 0::r,l,h,i,v,hv=>by
   simp only[Hg] at h;split at h
   ·rename_i l' hl;injection h with h;subst h;cases i with
    | zero=>simp at hv;subst hv;exact⟨k,rfl⟩
    | succ i=>obtain⟨b',hb⟩:=Fy hl i v (by simpa using hv);exact⟨b',by rw[hb];rfl⟩
   ·cases h
def aex:List SV->Option aK
 | .iq k a 0::r=>(match Hg (.iq k a 0::r)with
   | some l=>some (.ref k (aim l))
   | none=>none)
 | .int k b n::r=>(match Bi k (.int k b n::r)with
   | some l=>some (.int k (LR l))
   | none=>none)
 | .str b s::r=>(match tH (.str b s::r)with
   | some l=>some (.str (lZ l))
   | none=>none)
 | .bool b s::r=>(match Hh (.bool b s::r)with
   | some l=>some (.bool (aqj l))
   | none=>none)
 | _=>none
theorem aa3 {l:List SV}{c:aK}(h:aex l=some c):c.flat=true/\∀(E:Nat->Nat) (i:Nat) (v:SV),l[i]?=some v->v.val E=(c.at i).val E:=by
 unfold aex at h;split at h
 ·split at h
  ·rename_i hl;injection h with h;subst h;refine⟨rfl,fun E i v hv=> ?_⟩;obtain⟨b,hb⟩:=Fy hl i v hv;rw[hb];rfl
  ·cases h
 ·split at h
  ·rename_i hl;injection h with h;subst h;refine⟨rfl,fun E i v hv=> ?_⟩;obtain⟨b,hb⟩:=(vA hl).2 i v hv;rw[hb];rfl
  ·cases h
 ·split at h
  ·rename_i hl;injection h with h;subst h;refine⟨rfl,fun E i v hv=> ?_⟩;obtain⟨b,hb⟩:=sn hl i v hv;rw[hb];rfl
  ·cases h
 ·split at h
  ·rename_i hl;injection h with h;subst h;refine⟨rfl,fun E i v hv=> ?_⟩;obtain⟨b,hb⟩:=FB hl i v hv;rw[hb];rfl
  ·cases h
 ·cases h
def Ie (w n:Nat)(cs:List SV):Nat->Option (List aK)
 | 0=>some []
 | r+1=>match agi w (w - (r+1)) n cs with
   | some l=>(match aex l,Ie w n cs r with
     | some c,some av=>some (c::av)
     | _,_=>none)
   | none=>none
theorem Ig {w n:Nat}{cs:List SV}: ∀ {r:Nat} {av:List aK},r<=w->Ie w n cs r=some av->av.length=r/\ni av=true /\
  ∀(E:Nat->Nat) (i j:Nat) (col:aK),i<n->av[j]?=some col->∃ v,cs[i*w+(w - r+j)]?=some v/\v.val E=(col.at i).val E
 | 0,av,_,h=>by simp[Ie] at h;subst h;exact⟨rfl,rfl,fun E i j col _ hj=>by simp at hj⟩
 | r+1,av,hw,h=>by
   simp only[Ie] at h;split at h
   ·rename_i l hl;split at h
    ·rename_i c cols' hc hr;injection h with h;subst h;obtain⟨h1,h2,h3⟩:=Ig (by omega) hr;obtain⟨g1,g2⟩:=aa3 hc;refine⟨by simp[h1],by simp[ni,g1,h2],fun E i j col hi hj=> ?_⟩;cases j with
     | zero =>simp at hj;subst hj;obtain⟨v,hv1,hv2⟩:=(Tk hl).2 i hi;exact⟨v,by simpa using hv2,g2 E i v hv1⟩
     | succ j =>obtain⟨v,hv1,hv2⟩:=h3 E i j col hi (by simpa using hj);exact⟨v,by rw[show w - (r+1)+(j+1)=w - r+j by omega];exact hv1,hv2⟩
    ·cases h
   ·cases h
def s7 (m:Mem)(s:Nat):SV->Option (Prop×Nat×Option (List aK))
 | .aO=>some (True,0,none)
 | .slc key o n _ _=>(match n with
   | 0=>some (True,0,none)
   | n+1=>(match m.get key with
     | some (.cells cs _ _)=>(match jQ cs o ((n+1)*s)with
       | some l=>(match Ie s (n+1) l s with
         | some av=>some (True,n+1,some av)
         | none=>none)
       | none=>none)
     | _=>none))
 | .bI key w _ i n _=>(match m.get key with
   | some (.rows _ nb av _ _ _)=>if w=s/\av.length=s/\ni av=true then some (i+n<=nb,n,some (gE i av))else none
   | _=>none)
 | .fq key w _ a i n _=>(match m.get key with
   | some (.lH D nf av _)=>if w=s/\(av.map (dm.at a)).length=s/\ni (av.map (dm.at a))=true then some (0<n->D a=true/\i+n<=nf a,n,some (gE i (av.map (dm.at a))))else none
   | _=>none)
 | .str _ l=>if s=1 then some (True,l.length,some [.int .u8 (fun j=>((l.getD j 0).toNat:Int))])else none
 | _=>none
theorem aqW {n:Nat}:Nat.beq n 0=true↔n=0:=by simp_all
theorem GO {P:Program}{Γ E m nx w}(hs:aG Γ E m nx w){s:Nat}{x:SV}{p:Prop}{n:Nat}{oc:Option (List aK)}(h:s7 m s x=some (p,n,oc))(hp:p) :
  ∃ l:List Value,(Builtin.lenOf (x.val E)).run P w=.ok n w/\(∀ k,(Builtin.firstCells s n (x.val E)).run P {w with drawn:=k}=.ok l.toArray {w with drawn:=k})/\l.length=n*s /\
    (∀ av,oc=some av->ou E s av n l/\ni av=true)/\(oc=none->n=0):=by
 unfold s7 at h;split at h
 ·injection h with h;injection h with h1 h2;injection h2 with h2 h3;subst h2;subst h3;exact⟨[],rfl,fun k=>by simp[SV.val,Builtin.firstCells],by simp,(fun _ h=>by cases h),fun _=>rfl⟩
 ·rename_i key o n' cl c;split at h
  ·injection h with h;injection h with h1 h2;injection h2 with h2 h3;subst h2;subst h3;refine⟨[],rfl,fun k=> ?_,by simp,(fun _ h=>by cases h),fun _=>rfl⟩;simp[SV.val,Builtin.firstCells,loadCells,loadCellsFrom]
  ·rename_i n';split at h
   ·rename_i cs tot ty hk;split at h
    ·rename_i l hl;split at h
     ·rename_i av hc;injection h with h;injection h with h1 h2;injection h2 with h2 h3;subst h2;subst h3;have hg:=cW hl;obtain⟨ob,ho,c0,fr,rfl,_,h2,_⟩:=hs.qD key _ hk rfl;obtain⟨q1,q2,q3⟩:=Ig (Nat.le_refl s) hc;refine⟨l.map (SV.val E),rfl,fun k=> ?_,by rw[List.length_map,hg.1],fun cols' hc'=> ?_,fun h=>by cases h⟩
      ·have:=run_loadCells (P:=P) (w:={w with drawn:=k}) (b:=E key) (c:=c0) ho o (l.map (SV.val E)) (fun i v hi=>by
        rw[List.getElem?_map] at hi;cases hil:l[i]? with
        | none=>rw[hil] at hi;cases hi
        | some u=>rw[hil] at hi;injection hi with hi;subst hi;exact h2 _ _ (hg.2 i u hil))
       rw[List.length_map,hg.1] at this;simp only[SV.val,Builtin.firstCells,this]
      ·injection hc' with hc';subst hc';refine⟨⟨by rw[List.length_map,hg.1],q1,fun i k col hi hk=> ?_⟩,q2⟩;obtain⟨v,hv1,hv2⟩:=q3 E i k col hi hk;rw[Nat.sub_self,Nat.zero_add] at hv1;rw[List.getElem?_map,hv1,← hv2];rfl
     ·cases h
    ·cases h
   ·cases h
 ·rename_i key w' z i n' c;split at h
  ·rename_i zb nb av ro tot ty hk;split at h
   ·rename_i hc;obtain⟨rfl,hcl,hf⟩:=hc;injection h with h;injection h with h1 h2;injection h2 with h2 h3;subst h1;subst h2;subst h3;rcases Nat.eq_zero_or_pos n' with e | e
    ·subst e;refine⟨[],rfl,fun k=> ?_,by simp,fun cols' hc'=> ?_,fun h=>by cases h⟩
     ·simp only[SV.val];cases z<;>simp[Builtin.firstCells,loadCells,loadCellsFrom]
     ·injection hc' with hc';subst hc';exact⟨⟨by simp,by rw[jI];exact hcl,fun i k col hi _=>by omega⟩,by rw[nV];exact hf⟩
    ·have hno:(SB.rows zb nb av ro tot ty).no=false:=SB.mc (i:=0) (by omega);obtain⟨ob,ho,c0,fr,rfl,_,h1,_,h2⟩:=hs.qD key _ hk hno;rw[hcl] at h1 h2;have hle:i*w'+n'*w'<=c0.size:=by rw[← Nat.add_mul];exact Nat.le_trans (Nat.mul_le_mul_right w' hp) h1
     have hbeq:Nat.beq n' 0=false:=by cases n' with
      | zero=>omega
      | succ n=>rfl
     have hlen:((c0.toList.drop (i*w')).take (n'*w')).length=n'*w':=by rw[List.length_take,List.length_drop,Array.length_toList];omega
     refine⟨(c0.toList.drop (i*w')).take (n'*w'),rfl,fun k=> ?_,hlen,fun cols' hc'=> ?_,fun h=>by cases h⟩
     ·have:=run_loadCells (P:=P) (w:={w with drawn:=k}) (b:=E key) (c:=c0) ho (i*w') ((c0.toList.drop (i*w')).take (n'*w')) (fun j v hj=>by
       rw[List.getElem?_take] at hj;split at hj
       ·rw[List.getElem?_drop,Array.getElem?_toList] at hj;exact hj
       ·cases hj)
      rw[hlen] at this;simp only[SV.val,hbeq,Bool.and_false,cond_false,Builtin.firstCells,this]
     ·injection hc' with hc';subst hc';refine⟨⟨hlen,by rw[jI];exact hcl,fun j k col hj hk=> ?_⟩,by rw[nV];exact hf⟩;obtain⟨d,hd1,hd2⟩:=tG hk;have hkl:k<w':=by have:=(List.getElem?_eq_some_iff.1 hd1).1;omega
      have hlt:j*w'+k<n'*w':=by have:(j+1)*w'<=n'*w':=Nat.mul_le_mul_right w' hj;rw[Nat.add_mul] at this;omega
      rw[hd2,List.getElem?_take,if_pos hlt,List.getElem?_drop,Array.getElem?_toList];have:=h2 (i+j) k d (by omega) hd1;rw[Nat.add_mul] at this;rw[← Nat.add_assoc];exact this
   ·cases h
  ·cases h
 ·rename_i key w' z a i n' c;split at h
  ·rename_i D nf av ro hk;split at h
   ·rename_i hc;obtain⟨rfl,hcl,hf⟩:=hc;injection h with h;injection h with h1 h2;injection h2 with h2 h3;subst h1;subst h2;subst h3;rcases Nat.eq_zero_or_pos n' with e | e
    ·subst e;refine⟨[],rfl,fun k=> ?_,by simp,fun cols' hc'=> ?_,fun h=>by cases h⟩
     ·simp only[SV.val];cases z<;>simp[Builtin.firstCells,loadCells,loadCellsFrom]
     ·injection hc' with hc';subst hc';exact⟨⟨by simp,by rw[jI];exact hcl,fun i k col hi _=>by omega⟩,by rw[nV];exact hf⟩
    ·obtain⟨hD,hin⟩:=hp e;obtain⟨ob,ho,c0,ty,fr,rfl,h2⟩:=hs.jK key _ a hk hD;rw[hcl] at h2
     have hbeq:Nat.beq n' 0=false:=by cases n' with
      | zero=>omega
      | succ n=>rfl
     have hs0:0<w'∨w'=0:=by omega
     have hlen:((c0.toList.drop (i*w')).take (n'*w')).length=n'*w':=by
      rcases hs0 with hs0 | hs0
      ·have hcol: ∃ col,(av.map (dm.at a))[w' - 1]?=some col:=⟨_,List.getElem?_eq_getElem (by omega)⟩
       obtain⟨col,hcol⟩:=hcol;have:=(Array.getElem?_eq_some_iff.1 (h2 (i+n' - 1) (w' - 1) col (by omega) hcol)).1;rw[Nat.zero_add] at this;have e2:(i+n' - 1)*w'+w'=i*w'+n'*w':=by rw[← Nat.add_mul,← Nat.succ_mul];congr 1;omega
       rw[List.length_take,List.length_drop,Array.length_toList];omega
      ·subst hs0;simp
     refine⟨(c0.toList.drop (i*w')).take (n'*w'),rfl,fun k=> ?_,hlen,fun cols' hc'=> ?_,fun h=>by cases h⟩
     ·have:=run_loadCells (P:=P) (w:={w with drawn:=k}) (b:=a) (c:=c0) ho (i*w') ((c0.toList.drop (i*w')).take (n'*w')) (fun j v hj=>by
       rw[List.getElem?_take] at hj;split at hj
       ·rw[List.getElem?_drop,Array.getElem?_toList] at hj;exact hj
       ·cases hj)
      rw[hlen] at this;simp only[SV.val,hbeq,Bool.and_false,cond_false,Builtin.firstCells,this]
     ·injection hc' with hc';subst hc';refine⟨⟨hlen,by rw[jI];exact hcl,fun j k col hj hk=> ?_⟩,by rw[nV];exact hf⟩;obtain⟨d,hd1,hd2⟩:=tG hk;have hkl:k<w':=by have:=(List.getElem?_eq_some_iff.1 hd1).1;omega
      have hlt:j*w'+k<n'*w':=by have:(j+1)*w'<=n'*w':=Nat.mul_le_mul_right w' hj;rw[Nat.add_mul] at this;omega
      rw[hd2,List.getElem?_take,if_pos hlt,List.getElem?_drop,Array.getElem?_toList];have:=h2 (i+j) k d (by omega) hd1;rw[Nat.add_mul,Nat.zero_add] at this;rw[← Nat.add_assoc];exact this
   ·cases h
  ·cases h
 ·rename_i l s';split at h
  ·rename_i e;subst e;injection h with h;injection h with h1 h2;injection h2 with h2 h3;subst h2;subst h3;refine⟨s'.map fun b=>Value.int .u8 b.toNat,by simp[SV.val,Builtin.lenOf,ByteArray.size],fun k=> ?_,by simp,fun cols' hc'=> ?_,fun h=>by cases h⟩
   ·simp only[SV.val,Builtin.firstCells,Sem.run_pure];congr 1;have:(ByteArray.mk s'.toArray).extract 0 s'.length=ByteArray.mk s'.toArray:=by rw[show s'.length=(ByteArray.mk s'.toArray).size by simp[ByteArray.size]];exact ByteArray.extract_zero_size
    rw[this];simp
   ·injection hc' with hc';subst hc';refine⟨⟨by simp,rfl,fun i k col hi hk=> ?_⟩,rfl⟩;cases k with
    | succ k=>simp at hk
    | zero =>simp at hk;subst hk;simp[aK.at,SV.val,hi]
  ·cases h
 ·cases h
def aK.cat (n:Nat):aK->aK->Option aK
 | .int k f,.int k' g=>if k=k' then some (.int k (fun j=>if j<n then f j else g (j - n)))else none
 | .str f,.str g=>some (.str (fun j=>if j<n then f j else g (j - n)))
 | .bool f,.bool g=>some (.bool (fun j=>if j<n then f j else g (j - n)))
 | .ref k f,.ref _ g=>some (.ref k (fun j=>if j<n then f j else g (j - n)))
 | _,_=>none
theorem aK.anf {n:Nat}{c d e:aK}(h:aK.cat n c d=some e):e.flat=true/\∀(E:Nat->Nat) (j:Nat),(e.at j).val E=if j<n then(c.at j).val E else(d.at (j - n)).val E:=by
 unfold aK.cat at h;split at h
 ·split at h
  ·rename_i hk;subst hk;injection h with h;subst h;exact⟨rfl,(by grind [aK.at])⟩
  ·cases h
 ·injection h with h;subst h;exact⟨rfl,(by grind [aK.at])⟩
 ·injection h with h;subst h;exact⟨rfl,(by grind [aK.at])⟩
 ·injection h with h;subst h;exact⟨rfl,(by grind [aK.at,SV.val])⟩
 ·cases h
def y5 (n:Nat):List aK->List aK->Option (List aK)
 | [],[]=>some []
 | c::cs,d::ds=>(match aK.cat n c d,y5 n cs ds with
   | some e,some es=>some (e::es)
   | _,_=>none)
 | _,_=>none
theorem xh {n:Nat}: ∀ {c d e:List aK},y5 n c d=some e->e.length=c.length/\e.length=d.length/\ni e=true /\
  ∀(k:Nat) (col:aK),e[k]?=some col->∃ a b,c[k]?=some a/\d[k]?=some b/\∀(E:Nat->Nat) (j:Nat),(col.at j).val E=if j<n then(a.at j).val E else(b.at (j - n)).val E
 | [],[],e,h=>by simp[y5] at h;subst h;exact⟨rfl,rfl,rfl,fun k col hk=>by simp at hk⟩
 | c::cs,d::ds,e,h=>by
   simp only[y5] at h;split at h
   ·rename_i x es hx hes;injection h with h;subst h;obtain⟨h1,h2,h3,h4⟩:=xh hes;obtain⟨g1,g2⟩:=aK.anf hx;refine⟨by simp[h1],by simp[h2],by simp[ni,g1,h3],fun k col hk=> ?_⟩;cases k with
    | zero=>simp at hk;subst hk;exact⟨c,d,rfl,rfl,g2⟩
    | succ k=>exact h4 k col (by simpa using hk)
   ·cases h
 | [],_::_,_,h=>by cases h
 | _::_,[],_,h=>by cases h
theorem ou.cat {E:Nat->Nat}{s n1 n2:Nat}{c1 c2 c:List aK}{l1 l2:List Value}(h1:ou E s c1 n1 l1)(h2:ou E s c2 n2 l2)(h:y5 n1 c1 c2=some c) :
  ou E s c (n1+n2) (l1++l2):=by
 obtain⟨g1,g2,g3,g4⟩:=xh h;refine⟨by rw[List.length_append,h1.len,h2.len,Nat.add_mul],by rw[g1,h1.wide],fun i k col hi hk=> ?_⟩;obtain⟨a,b,ha,hb,hat⟩:=g4 k col hk;have hks:k<s:=by have:=(List.getElem?_eq_some_iff.1 hk).1;rw[g1,h1.wide] at this;exact this
 rw[hat,List.getElem?_append,h1.len];by_cases hlt:i<n1
 ·have:(i+1)*s<=n1*s:=Nat.mul_le_mul_right s hlt;rw[Nat.add_mul] at this;rw[if_pos hlt,if_pos (by omega)];exact h1.get i k a hlt ha
 ·have:n1*s<=i*s:=Nat.mul_le_mul_right s (by omega);rw[if_neg hlt,if_neg (by omega)];have:=h2.get (i - n1) k b (by omega) hb
  grind [Nat.sub_mul]
def IS (n:Nat):Option (List aK)->Option (List aK)->Option (List aK)
 | some c,some d=>y5 n c d
 | some c,none=>some c
 | none,some d=>some d
 | none,none=>none
theorem Ly {E:Nat->Nat}{s n1 n2:Nat}{o1 o2:Option (List aK)}{c:List aK}{l1 l2:List Value}(h:IS n1 o1 o2=some c)
  (h1: ∀ av,o1=some av->ou E s av n1 l1/\ni av=true) (h1':o1=none->n1=0) (e1:l1.length=n1*s)
  (h2: ∀ av,o2=some av->ou E s av n2 l2/\ni av=true) (h2':o2=none->n2=0) (e2:l2.length=n2*s):ou E s c (n1+n2) (l1++l2)/\ni c=true:=by
 unfold IS at h;split at h
 ·exact⟨(by grind [ou.cat]),(xh h).2.2.1⟩
 ·simp_all
 ·simp_all
 ·cases h
def GH (elem:TypeId)(s:Nat)(z:Bool)(n:Nat)(av:List aK)(m:Mem)(nx:Nat)(K:KL):VC :=.all Nat fun c=>.imp (n<=c) (K (some (.bI nx s z 0 n c)) ((nx,.rows z n av false (c*s) elem)::m) (nx+1))
def HR (elem:TypeId)(s:Nat)(x:SV)(n0 n:Nat)(av:List aK)(m:Mem)(nx:Nat)(K:KL):VC :=
 match x with
 | .aO=>GH elem s true n av m nx K
 | .slc key 0 _ _ c=>(match m.get key with
   | some (.cells cs tot ty)=>if cs.length=n0*s/\ty=elem then .and (ng tot (c*s)) (GH elem s false n av (m.drop key) nx K)else .fail "append: another block"
   | _=>.fail "append: no such block")
 | .bI key _ z 0 _ c=>(match m.get key with
   | some (.rows zb _ _ false tot ty)=>if zb=z/\ty=elem then .and (ng tot (c*s)) (GH elem s z n av (m.drop key) nx K)else .fail "append: another row"
   | _=>.fail "append: no row")
 | _=>.fail "append: to what"
def mJ (P:Program)(elem:TypeId)(s:Nat)(x y:SV)(m:Mem)(nx:Nat)(K:KL):VC :=
 match bytes P elem,i6 P elem,s7 m s x,s7 m s y with
 | some by_,some z,some (p0,n0,o0),some (p1,n1,o1)=>(match IS n0 o0 o1 with
   | some av=>if(z.plain&&decide (z.cells.length=s)&&decide (s≠0))=true then
      .and (.atom (p0/\p1/\2*(n0+n1)*by_<=281474976710656/\n0+n1<9223372036854775808)) (HR elem s x n0 (n0+n1) av m nx K)else .fail "append: sizes"
   | none=>.fail "append: no columns")
 | _,_,_,_=>.fail "append: rows"
section
variable {P : Program} {Γ : aQ}
theorem getSet (c:Array Value)(off:Nat)(vs:List Value)(h:off+vs.length<=c.size)(q:Nat) :
  (gx c off vs)[q]?=if off<=q/\q<off+vs.length then vs[q - off]? else c[q]?:=by
 rw[← Array.getElem?_toList,jH];have key: ∀(vs l:List Value) (off:Nat),off+vs.length<=l.length->(bz l off vs)[q]?=if off<=q/\q<off+vs.length then vs[q - off]? else l[q]?:=by
  intro vs;induction vs with
  | nil=>grind [Sx.bz]
  | cons v r ih =>grind [Sx.bz]
 grind
theorem aie {Γ E m nx w}(hs:aG Γ E m nx w)(hw:Mem.wf nx m=true){K:KL}{elem:TypeId}{s:Nat}{z:Bool}{n:Nat}{av:List aK}{m':Mem}(hsub: ∀ k B,m'.get k=some B->m.get k=some B)(hk:(GH elem s z n av m' nx K).holds)
  {l:List Value} (hl:ou E s av n l) (hf:ni av=true) {c:Nat} (hc:n<=c) (hpos:0<n) {a rest:Array Value} (ha:a=l.toArray) (hr:rest.size=(c - n)*s) :
  aV K Γ E nx (.slice (some ⟨w.heap.size,0,none⟩) n c) {w with drawn:=w.drawn+1,heap:=w.heap.push (.cells (a++rest) elem)}:=by
 subst ha
 have hb:Nat.beq n 0=false:=by cases n with
  | zero=>omega
  | succ n=>rfl
 have hs':=hs.drew (w.drawn+1);refine⟨fun k=>if k=nx then w.heap.size else E k,some (.bI nx s z 0 n c),_,_,fun k hk=>by simp[Nat.ne_of_lt hk],Nat.le_succ _,fun v hv=>by injection hv with hv;subst hv;simp[SV.val,hb],?_,hk c hc⟩
 refine hs'.push hw hsub (fun k X a hk hn=>Nat.ne_of_lt (hs.glt (hsub k X hk) hn)) (fun i hi hlt=> ?_) ⟨hs.ext.os,hs.ext.tape,hs.ext.output,?_,fun k hk hm=> ?_⟩ (fun _ _=>.inr hs.ext.size) (fun D hD=>Nat.ne_of_lt (Array.getElem?_eq_some_iff.1 (hs.kp D hD)).1) (fun _=>⟨_,by simp;rfl,?_⟩) rfl
 ·show(w.heap.push _)[i]?=_;rw[Array.getElem?_push,if_neg hi]
 ·have:=hs.ext.size;simp;omega
 ·show(w.heap.push _)[k]?=_;have:=hs.ext.size;rw[Array.getElem?_push,if_neg (by omega)];exact hs.ext.block k hk hm
 ·refine⟨l.toArray++rest,(0,0),rfl,fun _ i=>.inr (by simp),?_,?_,fun i k col hi hk=> ?_⟩
  ·simp[hl.len,hl.wide]
  ·simp only[Array.size_append,List.size_toArray,hl.len,hr,← Nat.add_mul];congr 1;omega
  ·rw[hl.wide,aK.R7 (y9 hf hk) _ E];have:=hl.get i k col hi hk;rw[Array.getElem?_append_left (by simpa using (List.getElem?_eq_some_iff.1 this).1)];simpa using this
theorem aif {Γ E m nx w}(hs:aG Γ E m nx w)(hw:Mem.wf nx m=true){K:KL}{elem:TypeId}{s:Nat}{z:Bool}{n0 n1:Nat}{av:List aK}{key:Nat}{B:SB}(hk:m.get key=some B)(hn:B.no=false)(hro:B.ro=false)
  (h:(GH elem s z (n0+n1) av (m.drop key) nx K).holds) {old new:List Value} (hl:ou E s av (n0+n1) (old++new)) (hol:old.length=n0*s) (hnl:new.length=n1*s) (hf:ni av=true)
  {c0:Array Value} {fr:Nat×Nat} (ho:w.heap[E key]?=some (.cells c0 elem fr)) (hfr: ∀ i,c0.size<=i∨¬ (fr.1<=i/\i<fr.2)) {c:Nat} (hc:n0+n1<=c) (hsz:c0.size=c*s)
  (hold: ∀ q,q<n0*s->c0[q]?=old[q]?) (hz:(z&&Nat.beq (n0+n1) 0)=false) :
  ∃ w',(storeCells ⟨E key,n0*s,none⟩ new).run P w=.ok () w'/\aV K Γ E nx (.slice (some ⟨E key,0,none⟩) (n0+n1) c) w':=by
 have hcs:n0*s+n1*s<=c0.size:=by rw[hsz,← Nat.add_mul];exact Nat.mul_le_mul_right s hc
 have hrun:=dN (P:=P) (o:=n0*s) new 0 w c0 ho hfr (by omega) (fun v hv=>hl.one hf v (List.mem_append_right _ hv))
 refine⟨_,hrun,fun j=>if j=nx then E key else E j,some (.bI nx s z 0 (n0+n1) c),_,_,(by grind),Nat.le_succ _,
  (by grind [SV.val]),hs.move hw hk hn hro ?_,h c hc⟩
 refine⟨_,fr,rfl,fun _=>by rw[bG];exact hfr,?_,?_,fun i k col hi hk=> ?_⟩
 ·rw[bG,hl.wide,Nat.add_mul];exact hcs
 ·grind [bG]
 ·rw[hl.wide,aK.R7 (y9 hf hk) _ E];have hg:=hl.get i k col hi hk;rw[getSet _ _ _ (by omega),← hg,List.getElem?_append,hol,Nat.add_zero]
  grind
theorem I2 {m:Mem}{nx:Nat}{ats:Array TypeId}{ty t0 t1 elem:TypeId}{d:TypeDesc}{s:Nat}(h0:ats[0]?=some t0)(h1:ats[1]?=some t1)(hd:P.underlying t0=some (.slice elem))(hd1:P.underlying t1=some d)(hni:EO d=true)
  (hsz:sz P elem=some s) {x y:SV} {K:KL} {Γ:aQ} {E:Nat->Nat} {w:World}
  (h:(mJ P elem s x y m nx K).holds) (hs:aG Γ E m nx w) (hw:Mem.wf nx m=true) :
  ∃ r w',(Builtin.append_ ats ty #[x.val E,y.val E]).run P w=.ok r w'/\aV K Γ E nx r w':=by
 unfold mJ at h;split at h
 ·rename_i by_ z p0 n0 o0 p1 n1 o1 hby hz hx hy;split at h
  ·rename_i av hcols;split at h
   ·rename_i hc;simp only[Bool.and_eq_true,decide_eq_true_eq] at hc;obtain⟨⟨g1,g2⟩,g3⟩:=hc;obtain⟨⟨hp0,hp1,hb1,hb2⟩,h⟩:=h;obtain⟨old,xlen,xrun,xl,xc,xn⟩:=GO (P:=P) hs hx hp0;obtain⟨new,ylen,yrun,yl,yc,yn⟩:=GO (P:=P) hs hy hp1;obtain⟨hrows,hflat⟩:=Ly hcols xc xn xl yc yn yl;have hzr: ∀ w:World,(zeroValue elem).run P w=.ok (z.val E) w:=fun w=>eN hz;have hzs:(z.val E).cells.size=s:=by grind [SV.gX]
    have hnew:(Builtin.firstCells s n1 (y.val E)).run P w=.ok new.toArray w:=yrun w.drawn
    have grow: ∀(base:Option Addr) (c:Nat) (z:Bool) (m':Mem),x.val E=.slice base n0 c->(∀ k B,m'.get k=some B->m.get k=some B)->c<n0+n1->(GH elem s z (n0+n1) av m' nx K).holds ->
      ∃ r w',(Builtin.append_ ats ty #[x.val E,y.val E]).run P w=.ok r w'/\aV K Γ E nx r w':=by
     intro base c z m' hxv hsub hlt hk;rw[hxv] at xrun ⊢;obtain⟨c',rest,q1,q2,q3⟩:=sA (w:=w) (ty:=ty) (base:=base) (n0:=n0) (c:=c) h0 h1 hd hd1 hni hsz hby hzr hzs ylen xrun yrun hlt (by omega) (by omega)
     grind [aie]
    unfold HR at h;split at h
    ·
     by_cases hn:n1=0
     ·subst hn;simp only[s7] at hx;injection hx with hx;injection hx with e1 e2;injection e2 with e2 e3;subst e2;have hnn:(SB.rows true (0+0) av false (0*s) elem).no=true:=rfl
      refine⟨_,_,append_nil h0 h1 hd hd1 hni hsz ylen hnew,fun k=>if k=nx then w.heap.size else E k,some (.bI nx s true 0 (0+0) 0),_,_,(by grind),Nat.le_succ _,fun v hv=>by injection hv with hv;subst hv;rfl,
       hs.push hw (fun _ _ h=>h) (fun k X a hk ha=>Nat.ne_of_lt (hs.glt hk ha)) (fun i _ _=>rfl) hs.ext (by grind) (fun D hD=>Nat.ne_of_lt (Array.getElem?_eq_some_iff.1 (hs.kp D hD)).1) (by grind) rfl,h 0 (Nat.le_refl _)⟩
     ·simp only[s7] at hx;injection hx with hx;injection hx with e1 e2;injection e2 with e2 e3;subst e2;exact grow none 0 true m rfl (fun _ _ h=>h) (by omega) h
    ·
     rename_i key n' cl c;have hn':n'=n0:=by
      simp only[s7] at hx
      grind
     subst hn';split at h
     ·rename_i cs tot ty' hk;split at h
      ·rename_i hcs;obtain⟨hcl,rfl⟩:=hcs;obtain⟨htot,h⟩:=h;have htot:tot=c*s:=htot;by_cases hle:n'+n1<=c
       ·obtain⟨ob,ho,c0,fr,rfl,f1,f2,f3⟩:=hs.qD key _ hk rfl;have hf0:=xrun w.drawn;have hold: ∀ q,q<n'*s->c0[q]?=old[q]?:=by
         have hr:=run_loadCells (P:=P) (w:={w with drawn:=w.drawn}) (b:=E key) (c:=c0) ho 0 ((cs.map (SV.val E))) (by grind);rw[List.length_map,hcl] at hr;simp only[SV.val,Builtin.firstCells] at hf0;rw[hr] at hf0
         grind
        obtain⟨w',hrun,haft⟩:=aif (P:=P) hs hw hk rfl rfl h hrows xl yl hflat ho f1 hle (by rw[f3,htot]) hold rfl;exact⟨_,w',yZ (o:=0) h0 h1 hd hd1 hni hsz ylen hnew hle (by grind),haft⟩
       ·exact grow _ c false (m.drop key) rfl (by grind [Mem.hG]) (by omega) h
      ·exact h.elim
     ·exact h.elim
    ·
     rename_i key w' z' n' c;split at h
     ·rename_i zb nb cols' tot ty' hk;split at h
      ·rename_i hcs;obtain⟨rfl,rfl⟩:=hcs;obtain⟨htot,h⟩:=h;have htot:tot=c*s:=htot;simp only[s7,hk] at hx;split at hx
       ·rename_i hw';obtain⟨rfl,hwl,hwf⟩:=hw';injection hx with hx;injection hx with e1 e2;injection e2 with e2 e3;subst e1;subst e2;subst e3;cases hzn:zb&&Nat.beq n' 0 with
        | true =>
          simp only[Bool.and_eq_true,aqW] at hzn;obtain⟨rfl,rfl⟩:=hzn;by_cases hn1:n1=0
          ·subst hn1;have hnn:(SB.rows true (0+0) av false (0*w') ty').no=true:=rfl
           refine⟨_,_,append_nil h0 h1 hd hd1 hni hsz ylen hnew,fun k=>if k=nx then w.heap.size else E k,some (.bI nx w' true 0 (0+0) 0),_,_,(by grind),Nat.le_succ _,fun v hv=>by injection hv with hv;subst hv;rfl,
            hs.push hw (by grind [Mem.hG]) (fun k X a hk ha=>Nat.ne_of_lt (hs.glt (Mem.hG hk).2 ha)) (fun i _ _=>rfl) hs.ext (by grind) (fun D hD=>Nat.ne_of_lt (Array.getElem?_eq_some_iff.1 (hs.kp D hD)).1) (by grind) rfl,h 0 (Nat.le_refl _)⟩
          ·exact grow none 0 true (m.drop key) rfl (by grind [Mem.hG]) (by omega) h
        | false =>
          have hxv:(SV.bI key w' zb 0 n' c).val E=.slice (some ⟨E key,0,none⟩) n' c:=by simp[SV.val,hzn]
          have hno:(SB.rows zb nb cols' false tot ty').no=false:=by
           cases zb with
           | false=>rfl
           | true =>
             simp only[Bool.true_and] at hzn;have:n'≠0:=fun e=>by simp_all
             exact SB.mc (i:=0) (by omega)
          by_cases hle:n'+n1<=c
          ·obtain⟨ob,ho,c0,fr,rfl,f1,f2,f3,f4⟩:=hs.qD key _ hk hno;have hf0:=xrun w.drawn;rw[hxv] at hf0;rw[hwl] at f2;have hnb:n'*w'<=c0.size:=Nat.le_trans (Nat.mul_le_mul_right w' (by omega)) f2;have hold: ∀ q,q<n'*w'->c0[q]?=old[q]?:=by
            have hr:=run_loadCells (P:=P) (w:={w with drawn:=w.drawn}) (b:=E key) (c:=c0) ho 0 (c0.toList.take (n'*w')) (by grind);rw[List.length_take,Array.length_toList,Nat.min_eq_left hnb] at hr;simp only[Builtin.firstCells] at hf0;rw[hr] at hf0
            grind
           have hz2:(zb&&Nat.beq (n'+n1) 0)=false:=by
            cases zb with
            | false=>rfl
            | true =>
              simp only[Bool.true_and] at hzn ⊢;cases n' with
              | zero=>cases hzn
              | succ n=>rw[show n+1+n1=(n+n1)+1 by omega];rfl
           obtain⟨w2,hrun,haft⟩:=aif (P:=P) hs hw hk hno rfl h hrows xl yl hflat ho (f1 rfl) hle (by rw[f3,htot]) hold hz2;rw[hxv];exact⟨_,w2,yZ (o:=0) h0 h1 hd hd1 hni hsz ylen hnew hle (by grind),haft⟩
          grind [Mem.hG]
       ·cases hx
      ·exact h.elim
     ·exact h.elim
    ·exact h.elim
   ·exact h.elim
  ·exact h.elim
 ·exact h.elim
def amy:SV->Bool
 | .bI .. =>true
 | _=>false
def Ct (P:Program)(ats:Array TypeId)(x y:SV)(m:Mem)(nx:Nat)(K:KL):VC :=
 match amy x||amy y with
 | false=>Hx P ats x y m nx K
 | true=>(match ats[0]?,ats[1]? with
   | some t0,some t1=>(match P.underlying t0,P.underlying t1 with
     | some (.slice elem),some d=>(match sz P elem with
       | some s=>if EO d=true then mJ P elem s x y m nx K else .fail "append: make"
       | none=>.fail "append")
     | _,_=>.fail "append")
   | _,_=>.fail "append")
theorem SA {m:Mem}{nx:Nat}{ats:Array TypeId}{ty:TypeId}{x y:SV}{K:KL}{Γ:aQ}{E:Nat->Nat}{w:World}
  (h:(Ct P ats x y m nx K).holds) (hs:aG Γ E m nx w) (hw:Mem.wf nx m=true) :
  ∃ r w',(Builtin.append_ ats ty #[x.val E,y.val E]).run P w=.ok r w'/\aV K Γ E nx r w':=by
 unfold Ct at h;split at h
 ·exact Wt h hs hw
 ·split at h
  ·rename_i t0 t1 h0 h1;split at h
   ·rename_i elem d hd hd1;split at h
    ·rename_i s hsz;split at h
     ·rename_i hni;exact I2 h0 h1 hd hd1 hni hsz h hs hw
     ·exact h.elim
    ·exact h.elim
   ·exact h.elim
  ·exact h.elim
theorem BJ {elem:TypeId}{s:Nat}{z:Bool}{n:Nat}{av:List aK}{m:Mem}{nx:Nat}{K K':KL}(hK: ∀ u m nx,(K u m nx).holds->(K' u m nx).holds) :
  (GH elem s z n av m nx K).holds->(GH elem s z n av m nx K').holds:=fun h c hc=>hK _ _ _ (h c hc)
theorem Eo {elem:TypeId}{s:Nat}{x y:SV}{m:Mem}{nx:Nat}{K K':KL}(hK: ∀ u m nx,(K u m nx).holds->(K' u m nx).holds) :
  (mJ P elem s x y m nx K).holds->(mJ P elem s x y m nx K').holds:=by
 unfold mJ;split
 ·split
  ·split
   ·refine fun x=>⟨x.1,?_⟩
    have x2:=x.2;unfold HR at x2 ⊢;split at x2
    ·exact BJ hK x2
    ·split at x2
     ·split at x2
      ·rename_i hh;rw[if_pos hh];exact⟨x2.1,BJ hK x2.2⟩
      ·exact x2.elim
     ·exact x2.elim
    ·split at x2
     ·split at x2
      ·rename_i hh;rw[if_pos hh];exact⟨x2.1,BJ hK x2.2⟩
      ·exact x2.elim
     ·exact x2.elim
    ·exact x2.elim
   ·exact id
  ·exact id
 ·exact id
end
end
end Go.Proofs.YtpaaiebohjjieaaGreatDoor.Sx
namespace Go.Proofs.YtpaaiebohjjieaaGreatDoor.Sx
open Go
mutual
def SV.leaf (f:SV->SV):SV->SV
 | .agg l=>.agg (SV.sK f l)
 | .bL l=>.bL (SV.sK f l)
 | .iface t v=>.iface t (v.leaf f)
 | .func fn a b=>.func fn (SV.sK f a) (SV.sK f b)
 | .int k l n=>f (.int k l n)
 | .bool l b=>f (.bool l b)
 | .str l s=>f (.str l s)
 | .ptr k l o=>f (.ptr k l o)
 | .o5 k w i j=>f (.o5 k w i j)
 | .tM k b n i=>f (.tM k b n i)
 | .cc=>f .cc
 | .slc k o n l c=>f (.slc k o n l c)
 | .bI k w z i n c=>f (.bI k w z i n c)
 | .cC k w z o i n c=>f (.cC k w z o i n c)
 | .lA k w o i j=>f (.lA k w o i j)
 | .aO=>f .aO
 | .aZ=>f .aZ
 | .gL=>f .gL
 | .yield k=>f (.yield k)
 | .map k=>f (.map k)
 | .iy=>f .iy
 | .raw v=>f (.raw v)
 | .iq k a o=>f (.iq k a o)
 | .fq k w z a i n c=>f (.fq k w z a i n c)
 | .su k w a i j=>f (.su k w a i j)
def SV.sK (f:SV->SV):List SV->List SV
 | []=>[]
 | x::r=>x.leaf f::SV.sK f r
end
def Says (f:SV->SV)(E:Nat->Nat):Prop:=∀ v,(f v).val E=v.val E/\∀ nx,v.wf nx=true->(f v).wf nx=true
mutual
theorem SV.Cw {f:SV->SV}{E:Nat->Nat}(h:Says f E):(v:SV)->(v.leaf f).val E=v.val E
 | .agg l=>by simp only[SV.leaf,SV.val,SV.ua h l]
 | .bL l=>by simp only[SV.leaf,SV.val,SV.ua h l]
 | .iface t v=>by simp only[SV.leaf,SV.val,SV.Cw h v]
 | .func fn a b=>by simp only[SV.leaf,SV.val,SV.ua h a,SV.ua h b]
 | .int .. | .bool .. | .str .. | .ptr .. | .o5 .. | .tM .. | .cc | .slc .. | .bI .. | .cC .. | .lA .. | .aO | .aZ | .gL | .yield .. | .map .. | .iy | .raw .. | .iq .. | .fq .. | .su .. =>(h _).1
theorem SV.ua {f:SV->SV}{E:Nat->Nat}(h:Says f E):(l:List SV)->SV.vals E (SV.sK f l)=SV.vals E l
 | []=>rfl
 | x::r=>by simp only[SV.sK,SV.vals,SV.Cw h x,SV.ua h r]
end
mutual
theorem SV.P8 {f:SV->SV}{E:Nat->Nat}(h:Says f E){nx:Nat}:(v:SV)->v.wf nx=true->(v.leaf f).wf nx=true
 | .agg l,hw=>SV.xM h l hw
 | .bL l,hw=>SV.xM h l hw
 | .iface t v,hw=>SV.P8 h v hw
 | .func fn a b,hw=>by simp only[SV.wf,Bool.and_eq_true] at hw;simp only[SV.leaf,SV.wf,Bool.and_eq_true];exact⟨SV.xM h a hw.1,SV.xM h b hw.2⟩
 | .int ..,hw | .bool ..,hw | .str ..,hw | .ptr ..,hw | .o5 ..,hw | .tM ..,hw | .cc,hw | .slc ..,hw | .bI ..,hw | .cC ..,hw | .lA ..,hw | .aO,hw | .aZ,hw | .gL,hw | .yield ..,hw | .map ..,hw | .iy,hw | .raw ..,hw | .iq ..,hw | .fq ..,hw | .su ..,hw=>(h _).2 nx hw
theorem SV.xM {f:SV->SV}{E:Nat->Nat}(h:Says f E){nx:Nat}:(l:List SV)->SV.gM nx l=true->SV.gM nx (SV.sK f l)=true
 | [],_=>rfl
 | x::r,hw=>by simp only[SV.gM,Bool.and_eq_true] at hw;simp only[SV.sK,SV.gM,Bool.and_eq_true];exact⟨SV.P8 h x hw.1,SV.xM h r hw.2⟩
end
theorem SV.MM {f:SV->SV}: ∀ {l:List SV} {i:Nat} {u:SV},(SV.sK f l)[i]?=some u->∃ v,l[i]?=some v/\u=v.leaf f
 | [],i,u,h=>by simp[SV.sK] at h
 | x::r,0,u,h=>by simp[SV.sK] at h;exact⟨x,rfl,h.symm⟩
 | x::r,i+1,u,h=>by simp only[SV.sK,List.getElem?_cons_succ] at h;obtain⟨v,h1,h2⟩:=SV.MM h;exact⟨v,by simpa using h1,h2⟩
def aK.jM (g:Nat->Nat):aK->aK
 | .ref k f=>.ref (g k) f
 | .fq k w z f n c=>.fq (g k) w z f n c
 | c=>c
def dm.jM (g:Nat->Nat):dm->dm
 | .ref k f=>.ref (g k) f
 | c=>c
theorem aK.rB (g E:Nat->Nat)(c:aK)(i:Nat):((c.jM g).at i).val E=(c.at i).val E:=by cases c<;>rfl
theorem dm.abn (g:Nat->Nat)(c:dm)(a:Nat):(c.jM g).at a=(c.at a).jM g:=by cases c<;>rfl
def fD.jM (g:Nat->Nat):fD->fD
 | .ref k f=>.ref (g k) f
 | c=>c
theorem fD.rB (g:Nat->Nat)(c:fD)(s:List UInt8):(c.jM g).val s=c.val s:=by cases c<;>rfl
def SB.told (f:SV->SV)(g:Nat->Nat):SB->SB
 | .cells cs tot ty=>.cells (SV.sK f cs) tot ty
 | .rows z n av ro tot ty=>.rows z n (av.map (aK.jM g)) ro tot ty
 | .view z o n av=>.view z o n (av.map (aK.jM g))
 | .vq D cs tot ty ro=>.vq D (cs.map (aK.jM g)) tot ty ro
 | .lH D n av ro=>.lH D n (av.map (dm.jM g)) ro
 | .fmap d c p=>.fmap d (c.jM g) p
 | B=>B
theorem Bg {g:Nat->Nat}{l:List aK}{k:Nat}{c:aK}(h:(l.map (aK.jM g))[k]?=some c): ∃ c0,l[k]?=some c0/\c=c0.jM g:=by grind
theorem FN {E g:Nat->Nat}{z:Bool}{o n:Nat}{av:List aK}{ob:Obj}(h:bw E (.view z o n av) ob):bw E (.view z o n (av.map (aK.jM g))) ob:=by
 obtain⟨c,ty,fr,h1,h2⟩:=h;refine⟨c,ty,fr,h1,fun i k col hi hk=> ?_⟩
 grind [Bg,List.length_map,aK.rB]
theorem SB.alD {f:SV->SV}{E:Nat->Nat}(hf:Says f E)(g:Nat->Nat)(B:SB)(b a:Nat)(ha:(B.told f g).jD b a):B.jD b a/\(∀ o,bw E (B.el a) o->bw E ((B.told f g).el a) o)/\((B.told f g).ro=false->B.ro=false):=by
 cases B with
 | cells cs tot ty =>
   refine⟨ha,fun o ⟨c,fr,h1,h2,h3,h4⟩=>⟨c,fr,h1,h2,fun i u hu=> ?_,h4⟩,id⟩
   grind [SV.MM,SV.Cw]
 | rows z n av ro tot ty =>
   refine⟨ha,fun o ⟨c,fr,h1,h2,h3,h4,h5⟩=>⟨c,fr,h1,h2,by grind,h4,fun i k col hi hk=> ?_⟩,id⟩
   grind [Bg,List.length_map,aK.rB]
 | view z o n av=>exact⟨ha,fun _ h=>FN h,id⟩
 | vq D cs tot ty ro =>
   refine⟨ha,fun o ⟨c,fr,h1,h2,h3,h4⟩=>⟨c,fr,h1,h2,fun i u hu=> ?_,h4⟩,id⟩
   grind [Bg,aK.rB]
 | lH D n av ro =>
   refine⟨ha,fun o h=> ?_,id⟩;have:=FN (g:=g) h;have e:(av.map (dm.jM g)).map (dm.at a)=(av.map (dm.at a)).map (aK.jM g):=by grind [List.map_map,List.map_congr_left,dm.abn]
   show bw E (.view false 0 (n a) ((av.map (dm.jM g)).map (dm.at a))) o
   grind
 | loop=>exact⟨ha,fun _ h=>h,id⟩
 | map=>exact⟨ha,fun _ h=>h,id⟩
 | fmap d c p=>exact⟨ha,fun _ ⟨es,cl,h1,h2⟩=>⟨es,cl,h1,h2.st,h2.ks,fun s hs=>by rw[fD.rB];exact h2.has s hs,h2.no,h2.pd⟩,id⟩
 | Qn=>exact⟨ha,fun _ h=>h,id⟩
def Mem.told (f:SV->SV)(g:Nat->Nat):Mem->Mem
 | []=>[]
 | e::r=>(e.1,e.2.told f g)::Mem.told f g r
theorem Mem.Ve {f:SV->SV}{g:Nat->Nat}: ∀ {m:Mem} {k:Nat} {B:SB},(Mem.told f g m).get k=some B->∃ B0,m.get k=some B0/\B=B0.told f g
 | [],_,_,h=>by cases h
 | e::r,k,B,h=>by
   by_cases he:e.1=k
   ·simp only[Mem.told,Mem.get,he,if_true] at h ⊢
    grind
   ·simp only[Mem.told,Mem.get,he,if_false] at h ⊢;exact Mem.Ve h
theorem aG.amW {Γ E m nx w}(h:aG Γ E m nx w){f:SV->SV}(hf:Says f E)(g:Nat->Nat):aG Γ E (Mem.told f g m) nx w:=h.conv fun k Y hk=>by obtain⟨B0,h1,rfl⟩:=Mem.Ve hk;exact⟨B0,h1,(by grind [SB.alD])⟩
def Tb (k a:Nat):SV->SV
 | .ptr j l o=>bif Nat.beq j k then .iq k a o else .ptr j l o
 | .bI j w z i n c=>bif Nat.beq j k then .fq k w z a i n c else .bI j w z i n c
 | v=>v
theorem WW {E:Nat->Nat}{k a:Nat}(h:E k=a):Says (Tb k a) E:=fun v=>by
 cases v<;>try exact⟨rfl,fun _ h=>h⟩
 case ptr j l o =>
  simp only[Tb];cases hb:Nat.beq j k with
  | true=>obtain rfl:=Nat.eq_of_beq_eq_true hb;exact⟨by simp[SV.val,h],fun _ _=>rfl⟩
  | false=>grind
 case bI j w z i n c =>
  simp only[Tb];cases hb:Nat.beq j k with
  | true=>obtain rfl:=Nat.eq_of_beq_eq_true hb;exact⟨by simp[SV.val,h],fun _ _=>rfl⟩
  | false=>grind
def O3 (h:Nat):SV->Option aK
 | .int k _ n=>some (.int k fun _=>n)
 | .bool _ b=>some (.bool fun _=>b)
 | .str _ s=>some (.str fun _=>s)
 | .iq k a 0=>some (.ref k fun _=>a)
 | .fq k w z a 0 n c=>some (.fq k w z (fun _=>a) (fun _=>n) fun _=>c)
 | .aO=>some (.fq h 1 true (fun _=>0) (fun _=>0) fun _=>0)
 | .raw v=>some (.raw fun _=>v)
 | .cc=>some (.raw fun _=>.pointer none)
 | _=>none
theorem Ry {h:Nat}{v:SV}{c:aK}(hc:O3 h v=some c)(E:Nat->Nat)(a:Nat):(c.at a).val E=v.val E:=by unfold O3 at hc;split at hc<;>first | (injection hc with hc;subst hc;rfl) | cases hc
def xj (h:Nat):List SV->Option (List aK)
 | []=>some []
 | v::r=>match O3 h v,xj h r with
   | some c,some l=>some (c::l)
   | _,_=>none
theorem Ca {h:Nat}(E:Nat->Nat)(a:Nat): ∀ {l:List SV} {cs:List aK},xj h l=some cs->(cs.map (aK.at a)).map (SV.val E)=l.map (SV.val E)
 | [],cs,hc=>by simp[xj] at hc;subst hc;rfl
 | v::r,cs,hc=>by
   simp only[xj] at hc;split at hc
   ·rename_i c l h1 h2;injection hc with hc;subst hc;simp only[List.map_cons,Ry h1 E a,Ca E a h2]
   ·cases hc
def aK.aeR:aK->Option dm
 | .int k f=>some (.int k fun _=>f)
 | .bool f=>some (.bool fun _=>f)
 | .str f=>some (.str fun _=>f)
 | .ref k f=>some (.ref k fun _=>f)
 | _=>none
theorem aK.aeS {c:aK}{d:dm}(h:c.aeR=some d)(a:Nat):d.at a=c:=by cases c<;>simp only[aK.aeR] at h<;>first | (injection h with h;subst h;rfl) | cases h
def Iw:List aK->Option (List dm)
 | []=>some []
 | c::r=>match c.aeR,Iw r with
   | some d,some l=>some (d::l)
   | _,_=>none
theorem Mt (a:Nat): ∀ {l:List aK} {d:List dm},Iw l=some d->d.map (dm.at a)=l
 | [],d,h=>by simp[Iw] at h;subst h;rfl
 | c::r,d,h=>by
   simp only[Iw] at h;split at h
   ·rename_i x l h1 h2;injection h with h;subst h;simp only[List.map_cons,aK.aeS h1 a,Mt a h2]
   ·cases h
def YK (h a:Nat):SB->Option SB
 | .cells cs tot ty=>(match xj h cs with
   | some av=>some (.vq (fun b=>Nat.beq b a) av tot ty false)
   | none=>none)
 | .rows z n av false _ _=>(match Iw av with
   | some d=>some (.lH (fun b=>Nat.beq b a&& !(z&&Nat.beq n 0)) (fun _=>n) d false)
   | none=>none)
 | _=>none
theorem aeK {h a:Nat}{B F:SB}(hF:YK h a B=some F)(E:Nat->Nat)(x:Nat)(hx:F.jD a x):B.jD a x/\(∀ o,bw E (B.el x) o->bw E (F.el x) o)/\(F.ro=false->B.ro=false):=by
 unfold YK at hF;split at hF
 ·rename_i cs tot ty;split at hF
  ·rename_i av hc;injection hF with hF;subst hF;have hx:Nat.beq x a=true:=hx;obtain rfl:=Nat.eq_of_beq_eq_true hx;refine⟨⟨rfl,rfl⟩,fun o ⟨c,fr,h1,h2,h3,h4⟩=>⟨c,fr,h1,h2,fun i v hv=> ?_,h4⟩,fun _=>rfl⟩;have e:=Ca E x hc;have:((av.map (aK.at x)).map (SV.val E))[i]?=some (v.val E):=by grind
   grind
  ·cases hF
 ·rename_i z n av tot ty;split at hF
  ·rename_i d hd;injection hF with hF;subst hF;have hx:(Nat.beq x a&& !(z&&Nat.beq n 0))=true:=hx;simp only[Bool.and_eq_true,Bool.not_eq_true'] at hx;obtain rfl:=Nat.eq_of_beq_eq_true hx.1;refine⟨⟨hx.2,rfl⟩,fun o ⟨c,fr,h1,h2,h3,h4,h5⟩=> ?_,fun _=>rfl⟩;show bw E (.view false 0 n (d.map (dm.at x))) o;rw[Mt x hd]
   grind [Sx.bw]
  ·cases hF
 ·cases hF
def Jm (D:Nat->Bool):aK->aK->Option aK
 | .int k f,.int k' g=>if k=k' then some (.int k fun b=>bif D b then f b else g b)else none
 | .bool f,.bool g=>some (.bool fun b=>bif D b then f b else g b)
 | .str f,.str g=>some (.str fun b=>bif D b then f b else g b)
 | .raw f,.raw g=>some (.raw fun b=>bif D b then f b else g b)
 | .ref k f,.ref _ g=>some (.ref k fun b=>bif D b then f b else g b)
 | .fq k w z f n c,.fq _ w' z' f' n' c'=>if w=w'/\z=z' then some (.fq k w z (fun b=>bif D b then f b else f' b) (fun b=>bif D b then n b else n' b) fun b=>bif D b then c b else c' b)else none
 | _,_=>none
theorem Qm {D:Nat->Bool}{c d e:aK}(h:Jm D c d=some e)(E:Nat->Nat)(b:Nat):(e.at b).val E=bif D b then(c.at b).val E else(d.at b).val E:=by
 unfold Jm at h
 split at h<;>first
  | (injection h with h;subst h;cases hb:D b<;>simp[aK.at,SV.val,hb];done)
  | (split at h
     ·rename_i e
      first | subst e | obtain⟨rfl,rfl⟩:=e
      injection h with h;subst h;cases hb:D b<;>simp[aK.at,SV.val,hb]
     ·cases h)
  | cases h
def uk (D:Nat->Bool):List aK->List aK->Option (List aK)
 | [],[]=>some []
 | c::r,d::s=>match Jm D c d,uk D r s with
   | some e,some l=>some (e::l)
   | _,_=>none
 | _,_=>none
theorem Ak {D:Nat->Bool}(E:Nat->Nat)(b:Nat): ∀ {c d e:List aK},uk D c d=some e->(e.map (aK.at b)).map (SV.val E)=bif D b then(c.map (aK.at b)).map (SV.val E)else(d.map (aK.at b)).map (SV.val E)
 | [],[],e,h=>by grind [uk]
 | c::r,d::s,e,h=>by
   simp only[uk] at h;split at h
   ·rename_i x l h1 h2;injection h with h;subst h;have:=Ak E b h2;simp only[List.map_cons,Qm h1 E b,this]
    grind
   ·cases h
 | [],_::_,_,h=>by cases h
 | _::_,[],_,h=>by cases h
def EH (D:Nat->Bool):dm->dm->Option dm
 | .int k f,.int k' g=>if k=k' then some (.int k fun b i=>bif D b then f b i else g b i)else none
 | .bool f,.bool g=>some (.bool fun b i=>bif D b then f b i else g b i)
 | .str f,.str g=>some (.str fun b i=>bif D b then f b i else g b i)
 | .ref k f,.ref _ g=>some (.ref k fun b i=>bif D b then f b i else g b i)
 | _,_=>none
theorem LC {D:Nat->Bool}{c d e:dm}(h:EH D c d=some e)(E:Nat->Nat)(b i:Nat):(((e.at b).at i)).val E=bif D b then((c.at b).at i).val E else((d.at b).at i).val E:=by
 unfold EH at h
 grind [dm.at,aK.at,SV.val]
def rD (D:Nat->Bool):List dm->List dm->Option (List dm)
 | [],[]=>some []
 | c::r,d::s=>match EH D c d,rD D r s with
   | some e,some l=>some (e::l)
   | _,_=>none
 | _,_=>none
theorem xQ {D:Nat->Bool}(E:Nat->Nat)(b:Nat): ∀ {c d e:List dm},rD D c d=some e->e.length=(bif D b then c else d).length /\
  ∀(k:Nat) (x:aK),(e.map (dm.at b))[k]?=some x->∃ y:aK,((bif D b then c else d).map (dm.at b))[k]?=some y/\∀ i,(x.at i).val E=(y.at i).val E
 | [],[],e,h=>by simp[rD] at h;grind
 | c::r,d::s,e,h=>by
   simp only[rD] at h;split at h
   ·rename_i x l h1 h2;injection h with h;subst h;obtain⟨g1,g2⟩:=xQ E b h2;have g3:=LC h1 E b
    grind
   ·cases h
 | [],_::_,_,h=>by cases h
 | _::_,[],_,h=>by cases h
def CD:SB->SB->Option SB
 | .vq D cs tot ty ro,.vq D' cs' tot' ty' ro'=>if tot=tot'/\ty=ty'/\ro=ro' then(match uk D cs cs' with
   | some l=>some (.vq (fun b=>D b||D' b) l tot ty ro)
   | none=>none)else none
 | .lH D n av ro,.lH D' n' cols' ro'=>if ro=ro' then(match rD D av cols' with
   | some l=>some (.lH (fun b=>D b||D' b) (fun b=>bif D b then n b else n' b) l ro)
   | none=>none)else none
 | _,_=>none
theorem WS {B1 B2 F:SB}(h:CD B1 B2=some F)(E:Nat->Nat){b b1 b2 x:Nat}(hx:F.jD b x):(B1.jD b1 x/\(∀ o,bw E (B1.el x) o->bw E (F.el x) o)/\F.ro=B1.ro)∨(B2.jD b2 x/\(∀ o,bw E (B2.el x) o->bw E (F.el x) o)/\F.ro=B2.ro):=by
 unfold CD at h;split at h
 ·rename_i D cs tot ty ro D' cs' tot' ty' ro';split at h
  ·rename_i e;obtain⟨rfl,rfl,rfl⟩:=e;split at h
   ·rename_i l hl;injection h with h;subst h;have hv:=Ak E x hl;have key: ∀ {c2:List aK},(l.map (aK.at x)).map (SV.val E)=(c2.map (aK.at x)).map (SV.val E)->∀ o,bw E (.cells (c2.map (aK.at x)) tot ty) o->bw E (.cells (l.map (aK.at x)) tot ty) o:=by
     intro c2 e o ⟨c,fr,h1,h2,h3,h4⟩;refine⟨c,fr,h1,h2,fun i v hv=> ?_,h4⟩;have:((l.map (aK.at x)).map (SV.val E))[i]?=some (v.val E):=by grind
     grind
    have hx:(D x||D' x)=true:=hx;cases hd:D x with
    | true=>rw[hd] at hv;exact .inl ⟨hd,key hv,rfl⟩
    | false=>rw[hd] at hv hx;exact .inr ⟨hx,key hv,rfl⟩
   ·cases h
  ·cases h
 ·rename_i D n av ro D' n' cols' ro';split at h
  ·rename_i e;subst e;split at h
   ·rename_i l hl;injection h with h;subst h;obtain⟨g1,g2⟩:=xQ E x hl;have hx:(D x||D' x)=true:=hx;have key: ∀ {c2:List dm} {n2:Nat},l.length=c2.length->(∀(k:Nat) (y:aK),(l.map (dm.at x))[k]?=some y->∃ z:aK,(c2.map (dm.at x))[k]?=some z/\∀ i,(y.at i).val E=(z.at i).val E)->∀ o,bw E (.view false 0 n2 (c2.map (dm.at x))) o->bw E (.view false 0 n2 (l.map (dm.at x))) o:=by grind [Sx.bw]
    cases hd:D x with
    | true =>
      rw[hd] at g1 g2;refine .inl ⟨hd,fun o ho=> ?_,rfl⟩;show bw E (.view false 0 (bif D x then n x else n' x) (l.map (dm.at x))) o
      rw[hd];exact key g1 g2 o ho
    | false =>
      rw[hd] at g1 g2 hx;refine .inr ⟨hx,fun o ho=> ?_,rfl⟩;show bw E (.view false 0 (bif D x then n x else n' x) (l.map (dm.at x))) o
      rw[hd];exact key g1 g2 o ho
   ·cases h
  ·cases h
 ·cases h
theorem aG.merged {Γ E m nx w}(h:aG Γ E m nx w){k1 k2:Nat}(hne:k1≠k2){B1 B2 F:SB}(h1:m.get k1=some B1)(h2:m.get k2=some B2)(hF:CD B1 B2=some F):aG Γ E ((m.drop k2).put k1 F) nx w:=by
 have hg: ∀ {j Y a},((m.drop k2).put k1 F).get j=some Y->Y.jD (E j) a->∃ i X,m.get i=some X/\X.jD (E i) a/\(∀ o,bw E (X.el a) o->bw E (Y.el a) o)/\Y.ro=X.ro/\(i=j∨(i=k2/\j=k1))/\(i=k2->j=k1):=fun {j Y a} hj ha=>by
  rcases Mem.kT hj with ⟨rfl,rfl,_⟩ | ⟨_,hj⟩
  ·rcases WS hF E (b1:=E j) (b2:=E k2) ha with ⟨g1,g2,g3⟩ | ⟨g1,g2,g3⟩
   ·grind
   grind
  grind [Mem.hG]
 refine⟨fun j Y a hj ha=> ?_,fun j j' Y Y' a hj ha hj' ha' hr=> ?_,fun j Y hj=> ?_,fun j Y a hj ha hr=> ?_,h.ext,h.cx,h.kp⟩
 ·obtain⟨i,X,g1,g2,g3,_⟩:=hg hj ha;obtain⟨o,ho,hb⟩:=h.jK i X a g1 g2
  grind
 ·obtain⟨i,X,g1,g2,_,g4,g5,g6⟩:=hg hj ha;obtain⟨i',X',q1,q2,_,q4,q5,q6⟩:=hg hj' ha';have:=h.j9 i i' X X' a g1 g2 q1 q2 (by grind);omega
 ·rcases Mem.kT hj with ⟨rfl,_,_⟩ | ⟨_,hj⟩
  ·exact h.lt _ _ h1
  ·exact h.lt _ _ (Mem.hG hj).2
 ·obtain⟨i,X,g1,g2,_,g4,_⟩:=hg hj ha;exact h.lE i X a g1 g2 (by grind)
def Sg (k2 k1:Nat):SV->SV
 | .iq j a o=>.iq (bif Nat.beq j k2 then k1 else j) a o
 | .fq j w z a i n c=>.fq (bif Nat.beq j k2 then k1 else j) w z a i n c
 | .su j w a i k=>.su (bif Nat.beq j k2 then k1 else j) w a i k
 | v=>v
theorem Wj (E:Nat->Nat)(k2 k1:Nat):Says (Sg k2 k1) E:=fun v=>by cases v<;>exact⟨rfl,fun _ h=>h⟩
inductive Gh where
 | name (k h:Nat)
 | merge (k1 k2:Nat)
def yQ (f:SV->SV):List (Option SV)->List (Option SV)
 | []=>[]
 | some v::r=>some (v.leaf f)::yQ f r
 | none::r=>none::yQ f r
def SB.dom:SB->Nat->Bool
 | .vq D _ _ _ _=>D
 | .lH D _ _ _=>D
 | _=>fun _=>false
theorem SB.YB {B:SB}{a b:Nat}(h:B.dom a=true):B.jD b a:=by cases B<;>first | exact h | cases h
def ghs:List Gh->List (Option SV)->Mem->(List (Option SV)->Mem->VC)->VC
 | [],tmps,m,K=>K tmps m
 | .name k h::r,tmps,m,K=>(match m.get k with
   | some B=>.all Nat fun a=>(match YK h a B with
     | some F=>ghs r (yQ (Tb k a) tmps) (Mem.told (Tb k a) id (m.put k F)) K
     | none=>.fail "name: what block")
   | none=>.fail "name: no block")
 | .merge k1 k2::r,tmps,m,K=>if k1=k2 then .fail "merge: one" else(match m.get k1,m.get k2 with
   | some B1,some B2=>(match CD B1 B2 with
     | some F=>(match B1.ro with
       | false=>.imp (∀ b,B1.dom b=true->B2.dom b=false) (ghs r (yQ (Sg k2 k1) tmps) (Mem.told (Sg k2 k1) (fun j=>bif Nat.beq j k2 then k1 else j) ((m.drop k2).put k1 F)) K)
       | true=>.fail "merge: read only")
     | none=>.fail "merge: other families")
   | _,_=>.fail "merge: no family")
structure Aa (E:Nat->Nat)(t t':List (Option SV)):Prop where
 len:t'.length=t.length
 get: ∀(i:Nat) (v':SV),t'[i]?=some (some v')->∃ v:SV,t[i]?=some (some v)/\v'.val E=v.val E/\∀ nx,v.wf nx=true->v'.wf nx=true
theorem Aa.refl (E:Nat->Nat)(t:List (Option SV)):Aa E t t:=⟨rfl,(by grind)⟩
theorem Aa.trans {E:Nat->Nat}{a b c:List (Option SV)}(h:Aa E a b)(h':Aa E b c):Aa E a c :=
 ⟨h'.len.trans h.len,fun i v hv=>by
  obtain⟨u,h1,h2,h3⟩:=h'.get i v hv;obtain⟨x,g1,g2,g3⟩:=h.get i u h1
  grind⟩
theorem v8 {f:SV->SV}{E:Nat->Nat}(hf:Says f E): ∀(t:List (Option SV)),Aa E t (yQ f t)
 | []=>Aa.refl E []
 | none::r=>by
   have:=v8 hf r;refine⟨by simp[yQ,this.len],fun i v h=> ?_⟩;cases i with
   | zero=>simp[yQ] at h
   | succ i=>exact this.get i v (by simpa [yQ] using h)
 | some x::r=>by
   have:=v8 hf r;refine⟨by simp[yQ,this.len],fun i v h=> ?_⟩;cases i with
   | zero=>simp[yQ] at h;subst h;exact⟨x,rfl,SV.Cw hf x,fun nx hx=>SV.P8 hf x hx⟩
   | succ i=>exact this.get i v (by simpa [yQ] using h)
theorem IF {K K':List (Option SV)->Mem->VC}(h: ∀ t m,(K t m).holds->(K' t m).holds): ∀ {l:List Gh} {tmps:List (Option SV)} {m:Mem},(ghs l tmps m K).holds->(ghs l tmps m K').holds
 | [],_,_,hh=>h _ _ hh
 | .name k x::r,tmps,m,hh=>by
   simp only[ghs] at hh ⊢;revert hh;cases m.get k with
   | none=>exact id
   | some B =>
     intro hh a;have hh:=hh a;revert hh;dsimp only;cases YK x a B with
     | none=>exact id
     | some F=>exact IF h
 | .merge k1 k2::r,tmps,m,hh=>by
   simp only[ghs] at hh ⊢;revert hh;by_cases e:k1=k2
   ·rw[if_pos e,if_pos e];exact id
   ·rw[if_neg e,if_neg e];cases m.get k1 with
    | none=>exact id
    | some B1=>cases m.get k2 with
      | none=>exact id
      | some B2 =>
        dsimp only;cases CD B1 B2 with
        | none=>exact id
        | some F =>
          dsimp only;cases B1.ro with
          | true=>exact id
          | false=>exact fun hh hd=>IF h (hh hd)
theorem tX {Γ:aQ}{E:Nat->Nat}{nx:Nat}{w:World}: ∀ {l:List Gh} {tmps:List (Option SV)} {m:Mem} {K:List (Option SV)->Mem->VC},(ghs l tmps m K).holds->aG Γ E m nx w ->
  ∃ tmps' m',Aa E tmps tmps'/\aG Γ E m' nx w/\(K tmps' m').holds
 | [],tmps,m,K,h,hs=>⟨tmps,m,Aa.refl E tmps,hs,h⟩
 | .name k hh::r,tmps,m,K,h,hs=>by
   simp only[ghs] at h;split at h
   ·rename_i B hB;have h:=h (E k);dsimp only at h;split at h
    ·rename_i F hF;have hs1:aG Γ E (m.put k F) nx w:=hs.conv fun j Y hj=>by
      rcases Mem.kT hj with ⟨rfl,rfl,_⟩ | ⟨_,hj⟩
      ·exact⟨B,hB,fun a ha=>aeK hF E a ha⟩
      ·exact⟨Y,hj,fun a ha=>⟨ha,fun _ h=>h,id⟩⟩
     have hf:=WW (E:=E) (k:=k) rfl;obtain⟨t',m',g1,g2,g3⟩:=tX h (hs1.amW hf id);exact⟨t',m',(v8 hf tmps).trans g1,g2,g3⟩
    ·exact h.elim
   ·exact h.elim
 | .merge k1 k2::r,tmps,m,K,h,hs=>by
   simp only[ghs] at h;split at h
   ·exact h.elim
   ·rename_i hne;split at h
    ·rename_i B1 B2 h1 h2;split at h
     ·rename_i F hF;cases hro:B1.ro with
      | true=>rw[hro] at h;exact h.elim
      | false =>
        rw[hro] at h;have hd: ∀ b,B1.dom b=true->B2.dom b=false:=fun b hb=>by
         cases hb2:B2.dom b with
         | false=>rfl
         | true=>exact absurd (hs.j9 k1 k2 B1 B2 b h1 (SB.YB hb) h2 (SB.YB hb2) (.inl hro)) hne
        have hf:=Wj E k2 k1;obtain⟨t',m',g1,g2,g3⟩:=tX (h hd) ((hs.merged hne h1 h2 hF).amW hf _);exact⟨t',m',(v8 hf tmps).trans g1,g2,g3⟩
     ·exact h.elim
    ·exact h.elim
end Go.Proofs.YtpaaiebohjjieaaGreatDoor.Sx
