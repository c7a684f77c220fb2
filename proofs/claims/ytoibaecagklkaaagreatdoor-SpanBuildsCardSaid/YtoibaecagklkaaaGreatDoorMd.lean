/- A part of the proof. -/
import Derived.Test.YtoibaecagklkaaaGreatDoorMc
open Array renaming getElem?_append_left->ec,getElem?_eq_some_iff->an,getElem?_push->ef,getElem?_toList->S,length_toList->b_,size_append->ei
open Bool renaming and_eq_true->M,and_false->ej,false->H,false_eq_true->cO,not_false->c4,true->G,true_and->ek
open Go.Builtin renaming append_->N,firstCells->I,growBy->a_,lenOf->V,nextslicecap->b!,zeroCells->en
open Go.Result renaming andThen_ok->c5
open Go.Sem renaming run_bind->c6,run_ite->c7,run_pure->ct
open List renaming getElem?_append->c8,getElem?_cons_succ->cy,getElem?_cons_zero->c_,getElem?_drop->a!,getElem?_eq_getElem->bf,getElem?_eq_none->ep,getElem?_eq_some_iff->W,getElem?_map->Z,getElem?_take->ag,getElem?_toArray->c!,length_append->er,length_drop->eu,length_map->T,length_take->bl,map_cons->cB,take_of_length_le->d_
open Nat renaming add_assoc->ey,add_mul->L,add_zero->ez,beq->J,eq_of_beq_eq_true->cL,eq_zero_or_pos->eA,le_refl->Q,le_succ->bn,le_trans->d!,min_eq_left->eB,mul_le_mul_right->O,ne_of_lt->R,zero_add->bU
open Option renaming none->C,some->A
namespace Go.Proofs.YtoibaecagklkaaaGreatDoor
open Go Sx
variable {ats:Array TypeId}{z:Bool}{K:KL}{ay:List bh}{m:Mem}{a b i n n0 n1 nx o s:Nat}{g:Nat->Nat}{P:Program}{F:SB}{x y:SV}{f:SV->SV}{d:TypeDesc}{elem t0 t1 ty:TypeId}{w:World}{Γ:b5}{c:bh}
namespace Sx
open Go
noncomputable section
theorem ayi {key:Nat}(h:Mem.wf nx m=G):Mem.wf nx (m.drop key)=true:=by
 induction m with
 | nil=>rfl
 | cons e r ih =>
   simp only[Mem.wf,M] at h;by_cases he:e.1=key
   ·rw[Mem.drop,o_ he];exact ih h.2
   ·rw[Mem.drop,p_ he];simp only[Mem.wf,M];exact⟨h.1,ih h.2⟩
def oS (m:Mem)(s:Nat):SV->Option (List SV×Nat)
 | .bW=>A ([],0)
 | .slc key o n _ _=>(match m.get key with
   | some (.cells cs _ _)=>(match nN cs o (n*s)with
     | some l=>A (l,n)
     | none=>C)
   | _=>C)
 | _=>C
theorem sq {Γ E m nx w}(hs:bp Γ E m nx w){l:List SV}(h:oS m s x=A (l,n)) :
  (V (x.val E)).run P w=.ok n w/\(∀ j,j<=n->(I s j (x.val E)).run P w=.ok (SV.vals E (l.take (j*s))).toArray w)/\l.length=n*s:=by
 unfold oS at h;split at h
 ·injection h with h;injection h with h1 h2;subst h1;subst h2;refine⟨rfl,λj hj=> ?_,by simp⟩;obtain rfl:j=0:=by omega
  simp[SV.val,I,SV.vals]
 ·rename_i key o n' cl c;split at h
  ·rename_i cs tot ty hk;split at h
   ·rename_i l' hl;injection h with h;injection h with h1 h2;subst h1;subst h2;have hg:=fY hl;obtain⟨ob,ho,c0,fr,rfl,_,h2,_⟩:=hs.yZ key _ hk rfl;refine⟨rfl,λj hj=> ?_,hg.1⟩;have hle:j*s<=n'*s:=O s hj;have hrun:=run_loadCells (P:=P) (w:=w) ho o ((l'.take (j*s)).map (SV.val E)) (λi v hi=>by
     rw[Z] at hi;cases hil:(l'.take (j*s))[i]? with
     | none=>rw[hil] at hi;cases hi
     | some u =>
       rw[hil] at hi;injection hi with hi;subst hi;have:l'[i]?=A u:=by
        rw[ag] at hil;split at hil
        ·exact hil
        ·cases hil
       exact h2 _ _ (hg.2 i u this))
    have hlen:((l'.take (j*s)).map (SV.val E)).length=j*s:=by rw[T,bl,hg.1];exact eB hle
    rw[hlen] at hrun;simp only[SV.val,I,hrun,SV.cF]
   ·cases h
  ·cases h
 ·cases h
def bytes (P:Program)(t:TypeId):Option Nat:=match P.info? t with | some i=>A i.bytes | none=>C
def grown (elem:TypeId)(need:Nat)(cs:List SV)(s:Nat)(m:Mem)(nx:Nat)(K:KL):VC :=.all Nat λc=>.imp (need<=c) (K (A (.slc nx 0 need H c)) ((nx,.cells cs (c*s) elem)::m) (nx+1))
def Kk (P:Program)(elem:TypeId)(s:Nat)(b:SV)(new:List SV)(n:Nat)(m:Mem)(nx:Nat)(K:KL):VC :=
 match bytes P elem,mO P elem,oS m s b with
 | some by_,A z,A (old,n0) =>
   if(z.plain&&yY new&&SV.lY nx new&&decide (z.cells.length=s)&&decide (2*(n0+n)*by_<=281474976710656)&&decide (n0+n<9223372036854775808))=G then
   (match b with
   | .bW=>(match n with
     | 0=>K (A .bW) m nx
     | n+1=>grown elem (n+1) new s m nx K)
   | .slc key o _ G c=>(match m.get key with
     | some (.cells cs tot ty)=>if n0+n<=c then(if o+n0*s+new.length<=cs.length then
        K (A (.slc key o (n0+n) G c)) (m.put key (.cells (cA cs (o+n0*s) new) tot ty)) nx else .fail "append: cells that are not known")else
        grown elem (n0+n) (old++new) s m nx K
     | _=>.fail "append: no such block")
   | .slc key 0 _ H c=>(match m.get key with
     | some (.cells cs tot ty)=>if cs.length=n0*s/\ty=elem then .and (sU tot (c*s)) (.all Nat λc'=>.imp (n0+n<=c') (K (A (.slc nx 0 (n0+n) H c')) ((nx,.cells (old++new) (c'*s) elem)::m.drop key) (nx+1)))
        else .fail "append: another block"
     | _=>.fail "append: no such block")
   | _=>.fail "append: to what")
   else .fail "append: sizes"
 | _,_,_=>.fail "append"
theorem aeo (need c:Nat)(h:c<need):b! need c<=2*need:=by
 unfold b!;split
 ·omega
 ·split
  ·omega
  ·rename_i h1 h2;have key: ∀(r x:Nat),256<=x->x<need->a_ need r x<=2*need:=by
    intro r;induction r with
    | zero=>intro x h3 h4;simp only[a_];omega
    | succ r ih =>
      intro x h3 h4;simp only[a_];rw[p_ (by omega)];by_cases h5:x+(x+768)/4<need
      ·exact ih _ (by omega) h5
      ·cases r with
       | zero=>simp only[a_];omega
       | succ r=>simp only[a_];rw[o_ (by omega)];omega
   exact key 4 c (by omega) h
theorem alg {q:Question}(hq:q.forced=H):(choose q).run P w=.ok (q.cut (w.tape w.drawn q)) {w with drawn:=w.drawn+1}:=by rw[run_choose,hq];rfl
def KI:TypeDesc->Bool
 | .slice _=>G
 | .string=>G
 | _=>H
section
variable {P : Program} {Γ : b5}
theorem xL {by_:Nat}{base:Option Addr}{c:Nat}{x z:Value}{old new:Array Value}
  (h0:ats[0]?=A t0) (h1:ats[1]?=A t1) (hd:P.underlying t0=A (.slice elem)) (hd1:P.underlying t1=A d) (hni:KI d=G) (hs:sz P elem=A s) (hb:bytes P elem=A by_)
  (hz: ∀ w,(zeroValue elem).run P w=.ok z w) (hzs:z.cells.size=s) (hlen:(V x).run P w=.ok n w)
  (hold: ∀ k,(I s n0 (.slice base n0 c)).run P {w with drawn:=k}=.ok old {w with drawn:=k}) (hnew: ∀ k,(I s n x).run P {w with drawn:=k}=.ok new {w with drawn:=k})
  (hneed:c<n0+n) (hbound:2*(n0+n)*by_<=2^ 48) (hsmall:n0+n<2^ 63) :
  ∃ c' rest,n0+n<=c'/\rest.size=(c'-(n0+n))*s/\(N ats ty #[.slice base n0 c,x]).run P w =
    .ok (.slice (A ⟨w.heap.size,0,C⟩) (n0+n) c') {w with drawn:=w.drawn+1,heap:=w.heap.push (.cells (old++new++rest) elem)}:=by
 have hby: ∃ i,P.info? elem=A i/\i.bytes=by_:=by
  unfold bytes at hb;split at hb
  ·rename_i i hi;injection hb with hb;exact⟨i,hi,hb⟩
  ·cases hb
 obtain⟨i,hi,hib⟩:=hby;have hcap:=aeo (n0+n) c hneed;have hmul:b! (n0+n) c*by_<=2^ 48:=d! (O by_ hcap) hbound;have h2: ¬ (n0+n<=c):=by omega
 have h3: ¬ (((n0+n:Nat):Int)>9223372036854775807):=by omega
 have h4: ¬ (b! (n0+n) c*by_>2^ 48):=Nat.not_lt.2 hmul;refine⟨(Question.appendCap (n0+n) c elem).cut (w.tape w.drawn (.appendCap (n0+n) c elem)),en z.cells ((Question.appendCap (n0+n) c elem).cut (w.tape w.drawn (.appendCap (n0+n) c elem))-(n0+n)),?_,?_,?_⟩
 ·simp only[Question.cut];omega
 ·simp[en,hzs]
 ·cases d
  all_goals first | (cases hni;done) | skip
  all_goals
   simp only[N,h0,h1,c!,c_,cy,c6,aL hd,c5,dV hs,aL hd1,ct,
    cO,if_false,hlen,c7,h2,rY hi,hib,imax,h3,false_and,h4,alg (q:=.appendCap (n0+n) c elem) rfl,run_askRoom,hold,c4,if_true,hnew,hz,newRow,run_newObj]
theorem D6 {w':World}{c:Nat}{x:Value}{new:Array Value}
  (h0:ats[0]?=A t0) (h1:ats[1]?=A t1) (hd:P.underlying t0=A (.slice elem)) (hd1:P.underlying t1=A d) (hni:KI d=G) (hs:sz P elem=A s)
  (hlen:(V x).run P w=.ok n w) (hnew:(I s n x).run P w=.ok new w) (hneed:n0+n<=c)
  (hst:(storeCells ⟨b,o+n0*s,C⟩ new.toList).run P w=.ok () w') :
  (N ats ty #[.slice (A ⟨b,o,C⟩) n0 c,x]).run P w=.ok (.slice (A ⟨b,o,C⟩) (n0+n) c) w':=by
 cases d
 all_goals first | (cases hni;done) | skip
 all_goals
  simp only[N,h0,h1,c!,c_,cy,c6,aL hd,c5,dV hs,aL hd1,ct,
   cO,if_false,hlen,c7,hneed,if_true,hnew,c4,fS,hst]
theorem append_nil {x:Value}{new:Array Value}
  (h0:ats[0]?=A t0) (h1:ats[1]?=A t1) (hd:P.underlying t0=A (.slice elem)) (hd1:P.underlying t1=A d) (hni:KI d=G) (hs:sz P elem=A s)
  (hlen:(V x).run P w=.ok 0 w) (hnew:(I s 0 x).run P w=.ok new w) :
  (N ats ty #[.slice C 0 0,x]).run P w=.ok (.slice C 0 0) w:=by
 cases d
 all_goals first | (cases hni;done) | skip
 all_goals
  simp only[N,h0,h1,c!,c_,cy,c6,aL hd,c5,dV hs,aL hd1,ct,
   cO,if_false,hlen,c7,ez,Q,if_true,hnew,c4]
theorem Jk {key c:Nat}{cl:Bool}{l:List SV}(h:oS m s (.slc key o n cl c)=A (l,n0)):n0=n:=by
 simp only[oS] at h;split at h
 ·split at h
  ·injection h with h;injection h with _ h;exact h.symm
  ·cases h
 ·cases h
theorem cn.grown {E:Nat->Nat}(hs:bp Γ E m nx w)(hw:Mem.wf nx m=G){need:Nat}{cs:List SV}
  (hcs:SV.lY nx cs=G) (hl:cs.length=need*s) (h:(Sx.grown elem need cs s m nx K).holds) {c':Nat} (hc':need<=c') {rest:Array Value} (hr:rest.size=(c'-need)*s) {a:Array Value} (ha:a.toList=cs.map (SV.val E)) :
  cn K Γ E nx (.slice (A ⟨w.heap.size,0,C⟩) need c') {w with drawn:=w.drawn+1,heap:=w.heap.push (.cells (a++rest) elem)}:=by
 have h':=h c' hc';have hs':=hs.drew (w.drawn+1);refine cn.alloc (sv:=.slc nx 0 need H c') hs' hw hcs (λi v hv=> ?_) ?_ h' (by simp[SV.val])
 ·have:=HQ (E:=E) ha i v hv;rw[ec (an.1 this).1];exact this
 ·rw[ei,CR (E:=E) ha,hl,hr,← L];congr 1;omega
theorem abD (hw:Mem.wf nx m=G){l:List SV}(h:oS m s x=A (l,n)):SV.lY nx l=true:=by
 unfold oS at h;split at h
 ·injection h with h;injection h with h1 h2;subst h1;rfl
 ·split at h
  ·rename_i cs tot ty hk;split at h
   ·rename_i l' hl;injection h with h;injection h with h1 h2;subst h1;have hwk:=Mem.Xt hw hk;simp only[SB.wf] at hwk;have hg:=fY hl;have: ∀(l':List SV),(∀(j:Nat) (v:SV),l'[j]?=A v->v.wf nx=G)->SV.lY nx l'=true:=by
     intro l';induction l' with
     | nil=>intro _;rfl
     | cons x r ih=>intro hh;simp only[SV.lY,M];exact⟨hh 0 x rfl,ih λj v hj=>hh (j+1) v (by simpa using hj)⟩
    exact this l' λj v hj=>SV.EZ hwk (hg.2 j v hj)
   ·cases h
  ·cases h
 ·cases h
def Nu (P:Program)(ats:Array TypeId)(x y:SV)(m:Mem)(nx:Nat)(K:KL):VC :=
 match ats[0]?,ats[1]? with
 | some t0,A t1=>(match P.underlying t0,P.underlying t1 with
   | some (.slice elem),A d=>(match sz P elem with
     | some s=>(match oS m s y with
       | some (new,n)=>if KI d=G then Kk P elem s x new n m nx K else .fail "append: make"
       | none=>.fail "append: of what")
     | none=>.fail "append")
   | _,_=>.fail "append")
 | _,_=>.fail "append"
theorem adJ {E:Nat->Nat}
  (h:(Nu P ats x y m nx K).holds) (hs:bp Γ E m nx w) (hw:Mem.wf nx m=G) :
  ∃ r w',(N ats ty #[x.val E,y.val E]).run P w=.ok r w'/\cn K Γ E nx r w':=by
 unfold Nu at h;split at h
 ·rename_i t0 t1 h0 h1;split at h
  ·rename_i elem d hd hd1;split at h
   ·rename_i s hsz;split at h
    ·rename_i new n hy;split at h
     ·rename_i hni;obtain⟨ylen,ycells,ynum⟩:=sq (P:=P) hs hy;have hynew:=ycells n (Q _);rw[d_ (by omega)] at hynew;unfold Kk at h;split at h
      ·rename_i by_ z old n0 hby hz hx;split at h
       ·rename_i hc;simp only[M,m_] at hc;obtain⟨⟨⟨⟨⟨g1,g2⟩,g3⟩,g4⟩,g5⟩,g6⟩:=hc;have hzr: ∀ w:World,(zeroValue elem).run P w=.ok (z.val E) w:=λw=>i6 hz;have hzs:(z.val E).cells.size=s:=by rw[SV.lA g1];simp[g4]
        have hdraw: ∀ k,bp Γ E m nx {w with drawn:=k}:=λk=>hs.drew k;have ydraw: ∀ k,(I s n (y.val E)).run P {w with drawn:=k}=.ok (SV.vals E new).toArray {w with drawn:=k}:=λk=>by have:=(sq (P:=P) (hdraw k) hy).2.1 n (Q _);rw[d_ (by omega)] at this;exact this
        have oldwf:=abD hw hx;obtain⟨xlen,xcells,xnum⟩:=sq (P:=P) hs hx;have xdraw: ∀ k,(I s n0 (x.val E)).run P {w with drawn:=k}=.ok (SV.vals E old).toArray {w with drawn:=k}:=λk=>by have:=(sq (P:=P) (hdraw k) hx).2.1 n0 (Q _);rw[d_ (by omega)] at this;exact this
        split at h
        ·
         simp only[oS] at hx;injection hx with hx;injection hx with e1 e2;subst e1;subst e2;split at h
         ·exact⟨_,_,append_nil h0 h1 hd hd1 hni hsz ylen hynew,E,A .bW,m,nx,λ_ _=>rfl,Q _,λv hv=>by injection hv with hv;subst hv;rfl,hs,h⟩
         ·rename_i n';obtain⟨c',rest,q1,q2,q3⟩:=xL (w:=w) (ty:=ty) (base:=C) (n0:=0) (c:=0) h0 h1 hd hd1 hni hsz hby hzr hzs ylen xdraw ydraw (by omega) (by omega) (by omega);refine⟨_,_,q3,?_⟩;rw[bU] at q1 q2 ⊢;exact cn.grown hs hw g3 ynum h q1 q2 (by simp[SV.cF,SV.vals])
        ·
         rename_i key o _ c;have e0:=Jk hx;subst e0;split at h
         ·rename_i cs tot ty' hk;split at h
          ·rename_i hle;split at h
           ·rename_i hin
            obtain⟨w',hrun,haft⟩:=cn.write (P:=P) (sv:=A (.slc key o (n0+n) G c)) (r:=.slice (A ⟨E key,o,C⟩) (n0+n) c) hs hk (q7 g2) hin
             (λv hv=>by injection hv with hv;subst hv;rfl) h
            exact⟨_,w',D6 h0 h1 hd hd1 hni hsz ylen hynew hle hrun,haft⟩
           ·exact h.elim
          ·rename_i hle;obtain⟨c',rest,q1,q2,q3⟩:=xL (w:=w) (ty:=ty) (base:=A ⟨E key,o,C⟩) (n0:=n0) (c:=c) h0 h1 hd hd1 hni hsz hby hzr hzs ylen xdraw ydraw (by omega) (by omega) (by omega);exact⟨_,_,q3,cn.grown hs hw (kS oldwf g3) (by simp[xnum,ynum,L]) h q1 q2 (by simp[SV.cF])⟩
         ·exact h.elim
        ·
         rename_i key _ c;have e0:=Jk hx;subst e0;split at h
         ·rename_i cs tot ty' hk;split at h
          ·rename_i hcond;obtain⟨hcl,rfl⟩:=hcond;obtain⟨htot,h⟩:=h;have htot:tot=c*s:=htot;by_cases hle:n0+n<=c
           ·
            obtain⟨ob,ho,ca,fr,rfl,hf1,hf2,hf3⟩:=hs.yZ key _ hk rfl;have hcap:n0*s+new.length<=ca.size:=by rw[hf3,htot,ynum,← L];exact O s hle
            have hrun:=ie (P:=P) (o:=0+n0*s) (SV.vals E new) 0 w ca ho hf1 (by simp[SV.cF];omega) (λv hv'=>by rw[SV.cF,List.mem_map] at hv';obtain⟨u,hu,rfl⟩:=hv';exact SV.AL (q7 g2 u hu))
            refine⟨_,_,D6 (o:=0) h0 h1 hd hd1 hni hsz ylen hynew hle hrun,?_⟩;have hold:old=cs:=by
             simp only[oS,hk] at hx;split at hx
             ·rename_i l hl;injection hx with hx;injection hx with e1 _;subst e1;have hg:=fY hl;apply List.ext_getElem?;intro j;by_cases hj:j<l.length
              ·have:=hg.2 j l[j] (bf hj);rw[bU] at this;rw[this,bf hj]
              ·rw[ep (by omega),ep (by rw[hcl,← hg.1];omega)]
             ·cases hx
            have hkn:=hs.lt key _ hk
            refine⟨λj=>if j=nx then E key else E j,A (.slc nx 0 (n0+n) H c),_,_,λk hk'=>by simp[R hk'],bn _,λv hv=>by injection hv with hv;subst hv;simp[SV.val],
             hs.move hw hk rfl rfl (B':=.cells (old++new) (c*s) ty') ?_,h c hle⟩
            refine⟨_,fr,rfl,by rw[cZ];exact hf1,λi v hi=> ?_,by rw[cZ,hf3,htot]⟩;have hcong:v.val (λj=>if j=nx then E key else E j)=v.val E:=SV.val_congr (nx:=nx) (λk hk'=>by simp[R hk']) v (SV.EZ (kS oldwf g3) hi)
            rw[hcong,← S,nB];have hcat: ∀(vs:List Value) (pre post:List Value),vs.length<=post.length->cA (pre++post) pre.length vs=pre++(vs++post.drop vs.length):=by
             intro vs;induction vs with
             | nil=>intro pre post _;simp[cA]
             | cons u r ih =>
               intro pre post hp;cases post with
               | nil=>simp at hp
               | cons q qs =>
                 rw[cA];have:(pre++q::qs).set pre.length u=(pre++[u])++qs:=by simp
                 rw[this];have:=ih (pre++[u]) qs (by simpa using hp);simp only[er,List.length_singleton] at this;rw[this];simp
            have hsplit:ca.toList=ca.toList.take (n0*s)++ca.toList.drop (n0*s):=(List.take_append_drop _ _).symm;have hpl:(ca.toList.take (n0*s)).length=n0*s:=by rw[bl,b_];omega
            rw[hsplit,show 0+n0*s+0=(ca.toList.take (n0*s)).length by rw[hpl];omega,hcat _ _ _ (by simp[SV.cF];omega)];rw[c8] at hi ⊢;rw[hold,hcl] at hi;rw[hpl];split
            ·rename_i hlt;rw[o_ hlt] at hi;rw[ag,o_ hlt,S];exact hf2 i v hi
            ·rename_i hge;rw[p_ hge] at hi;have hil:i-n0*s<new.length:=(W.1 hi).1;rw[List.getElem?_append_left (by simpa [SV.cF] using hil),SV.cF,Z,hi];rfl
           ·obtain⟨c',rest,q1,q2,q3⟩:=xL (w:=w) (ty:=ty) (base:=A ⟨E key,0,C⟩) (n0:=n0) (c:=c) h0 h1 hd hd1 hni hsz hby hzr hzs ylen xdraw ydraw (by omega) (by omega) (by omega);refine⟨_,_,q3,?_⟩;have hsub:bp Γ E (m.drop key) nx w:=hs.sub (λk B hk=>(Mem.lD hk).2) (λk B hk=>hs.lt k B (Mem.lD hk).2) (.inl (Q _));refine cn.grown (m:=m.drop key) hsub (ayi hw) (kS oldwf g3) (by simp[xnum,ynum,L]) ?_ q1 q2 (by simp[SV.cF]);exact h
          ·exact h.elim
         ·exact h.elim
        ·exact h.elim
       ·exact h.elim
      ·exact h.elim
     ·exact h.elim
    ·exact h.elim
   ·exact h.elim
  ·exact h.elim
 ·exact h.elim
end
structure sO (E:Nat->Nat)(s:Nat)(ay:List bh)(n:Nat)(l:List Value):Prop where
 len:l.length=n*s
 wide:ay.length=s
 get: ∀ i k col,i<n->ay[k]?=A col->l[i*s+k]?=A ((col.at i).val E)
def bh.flat:bh->Bool
 | .raw _=>H
 | _=>G
def rm:List bh->Bool
 | []=>G
 | c::r=>c.flat&&rm r
theorem Ec: ∀ {l:List bh},rm l=G->∀ {k:Nat} {c:bh},l[k]?=A c->c.flat=G
 | [],_,k,c,h=>by simp at h
 | x::r,h,k,c,hk=>by
   simp only[rm,M] at h;cases k with
   | zero=>simp at hk;subst hk;exact h.1
   | succ k=>exact Ec h.2 (by simpa using hk)
theorem bh.zh (h:c.flat=G)(E:Nat->Nat)(i:Nat):((c.at i).val E).oneCell'=true:=by cases c<;>first | (cases h;done) | rfl
theorem bh.Yt (h:c.flat=G)(E E':Nat->Nat)(i:Nat):(c.at i).val E=(c.at i).val E':=by cases c<;>first | (cases h;done) | rfl
theorem sO.one {E:Nat->Nat}{l:List Value}(h:sO E s ay n l)(hf:rm ay=G): ∀ v∈ l,v.oneCell'=true:=by
 intro v hv;obtain⟨q,hq⟩:=List.getElem?_of_mem hv;have hql:=(W.1 hq).1;rw[h.len] at hql;have hs:0<s:=by grind
 have h1:q/s<n:=(Nat.div_lt_iff_lt_mul hs).2 hql;have h2:q%s<ay.length:=by rw[h.wide];exact Nat.mod_lt _ hs
 have h3:=h.get (q/s) (q%s) ay[q%s] h1 (bf h2);rw[show q/s*s+q%s=q by grind [Nat.mul_comm,Nat.div_add_mod],hq] at h3;injection h3 with h3;rw[h3];exact bh.zh (Ec hf (bf h2)) E _
def bh.shift (i:Nat):bh->bh
 | .int k f=>.int k (λj=>f (j+i))
 | .bool f=>.bool (λj=>f (j+i))
 | .str f=>.str (λj=>f (j+i))
 | .raw f=>.raw (λj=>f (j+i))
 | .ref k f=>.ref k (λj=>f (j+i))
 | .iP k w z f n c=>.iP k w z (λj=>f (j+i)) (λj=>n (j+i)) (λj=>c (j+i))
theorem bh.asv (i j:Nat)(c:bh):(c.shift i).at j=c.at (i+j):=by rw[Nat.add_comm];cases c<;>rfl
def ku (i:Nat)(ay:List bh):List bh:=ay.map (bh.shift i)
theorem yQ {k:Nat}(h:(ku i ay)[k]?=A c): ∃ d,ay[k]?=A d/\∀ j,c.at j=d.at (i+j):=by
 simp only[ku,Z] at h
 grind [bh.asv]
theorem nC :(ku i ay).length=ay.length:=by simp[ku]
theorem afe :(c.shift i).flat=c.flat:=by cases c<;>rfl
theorem sj :rm (ku i ay)=rm ay:=by
 simp only[ku];induction ay with
 | nil=>rfl
 | cons c r ih=>grind [afe,rm]
def apJ (w k:Nat):Nat->List SV->Option (List SV)
 | 0,_=>A []
 | n+1,l=>match l[k]?,apJ w k n (l.drop w)with
   | some v,A r=>A (v::r)
   | _,_=>C
theorem ZH {w k:Nat}: ∀ {n:Nat} {l r:List SV},apJ w k n l=A r->r.length=n/\∀(i:Nat),i<n->∃ v,r[i]?=A v/\l[i*w+k]?=A v
 | 0,l,r,h=>by simp[apJ] at h;subst h;exact⟨rfl,λi hi=>by omega⟩
 | n+1,l,r,h=>by
   simp only[apJ] at h;split at h
   ·rename_i v r' hv hr;injection h with h;subst h;obtain⟨h1,h2⟩:=ZH hr;refine⟨by simp[h1],λi hi=> ?_⟩;cases i with
    | zero=>exact⟨v,rfl,by simpa using hv⟩
    | succ i =>obtain⟨u,hu1,hu2⟩:=h2 i (by omega);refine⟨u,by simpa using hu1,?_⟩;rw[a!] at hu2;rw[show(i+1)*w+k=w+(i*w+k)by rw[L];omega];exact hu2
   ·cases h
def Nj:List SV->Option (List Bool)
 | []=>A []
 | .bool _ s::r=>(match Nj r with
   | some l=>A (s::l)
   | none=>C)
 | _::_=>C
def aBE (l:List Bool)(i:Nat):Bool:=l.getD i H
theorem Lx: ∀ {cs:List SV} {l:List Bool},Nj cs=A l->∀(i:Nat) (v:SV),cs[i]?=A v->∃ b,v=.bool b (aBE l i)
 | [],l,h,i,v,hv=>by simp at hv
 | .bool b s::r,l,h,i,v,hv=>by
   simp only[Nj] at h;split at h
   ·rename_i l' hl;injection h with h;subst h;cases i with
    | zero=>simp at hv;subst hv;exact⟨b,rfl⟩
    | succ i=>obtain⟨b',hb⟩:=Lx hl i v (by simpa using hv);exact⟨b',by rw[hb];rfl⟩
   ·cases h
def Nf:List SV->Option (List Nat)
 | []=>A []
 | .l7 _ a 0::r=>(match Nf r with
   | some l=>A (a::l)
   | none=>C)
 | _::_=>C
def ass (l:List Nat)(i:Nat):Nat:=l.getD i 0
theorem Lt: ∀ {cs:List SV} {l:List Nat},Nf cs=A l->∀(i:Nat) (v:SV),cs[i]?=A v->∃ k,v=.l7 k (ass l i) 0
 | [],l,h,i,v,hv=>by simp at hv
 | .l7 k a 0::r,l,h,i,v,hv=>by
   simp only[Nf] at h;split at h
   ·rename_i l' hl;injection h with h;subst h;cases i with
    | zero=>simp at hv;subst hv;exact⟨k,rfl⟩
    | succ i=>obtain⟨b',hb⟩:=Lt hl i v (by simpa using hv);exact⟨b',by rw[hb];rfl⟩
   ·cases h
def Se:List SV->Option bh
 | .l7 k a 0::r=>(match Nf (.l7 k a 0::r)with
   | some l=>A (.ref k (ass l))
   | none=>C)
 | .int k b n::r=>(match Gl k (.int k b n::r)with
   | some l=>A (.int k (M8 l))
   | none=>C)
 | .str b s::r=>(match yR (.str b s::r)with
   | some l=>A (.str (l9 l))
   | none=>C)
 | .bool b s::r=>(match Nj (.bool b s::r)with
   | some l=>A (.bool (aBE l))
   | none=>C)
 | _=>C
theorem ajH {l:List SV}(h:Se l=A c):c.flat=G/\∀(E:Nat->Nat) (i:Nat) (v:SV),l[i]?=A v->v.val E=(c.at i).val E:=by
 unfold Se at h;split at h
 ·split at h
  ·rename_i hl;injection h with h;subst h;refine⟨rfl,λE i v hv=> ?_⟩;obtain⟨b,hb⟩:=Lt hl i v hv;rw[hb];rfl
  ·cases h
 ·split at h
  ·rename_i hl;injection h with h;subst h;refine⟨rfl,λE i v hv=> ?_⟩;obtain⟨b,hb⟩:=(AK hl).2 i v hv;rw[hb];rfl
  ·cases h
 ·split at h
  ·rename_i hl;injection h with h;subst h;refine⟨rfl,λE i v hv=> ?_⟩;obtain⟨b,hb⟩:=xA hl i v hv;rw[hb];rfl
  ·cases h
 ·split at h
  ·rename_i hl;injection h with h;subst h;refine⟨rfl,λE i v hv=> ?_⟩;obtain⟨b,hb⟩:=Lx hl i v hv;rw[hb];rfl
  ·cases h
 ·cases h
def N8 (w n:Nat)(cs:List SV):Nat->Option (List bh)
 | 0=>A []
 | r+1=>match apJ w (w-(r+1)) n cs with
   | some l=>(match Se l,N8 w n cs r with
     | some c,A ay=>A (c::ay)
     | _,_=>C)
   | none=>C
theorem N9 {w n:Nat}{cs:List SV}: ∀ {r:Nat} {ay:List bh},r<=w->N8 w n cs r=A ay->ay.length=r/\rm ay=G/\
  ∀(E:Nat->Nat) (i j:Nat) (col:bh),i<n->ay[j]?=A col->∃ v,cs[i*w+(w-r+j)]?=A v/\v.val E=(col.at i).val E
 | 0,ay,_,h=>by simp[N8] at h;subst h;exact⟨rfl,rfl,λE i j col _ hj=>by simp at hj⟩
 | r+1,ay,hw,h=>by
   simp only[N8] at h;split at h
   ·rename_i l hl;split at h
    ·rename_i c cols' hc hr;injection h with h;subst h;obtain⟨h1,h2,h3⟩:=N9 (by omega) hr;obtain⟨g1,g2⟩:=ajH hc;refine⟨by simp[h1],by simp[rm,g1,h2],λE i j col hi hj=> ?_⟩;cases j with
     | zero =>simp at hj;subst hj;obtain⟨v,hv1,hv2⟩:=(ZH hl).2 i hi;exact⟨v,by simpa using hv2,g2 E i v hv1⟩
     | succ j =>obtain⟨v,hv1,hv2⟩:=h3 E i j col hi (by simpa using hj);exact⟨v,by rw[show w-(r+1)+(j+1)=w-r+j by omega];exact hv1,hv2⟩
    ·cases h
   ·cases h
def yg (m:Mem)(s:Nat):SV->Option (Prop×Nat×Option (List bh))
 | .bW=>A (True,0,C)
 | .slc key o n _ _=>(match n with
   | 0=>A (True,0,C)
   | n+1=>(match m.get key with
     | some (.cells cs _ _)=>(match nN cs o ((n+1)*s)with
       | some l=>(match N8 s (n+1) l s with
         | some ay=>A (True,n+1,A ay)
         | none=>C)
       | none=>C)
     | _=>C))
 | .bY key w _ i n _=>(match m.get key with
   | some (.rows _ nb ay _ _ _)=>if w=s/\ay.length=s/\rm ay=G then A (i+n<=nb,n,A (ku i ay))else C
   | _=>C)
 | .iP key w _ a i n _=>(match m.get key with
   | some (.ni D nf ay _)=>if w=s/\(ay.map (fW.at a)).length=s/\rm (ay.map (fW.at a))=G then A (0<n->D a=G/\i+n<=nf a,n,A (ku i (ay.map (fW.at a))))else C
   | _=>C)
 | .str _ l=>if s=1 then A (True,l.length,A [.int .u8 (λj=>((l.getD j 0).toNat:Int))])else C
 | _=>C
theorem aB8 :J n 0=G↔n=0:=by simp_all
theorem MJ {Γ E m nx w}(hs:bp Γ E m nx w){p:Prop}{oc:Option (List bh)}(h:yg m s x=A (p,n,oc))(hp:p) :
  ∃ l:List Value,(V (x.val E)).run P w=.ok n w/\(∀ k,(I s n (x.val E)).run P {w with drawn:=k}=.ok l.toArray {w with drawn:=k})/\l.length=n*s/\
    (∀ ay,oc=A ay->sO E s ay n l/\rm ay=G)/\(oc=C->n=0):=by
 unfold yg at h;split at h
 ·injection h with h;injection h with h1 h2;injection h2 with h2 h3;subst h2;subst h3;exact⟨[],rfl,λk=>by simp[SV.val,I],by simp,(λ_ h=>by cases h),λ_=>rfl⟩
 ·rename_i key o n' cl c;split at h
  ·injection h with h;injection h with h1 h2;injection h2 with h2 h3;subst h2;subst h3;refine⟨[],rfl,λk=> ?_,by simp,(λ_ h=>by cases h),λ_=>rfl⟩;simp[SV.val,I,loadCells,loadCellsFrom]
  ·rename_i n';split at h
   ·rename_i cs tot ty hk;split at h
    ·rename_i l hl;split at h
     ·rename_i ay hc;injection h with h;injection h with h1 h2;injection h2 with h2 h3;subst h2;subst h3;have hg:=fY hl;obtain⟨ob,ho,c0,fr,rfl,_,h2,_⟩:=hs.yZ key _ hk rfl;obtain⟨q1,q2,q3⟩:=N9 (Q s) hc;refine⟨l.map (SV.val E),rfl,λk=> ?_,by rw[T,hg.1],λcols' hc'=> ?_,λh=>by cases h⟩
      ·have:=run_loadCells (P:=P) (w:={w with drawn:=k}) (b:=E key) (c:=c0) ho o (l.map (SV.val E)) (λi v hi=>by
        rw[Z] at hi;cases hil:l[i]? with
        | none=>rw[hil] at hi;cases hi
        | some u=>rw[hil] at hi;injection hi with hi;subst hi;exact h2 _ _ (hg.2 i u hil))
       rw[T,hg.1] at this;simp only[SV.val,I,this]
      ·injection hc' with hc';subst hc';refine⟨⟨by rw[T,hg.1],q1,λi k col hi hk=> ?_⟩,q2⟩;obtain⟨v,hv1,hv2⟩:=q3 E i k col hi hk;rw[Nat.sub_self,bU] at hv1;rw[Z,hv1,← hv2];rfl
     ·cases h
    ·cases h
   ·cases h
 ·rename_i key w' z i n' c;split at h
  ·rename_i zb nb ay ro tot ty hk;split at h
   ·rename_i hc;obtain⟨rfl,hcl,hf⟩:=hc;injection h with h;injection h with h1 h2;injection h2 with h2 h3;subst h1;subst h2;subst h3;rcases eA n' with e | e
    ·subst e;refine⟨[],rfl,λk=> ?_,by simp,λcols' hc'=> ?_,λh=>by cases h⟩
     ·simp only[SV.val];cases z<;>simp[I,loadCells,loadCellsFrom]
     ·injection hc' with hc';subst hc';exact⟨⟨by simp,by rw[nC];exact hcl,λi k col hi _=>by omega⟩,by rw[sj];exact hf⟩
    ·have hno:(SB.rows zb nb ay ro tot ty).no=false:=SB.o5 (i:=0) (by omega);obtain⟨ob,ho,c0,fr,rfl,_,h1,_,h2⟩:=hs.yZ key _ hk hno;rw[hcl] at h1 h2;have hle:i*w'+n'*w'<=c0.size:=by rw[← L];exact d! (O w' hp) h1
     have hbeq:J n' 0=false:=by cases n' with
      | zero=>omega
      | succ n=>rfl
     have hlen:((c0.toList.drop (i*w')).take (n'*w')).length=n'*w':=by rw[bl,eu,b_];omega
     refine⟨(c0.toList.drop (i*w')).take (n'*w'),rfl,λk=> ?_,hlen,λcols' hc'=> ?_,λh=>by cases h⟩
     ·have:=run_loadCells (P:=P) (w:={w with drawn:=k}) (b:=E key) (c:=c0) ho (i*w') ((c0.toList.drop (i*w')).take (n'*w')) (λj v hj=>by
       rw[ag] at hj;split at hj
       ·rw[a!,S] at hj;exact hj
       ·cases hj)
      rw[hlen] at this;simp only[SV.val,hbeq,ej,cond_false,I,this]
     ·injection hc' with hc';subst hc';refine⟨⟨hlen,by rw[nC];exact hcl,λj k col hj hk=> ?_⟩,by rw[sj];exact hf⟩;obtain⟨d,hd1,hd2⟩:=yQ hk;have hkl:k<w':=by have:=(W.1 hd1).1;omega
      have hlt:j*w'+k<n'*w':=by have:(j+1)*w'<=n'*w':=O w' hj;rw[L] at this;omega
      rw[hd2,ag,o_ hlt,a!,S];have:=h2 (i+j) k d (by omega) hd1;rw[L] at this;rw[← ey];exact this
   ·cases h
  ·cases h
 ·rename_i key w' z a i n' c;split at h
  ·rename_i D nf ay ro hk;split at h
   ·rename_i hc;obtain⟨rfl,hcl,hf⟩:=hc;injection h with h;injection h with h1 h2;injection h2 with h2 h3;subst h1;subst h2;subst h3;rcases eA n' with e | e
    ·subst e;refine⟨[],rfl,λk=> ?_,by simp,λcols' hc'=> ?_,λh=>by cases h⟩
     ·simp only[SV.val];cases z<;>simp[I,loadCells,loadCellsFrom]
     ·injection hc' with hc';subst hc';exact⟨⟨by simp,by rw[nC];exact hcl,λi k col hi _=>by omega⟩,by rw[sj];exact hf⟩
    ·obtain⟨hD,hin⟩:=hp e;obtain⟨ob,ho,c0,ty,fr,rfl,h2⟩:=hs.p7 key _ a hk hD;rw[hcl] at h2
     have hbeq:J n' 0=false:=by cases n' with
      | zero=>omega
      | succ n=>rfl
     have hs0:0<w'∨w'=0:=by omega
     have hlen:((c0.toList.drop (i*w')).take (n'*w')).length=n'*w':=by
      rcases hs0 with hs0 | hs0
      ·have hcol: ∃ col,(ay.map (fW.at a))[w'-1]?=A col:=⟨_,bf (by omega)⟩
       obtain⟨col,hcol⟩:=hcol;have:=(an.1 (h2 (i+n'-1) (w'-1) col (by omega) hcol)).1;rw[bU] at this;have e2:(i+n'-1)*w'+w'=i*w'+n'*w':=by rw[← L,← Nat.succ_mul];congr 1;omega
       rw[bl,eu,b_];omega
      ·subst hs0;simp
     refine⟨(c0.toList.drop (i*w')).take (n'*w'),rfl,λk=> ?_,hlen,λcols' hc'=> ?_,λh=>by cases h⟩
     ·have:=run_loadCells (P:=P) (w:={w with drawn:=k}) (b:=a) (c:=c0) ho (i*w') ((c0.toList.drop (i*w')).take (n'*w')) (λj v hj=>by
       rw[ag] at hj;split at hj
       ·rw[a!,S] at hj;exact hj
       ·cases hj)
      rw[hlen] at this;simp only[SV.val,hbeq,ej,cond_false,I,this]
     ·injection hc' with hc';subst hc';refine⟨⟨hlen,by rw[nC];exact hcl,λj k col hj hk=> ?_⟩,by rw[sj];exact hf⟩;obtain⟨d,hd1,hd2⟩:=yQ hk;have hkl:k<w':=by have:=(W.1 hd1).1;omega
      have hlt:j*w'+k<n'*w':=by have:(j+1)*w'<=n'*w':=O w' hj;rw[L] at this;omega
      rw[hd2,ag,o_ hlt,a!,S];have:=h2 (i+j) k d (by omega) hd1;rw[L,bU] at this;rw[← ey];exact this
   ·cases h
  ·cases h
 ·rename_i l s';split at h
  ·rename_i e;subst e;injection h with h;injection h with h1 h2;injection h2 with h2 h3;subst h2;subst h3;refine⟨s'.map λb=>Value.int .u8 b.toNat,by simp[SV.val,V,ByteArray.size],λk=> ?_,by simp,λcols' hc'=> ?_,λh=>by cases h⟩
   ·simp only[SV.val,I,ct];congr 1;have:(ByteArray.mk s'.toArray).extract 0 s'.length=ByteArray.mk s'.toArray:=by rw[show s'.length=(ByteArray.mk s'.toArray).size by simp[ByteArray.size]];exact ByteArray.extract_zero_size
    rw[this];simp
   ·injection hc' with hc';subst hc';refine⟨⟨by simp,rfl,λi k col hi hk=> ?_⟩,rfl⟩;cases k with
    | succ k=>simp at hk
    | zero =>simp at hk;subst hk;simp[bh.at,SV.val,hi]
  ·cases h
 ·cases h
def bh.cat (n:Nat):bh->bh->Option bh
 | .int k f,.int k' g=>if k=k' then A (.int k (λj=>if j<n then f j else g (j-n)))else C
 | .str f,.str g=>A (.str (λj=>if j<n then f j else g (j-n)))
 | .bool f,.bool g=>A (.bool (λj=>if j<n then f j else g (j-n)))
 | .ref k f,.ref _ g=>A (.ref k (λj=>if j<n then f j else g (j-n)))
 | _,_=>C
theorem bh.ayc {d e:bh}(h:bh.cat n c d=A e):e.flat=G/\∀(E:Nat->Nat) (j:Nat),(e.at j).val E=if j<n then(c.at j).val E else(d.at (j-n)).val E:=by
 unfold bh.cat at h;split at h
 ·split at h
  ·rename_i hk;subst hk;injection h with h;subst h;exact⟨rfl,(by grind [bh.at])⟩
  ·cases h
 ·injection h with h;subst h;exact⟨rfl,(by grind [bh.at])⟩
 ·injection h with h;subst h;exact⟨rfl,(by grind [bh.at])⟩
 ·injection h with h;subst h;exact⟨rfl,(by grind [bh.at,SV.val])⟩
 ·cases h
def D8 (n:Nat):List bh->List bh->Option (List bh)
 | [],[]=>A []
 | c::cs,d::ds=>(match bh.cat n c d,D8 n cs ds with
   | some e,A es=>A (e::es)
   | _,_=>C)
 | _,_=>C
theorem Cs {n:Nat}: ∀ {c d e:List bh},D8 n c d=A e->e.length=c.length/\e.length=d.length/\rm e=G/\
  ∀(k:Nat) (col:bh),e[k]?=A col->∃ a b,c[k]?=A a/\d[k]?=A b/\∀(E:Nat->Nat) (j:Nat),(col.at j).val E=if j<n then(a.at j).val E else(b.at (j-n)).val E
 | [],[],e,h=>by simp[D8] at h;subst h;exact⟨rfl,rfl,rfl,λk col hk=>by simp at hk⟩
 | c::cs,d::ds,e,h=>by
   simp only[D8] at h;split at h
   ·rename_i x es hx hes;injection h with h;subst h;obtain⟨h1,h2,h3,h4⟩:=Cs hes;obtain⟨g1,g2⟩:=bh.ayc hx;refine⟨by simp[h1],by simp[h2],by simp[rm,g1,h3],λk col hk=> ?_⟩;cases k with
    | zero=>simp at hk;subst hk;exact⟨c,d,rfl,rfl,g2⟩
    | succ k=>exact h4 k col (by simpa using hk)
   ·cases h
 | [],_::_,_,h=>by cases h
 | _::_,[],_,h=>by cases h
theorem sO.cat {E:Nat->Nat}{n2:Nat}{c1 c2 c:List bh}{l1 l2:List Value}(h1:sO E s c1 n1 l1)(h2:sO E s c2 n2 l2)(h:D8 n1 c1 c2=A c) :
  sO E s c (n1+n2) (l1++l2):=by
 obtain⟨g1,g2,g3,g4⟩:=Cs h;refine⟨by rw[er,h1.len,h2.len,L],by rw[g1,h1.wide],λi k col hi hk=> ?_⟩;obtain⟨a,b,ha,hb,hat⟩:=g4 k col hk;have hks:k<s:=by have:=(W.1 hk).1;rw[g1,h1.wide] at this;exact this
 rw[hat,c8,h1.len];by_cases hlt:i<n1
 ·have:(i+1)*s<=n1*s:=O s hlt;rw[L] at this;rw[o_ hlt,o_ (by omega)];exact h1.get i k a hlt ha
 ·have:n1*s<=i*s:=O s (by omega);rw[p_ hlt,p_ (by omega)];have:=h2.get (i-n1) k b (by omega) hb
  grind [Nat.sub_mul]
def OH (n:Nat):Option (List bh)->Option (List bh)->Option (List bh)
 | some c,A d=>D8 n c d
 | some c,C=>A c
 | none,A d=>A d
 | none,C=>C
theorem Rx {E:Nat->Nat}{n2:Nat}{o1 o2:Option (List bh)}{c:List bh}{l1 l2:List Value}(h:OH n1 o1 o2=A c)
  (h1: ∀ ay,o1=A ay->sO E s ay n1 l1/\rm ay=G) (h1':o1=C->n1=0) (e1:l1.length=n1*s)
  (h2: ∀ ay,o2=A ay->sO E s ay n2 l2/\rm ay=G) (h2':o2=C->n2=0) (e2:l2.length=n2*s):sO E s c (n1+n2) (l1++l2)/\rm c=true:=by
 unfold OH at h;split at h
 ·exact⟨(by grind [sO.cat]),(Cs h).2.2.1⟩
 ·simp_all
 ·simp_all
 ·cases h
def MD (elem:TypeId)(s:Nat)(z:Bool)(n:Nat)(ay:List bh)(m:Mem)(nx:Nat)(K:KL):VC :=.all Nat λc=>.imp (n<=c) (K (A (.bY nx s z 0 n c)) ((nx,.rows z n ay H (c*s) elem)::m) (nx+1))
def NQ (elem:TypeId)(s:Nat)(x:SV)(n0 n:Nat)(ay:List bh)(m:Mem)(nx:Nat)(K:KL):VC :=
 match x with
 | .bW=>MD elem s G n ay m nx K
 | .slc key 0 _ _ c=>(match m.get key with
   | some (.cells cs tot ty)=>if cs.length=n0*s/\ty=elem then .and (sU tot (c*s)) (MD elem s H n ay (m.drop key) nx K)else .fail "append: another block"
   | _=>.fail "append: no such block")
 | .bY key _ z 0 _ c=>(match m.get key with
   | some (.rows zb _ _ H tot ty)=>if zb=z/\ty=elem then .and (sU tot (c*s)) (MD elem s z n ay (m.drop key) nx K)else .fail "append: another row"
   | _=>.fail "append: no row")
 | _=>.fail "append: to what"
def qF (P:Program)(elem:TypeId)(s:Nat)(x y:SV)(m:Mem)(nx:Nat)(K:KL):VC :=
 match bytes P elem,mO P elem,yg m s x,yg m s y with
 | some by_,A z,A (p0,n0,o0),A (p1,n1,o1)=>(match OH n0 o0 o1 with
   | some ay=>if(z.plain&&decide (z.cells.length=s)&&decide (s≠0))=G then
      .and (.atom (p0/\p1/\2*(n0+n1)*by_<=281474976710656/\n0+n1<9223372036854775808)) (NQ elem s x n0 (n0+n1) ay m nx K)else .fail "append: sizes"
   | none=>.fail "append: no columns")
 | _,_,_,_=>.fail "append: rows"
section
variable {P : Program} {Γ : b5}
theorem getSet (c:Array Value)(off:Nat)(vs:List Value)(h:off+vs.length<=c.size)(q:Nat) :
  (j6 c off vs)[q]?=if off<=q/\q<off+vs.length then vs[q-off]? else c[q]?:=by
 rw[← S,nB];have key: ∀(vs l:List Value) (off:Nat),off+vs.length<=l.length->(cA l off vs)[q]?=if off<=q/\q<off+vs.length then vs[q-off]? else l[q]?:=by
  intro vs;induction vs with
  | nil=>grind [Sx.cA]
  | cons v r ih =>grind [Sx.cA]
 grind
theorem ash {Γ E m nx w}(hs:bp Γ E m nx w)(hw:Mem.wf nx m=G){m':Mem}(hsub: ∀ k B,m'.get k=A B->m.get k=A B)(hk:(MD elem s z n ay m' nx K).holds)
  {l:List Value} (hl:sO E s ay n l) (hf:rm ay=G) {c:Nat} (hc:n<=c) (hpos:0<n) {a rest:Array Value} (ha:a=l.toArray) (hr:rest.size=(c-n)*s) :
  cn K Γ E nx (.slice (A ⟨w.heap.size,0,C⟩) n c) {w with drawn:=w.drawn+1,heap:=w.heap.push (.cells (a++rest) elem)}:=by
 subst ha
 have hb:J n 0=false:=by cases n with
  | zero=>omega
  | succ n=>rfl
 have hs':=hs.drew (w.drawn+1);refine⟨λk=>if k=nx then w.heap.size else E k,A (.bY nx s z 0 n c),_,_,λk hk=>by simp[R hk],bn _,λv hv=>by injection hv with hv;subst hv;simp[SV.val,hb],?_,hk c hc⟩
 refine hs'.push hw hsub (λk X a hk hn=>R (hs.glt (hsub k X hk) hn)) (λi hi hlt=> ?_) ⟨hs.ext.os,hs.ext.tape,hs.ext.output,?_,λk hk hm=> ?_⟩ (λ_ _=>.inr hs.ext.size) (λD hD=>R (an.1 (hs.kp D hD)).1) (λ_=>⟨_,by simp;rfl,?_⟩) rfl
 ·show(w.heap.push _)[i]?=_;rw[ef,p_ hi]
 ·have:=hs.ext.size;simp;omega
 ·show(w.heap.push _)[k]?=_;have:=hs.ext.size;rw[ef,p_ (by omega)];exact hs.ext.block k hk hm
 ·refine⟨l.toArray++rest,(0,0),rfl,λ_ i=>.inr (by simp),?_,?_,λi k col hi hk=> ?_⟩
  ·simp[hl.len,hl.wide]
  ·simp only[ei,List.size_toArray,hl.len,hr,← L];congr 1;omega
  ·rw[hl.wide,bh.Yt (Ec hf hk) _ E];have:=hl.get i k col hi hk;rw[ec (by simpa using (W.1 this).1)];simpa using this
theorem asi {Γ E m nx w}(hs:bp Γ E m nx w)(hw:Mem.wf nx m=G){key:Nat}{B:SB}(hk:m.get key=A B)(hn:B.no=H)(hro:B.ro=H)
  (h:(MD elem s z (n0+n1) ay (m.drop key) nx K).holds) {old new:List Value} (hl:sO E s ay (n0+n1) (old++new)) (hol:old.length=n0*s) (hnl:new.length=n1*s) (hf:rm ay=G)
  {c0:Array Value} {fr:Nat×Nat} (ho:w.heap[E key]?=A (.cells c0 elem fr)) (hfr: ∀ i,c0.size<=i∨¬ (fr.1<=i/\i<fr.2)) {c:Nat} (hc:n0+n1<=c) (hsz:c0.size=c*s)
  (hold: ∀ q,q<n0*s->c0[q]?=old[q]?) (hz:(z&&J (n0+n1) 0)=H) :
  ∃ w',(storeCells ⟨E key,n0*s,C⟩ new).run P w=.ok () w'/\cn K Γ E nx (.slice (A ⟨E key,0,C⟩) (n0+n1) c) w':=by
 have hcs:n0*s+n1*s<=c0.size:=by rw[hsz,← L];exact O s hc
 have hrun:=ie (P:=P) (o:=n0*s) new 0 w c0 ho hfr (by omega) (λv hv=>hl.one hf v (List.mem_append_right _ hv))
 refine⟨_,hrun,λj=>if j=nx then E key else E j,A (.bY nx s z 0 (n0+n1) c),_,_,(by grind),bn _,
  (by grind [SV.val]),hs.move hw hk hn hro ?_,h c hc⟩
 refine⟨_,fr,rfl,λ_=>by rw[cZ];exact hfr,?_,?_,λi k col hi hk=> ?_⟩
 ·rw[cZ,hl.wide,L];exact hcs
 ·grind [cZ]
 ·rw[hl.wide,bh.Yt (Ec hf hk) _ E];have hg:=hl.get i k col hi hk;rw[getSet _ _ _ (by omega),← hg,c8,hol,ez]
  grind
theorem OP (h0:ats[0]?=A t0)(h1:ats[1]?=A t1)(hd:P.underlying t0=A (.slice elem))(hd1:P.underlying t1=A d)(hni:KI d=G)
  (hsz:sz P elem=A s)    {E:Nat->Nat} 
  (h:(qF P elem s x y m nx K).holds) (hs:bp Γ E m nx w) (hw:Mem.wf nx m=G) :
  ∃ r w',(N ats ty #[x.val E,y.val E]).run P w=.ok r w'/\cn K Γ E nx r w':=by
 unfold qF at h;split at h
 ·rename_i by_ z p0 n0 o0 p1 n1 o1 hby hz hx hy;split at h
  ·rename_i ay hcols;split at h
   ·rename_i hc;simp only[M,m_] at hc;obtain⟨⟨g1,g2⟩,g3⟩:=hc;obtain⟨⟨hp0,hp1,hb1,hb2⟩,h⟩:=h;obtain⟨old,xlen,xrun,xl,xc,xn⟩:=MJ (P:=P) hs hx hp0;obtain⟨new,ylen,yrun,yl,yc,yn⟩:=MJ (P:=P) hs hy hp1;obtain⟨hrows,hflat⟩:=Rx hcols xc xn xl yc yn yl;have hzr: ∀ w:World,(zeroValue elem).run P w=.ok (z.val E) w:=λw=>i6 hz;have hzs:(z.val E).cells.size=s:=by grind [SV.lA]
    have hnew:(I s n1 (y.val E)).run P w=.ok new.toArray w:=yrun w.drawn
    have grow: ∀(base:Option Addr) (c:Nat) (z:Bool) (m':Mem),x.val E=.slice base n0 c->(∀ k B,m'.get k=A B->m.get k=A B)->c<n0+n1->(MD elem s z (n0+n1) ay m' nx K).holds->
      ∃ r w',(N ats ty #[x.val E,y.val E]).run P w=.ok r w'/\cn K Γ E nx r w':=by
     intro base c z m' hxv hsub hlt hk;rw[hxv] at xrun ⊢;obtain⟨c',rest,q1,q2,q3⟩:=xL (w:=w) (ty:=ty) (base:=base) (n0:=n0) (c:=c) h0 h1 hd hd1 hni hsz hby hzr hzs ylen xrun yrun hlt (by omega) (by omega)
     grind [ash]
    unfold NQ at h;split at h
    ·
     by_cases hn:n1=0
     ·subst hn;simp only[yg] at hx;injection hx with hx;injection hx with e1 e2;injection e2 with e2 e3;subst e2;have hnn:(SB.rows G (0+0) ay H (0*s) elem).no=true:=rfl
      refine⟨_,_,append_nil h0 h1 hd hd1 hni hsz ylen hnew,λk=>if k=nx then w.heap.size else E k,A (.bY nx s G 0 (0+0) 0),_,_,(by grind),bn _,λv hv=>by injection hv with hv;subst hv;rfl,
       hs.push hw (λ_ _ h=>h) (λk X a hk ha=>R (hs.glt hk ha)) (λi _ _=>rfl) hs.ext (by grind) (λD hD=>R (an.1 (hs.kp D hD)).1) (by grind) rfl,h 0 (Q _)⟩
     ·simp only[yg] at hx;injection hx with hx;injection hx with e1 e2;injection e2 with e2 e3;subst e2;exact grow C 0 G m rfl (λ_ _ h=>h) (by omega) h
    ·
     rename_i key n' cl c;have hn':n'=n0:=by
      simp only[yg] at hx
      grind
     subst hn';split at h
     ·rename_i cs tot ty' hk;split at h
      ·rename_i hcs;obtain⟨hcl,rfl⟩:=hcs;obtain⟨htot,h⟩:=h;have htot:tot=c*s:=htot;by_cases hle:n'+n1<=c
       ·obtain⟨ob,ho,c0,fr,rfl,f1,f2,f3⟩:=hs.yZ key _ hk rfl;have hf0:=xrun w.drawn;have hold: ∀ q,q<n'*s->c0[q]?=old[q]?:=by
         have hr:=run_loadCells (P:=P) (w:={w with drawn:=w.drawn}) (b:=E key) (c:=c0) ho 0 ((cs.map (SV.val E))) (by grind);rw[T,hcl] at hr;simp only[SV.val,I] at hf0;rw[hr] at hf0
         grind
        obtain⟨w',hrun,haft⟩:=asi (P:=P) hs hw hk rfl rfl h hrows xl yl hflat ho f1 hle (by rw[f3,htot]) hold rfl;exact⟨_,w',D6 (o:=0) h0 h1 hd hd1 hni hsz ylen hnew hle (by grind),haft⟩
       ·exact grow _ c H (m.drop key) rfl (by grind [Mem.lD]) (by omega) h
      ·exact h.elim
     ·exact h.elim
    ·
     rename_i key w' z' n' c;split at h
     ·rename_i zb nb cols' tot ty' hk;split at h
      ·rename_i hcs;obtain⟨rfl,rfl⟩:=hcs;obtain⟨htot,h⟩:=h;have htot:tot=c*s:=htot;simp only[yg,hk] at hx;split at hx
       ·rename_i hw';obtain⟨rfl,hwl,hwf⟩:=hw';injection hx with hx;injection hx with e1 e2;injection e2 with e2 e3;subst e1;subst e2;subst e3;cases hzn:zb&&J n' 0 with
        | true =>
          simp only[M,aB8] at hzn;obtain⟨rfl,rfl⟩:=hzn;by_cases hn1:n1=0
          ·subst hn1;have hnn:(SB.rows G (0+0) ay H (0*w') ty').no=true:=rfl
           refine⟨_,_,append_nil h0 h1 hd hd1 hni hsz ylen hnew,λk=>if k=nx then w.heap.size else E k,A (.bY nx w' G 0 (0+0) 0),_,_,(by grind),bn _,λv hv=>by injection hv with hv;subst hv;rfl,
            hs.push hw (by grind [Mem.lD]) (λk X a hk ha=>R (hs.glt (Mem.lD hk).2 ha)) (λi _ _=>rfl) hs.ext (by grind) (λD hD=>R (an.1 (hs.kp D hD)).1) (by grind) rfl,h 0 (Q _)⟩
          ·exact grow C 0 G (m.drop key) rfl (by grind [Mem.lD]) (by omega) h
        | false =>
          have hxv:(SV.bY key w' zb 0 n' c).val E=.slice (A ⟨E key,0,C⟩) n' c:=by simp[SV.val,hzn]
          have hno:(SB.rows zb nb cols' H tot ty').no=false:=by
           cases zb with
           | false=>rfl
           | true =>
             simp only[ek] at hzn;have:n'≠0:=λe=>by simp_all
             exact SB.o5 (i:=0) (by omega)
          by_cases hle:n'+n1<=c
          ·obtain⟨ob,ho,c0,fr,rfl,f1,f2,f3,f4⟩:=hs.yZ key _ hk hno;have hf0:=xrun w.drawn;rw[hxv] at hf0;rw[hwl] at f2;have hnb:n'*w'<=c0.size:=d! (O w' (by omega)) f2;have hold: ∀ q,q<n'*w'->c0[q]?=old[q]?:=by
            have hr:=run_loadCells (P:=P) (w:={w with drawn:=w.drawn}) (b:=E key) (c:=c0) ho 0 (c0.toList.take (n'*w')) (by grind);rw[bl,b_,eB hnb] at hr;simp only[I] at hf0;rw[hr] at hf0
            grind
           have hz2:(zb&&J (n'+n1) 0)=false:=by
            cases zb with
            | false=>rfl
            | true =>
              simp only[ek] at hzn ⊢;cases n' with
              | zero=>cases hzn
              | succ n=>rw[show n+1+n1=(n+n1)+1 by omega];rfl
           obtain⟨w2,hrun,haft⟩:=asi (P:=P) hs hw hk hno rfl h hrows xl yl hflat ho (f1 rfl) hle (by rw[f3,htot]) hold hz2;rw[hxv];exact⟨_,w2,D6 (o:=0) h0 h1 hd hd1 hni hsz ylen hnew hle (by grind),haft⟩
          grind [Mem.lD]
       ·cases hx
      ·exact h.elim
     ·exact h.elim
    ·exact h.elim
   ·exact h.elim
  ·exact h.elim
 ·exact h.elim
def axf:SV->Bool
 | .bY .. =>G
 | _=>H
def HI (P:Program)(ats:Array TypeId)(x y:SV)(m:Mem)(nx:Nat)(K:KL):VC :=
 match axf x||axf y with
 | false=>Nu P ats x y m nx K
 | true=>(match ats[0]?,ats[1]? with
   | some t0,A t1=>(match P.underlying t0,P.underlying t1 with
     | some (.slice elem),A d=>(match sz P elem with
       | some s=>if KI d=G then qF P elem s x y m nx K else .fail "append: make"
       | none=>.fail "append")
     | _,_=>.fail "append")
   | _,_=>.fail "append")
theorem YT {E:Nat->Nat}
  (h:(HI P ats x y m nx K).holds) (hs:bp Γ E m nx w) (hw:Mem.wf nx m=G) :
  ∃ r w',(N ats ty #[x.val E,y.val E]).run P w=.ok r w'/\cn K Γ E nx r w':=by
 unfold HI at h;split at h
 ·exact adJ h hs hw
 ·split at h
  ·rename_i t0 t1 h0 h1;split at h
   ·rename_i elem d hd hd1;split at h
    ·rename_i s hsz;split at h
     ·rename_i hni;exact OP h0 h1 hd hd1 hni hsz h hs hw
     ·exact h.elim
    ·exact h.elim
   ·exact h.elim
  ·exact h.elim
theorem GO {K':KL}(hK: ∀ u m nx,(K u m nx).holds->(K' u m nx).holds) :
  (MD elem s z n ay m nx K).holds->(MD elem s z n ay m nx K').holds:=λh c hc=>hK _ _ _ (h c hc)
theorem Kj {K':KL}(hK: ∀ u m nx,(K u m nx).holds->(K' u m nx).holds) :
  (qF P elem s x y m nx K).holds->(qF P elem s x y m nx K').holds:=by
 unfold qF;split
 ·split
  ·split
   ·refine λx=>⟨x.1,?_⟩
    have x2:=x.2;unfold NQ at x2 ⊢;split at x2
    ·exact GO hK x2
    ·split at x2
     ·split at x2
      ·rename_i hh;rw[o_ hh];exact⟨x2.1,GO hK x2.2⟩
      ·exact x2.elim
     ·exact x2.elim
    ·split at x2
     ·split at x2
      ·rename_i hh;rw[o_ hh];exact⟨x2.1,GO hK x2.2⟩
      ·exact x2.elim
     ·exact x2.elim
    ·exact x2.elim
   ·exact id
  ·exact id
 ·exact id
end
end
end Sx
namespace Sx
open Go
mutual
def SV.leaf (f:SV->SV):SV->SV
 | .agg l=>.agg (SV.xT f l)
 | .dr l=>.dr (SV.xT f l)
 | .iface t v=>.iface t (v.leaf f)
 | .func fn a b=>.func fn (SV.xT f a) (SV.xT f b)
 | .int k l n=>f (.int k l n)
 | .bool l b=>f (.bool l b)
 | .str l s=>f (.str l s)
 | .ptr k l o=>f (.ptr k l o)
 | .uI k w i j=>f (.uI k w i j)
 | .Aq k b n i=>f (.Aq k b n i)
 | .eJ=>f .eJ
 | .slc k o n l c=>f (.slc k o n l c)
 | .bY k w z i n c=>f (.bY k w z i n c)
 | .cT k w z o i n c=>f (.cT k w z o i n c)
 | .qi k w o i j=>f (.qi k w o i j)
 | .bW=>f .bW
 | .cj=>f .cj
 | .lE=>f .lE
 | .yield k=>f (.yield k)
 | .map k=>f (.map k)
 | .mo=>f .mo
 | .raw v=>f (.raw v)
 | .l7 k a o=>f (.l7 k a o)
 | .iP k w z a i n c=>f (.iP k w z a i n c)
 | .yp k w a i j=>f (.yp k w a i j)
def SV.xT (f:SV->SV):List SV->List SV
 | []=>[]
 | x::r=>x.leaf f::SV.xT f r
end
def Says (f:SV->SV)(E:Nat->Nat):Prop:=∀ v,(f v).val E=v.val E/\∀ nx,v.wf nx=G->(f v).wf nx=G
mutual
theorem SV.HN {E:Nat->Nat}(h:Says f E):(v:SV)->(v.leaf f).val E=v.val E
 | .agg l=>by simp only[SV.leaf,SV.val,SV.zq h l]
 | .dr l=>by simp only[SV.leaf,SV.val,SV.zq h l]
 | .iface t v=>by simp only[SV.leaf,SV.val,SV.HN h v]
 | .func fn a b=>by simp only[SV.leaf,SV.val,SV.zq h a,SV.zq h b]
 | .int .. | .bool .. | .str .. | .ptr .. | .uI .. | .Aq .. | .eJ | .slc .. | .bY .. | .cT .. | .qi .. | .bW | .cj | .lE | .yield .. | .map .. | .mo | .raw .. | .l7 .. | .iP .. | .yp .. =>(h _).1
theorem SV.zq {E:Nat->Nat}(h:Says f E):(l:List SV)->SV.vals E (SV.xT f l)=SV.vals E l
 | []=>rfl
 | x::r=>by simp only[SV.xT,SV.vals,SV.HN h x,SV.zq h r]
end
mutual
theorem SV.VY {E:Nat->Nat}(h:Says f E):(v:SV)->v.wf nx=G->(v.leaf f).wf nx=G
 | .agg l,hw=>SV.CN h l hw
 | .dr l,hw=>SV.CN h l hw
 | .iface t v,hw=>SV.VY h v hw
 | .func fn a b,hw=>by simp only[SV.wf,M] at hw;simp only[SV.leaf,SV.wf,M];exact⟨SV.CN h a hw.1,SV.CN h b hw.2⟩
 | .int ..,hw | .bool ..,hw | .str ..,hw | .ptr ..,hw | .uI ..,hw | .Aq ..,hw | .eJ,hw | .slc ..,hw | .bY ..,hw | .cT ..,hw | .qi ..,hw | .bW,hw | .cj,hw | .lE,hw | .yield ..,hw | .map ..,hw | .mo,hw | .raw ..,hw | .l7 ..,hw | .iP ..,hw | .yp ..,hw=>(h _).2 nx hw
theorem SV.CN {E:Nat->Nat}(h:Says f E):(l:List SV)->SV.lY nx l=G->SV.lY nx (SV.xT f l)=G
 | [],_=>rfl
 | x::r,hw=>by simp only[SV.lY,M] at hw;simp only[SV.xT,SV.lY,M];exact⟨SV.VY h x hw.1,SV.CN h r hw.2⟩
end
theorem SV.SN : ∀ {l:List SV} {i:Nat} {u:SV},(SV.xT f l)[i]?=A u->∃ v,l[i]?=A v/\u=v.leaf f
 | [],i,u,h=>by simp[SV.xT] at h
 | x::r,0,u,h=>by simp[SV.xT] at h;exact⟨x,rfl,h.symm⟩
 | x::r,i+1,u,h=>by simp only[SV.xT,cy] at h;obtain⟨v,h1,h2⟩:=SV.SN h;exact⟨v,by simpa using h1,h2⟩
def bh.nE (g:Nat->Nat):bh->bh
 | .ref k f=>.ref (g k) f
 | .iP k w z f n c=>.iP (g k) w z f n c
 | c=>c
def fW.nE (g:Nat->Nat):fW->fW
 | .ref k f=>.ref (g k) f
 | c=>c
theorem bh.wo (g E:Nat->Nat)(c:bh)(i:Nat):((c.nE g).at i).val E=(c.at i).val E:=by cases c<;>rfl
theorem fW.aj3 (g:Nat->Nat)(c:fW)(a:Nat):(c.nE g).at a=(c.at a).nE g:=by cases c<;>rfl
def iO.nE (g:Nat->Nat):iO->iO
 | .ref k f=>.ref (g k) f
 | c=>c
theorem iO.wo (g:Nat->Nat)(c:iO)(s:h_):(c.nE g).val s=c.val s:=by cases c<;>rfl
def SB.told (f:SV->SV)(g:Nat->Nat):SB->SB
 | .cells cs tot ty=>.cells (SV.xT f cs) tot ty
 | .rows z n ay ro tot ty=>.rows z n (ay.map (bh.nE g)) ro tot ty
 | .view z o n ay=>.view z o n (ay.map (bh.nE g))
 | .sy D cs tot ty ro=>.sy D (cs.map (bh.nE g)) tot ty ro
 | .ni D n ay ro=>.ni D n (ay.map (fW.nE g)) ro
 | .fmap d c p=>.fmap d (c.nE g) p
 | B=>B
theorem Gk {l:List bh}{k:Nat}(h:(l.map (bh.nE g))[k]?=A c): ∃ c0,l[k]?=A c0/\c=c0.nE g:=by grind
theorem LG {E:Nat->Nat}{ob:Obj}(h:cq E (.view z o n ay) ob):cq E (.view z o n (ay.map (bh.nE g))) ob:=by
 obtain⟨c,ty,fr,h1,h2⟩:=h;refine⟨c,ty,fr,h1,λi k col hi hk=> ?_⟩
 grind [Gk,T,bh.wo]
theorem SB.av4 {E:Nat->Nat}(hf:Says f E)(g:Nat->Nat)(B:SB)(b a:Nat)(ha:(B.told f g).nc b a):B.nc b a/\(∀ o,cq E (B.el a) o->cq E ((B.told f g).el a) o)/\((B.told f g).ro=H->B.ro=H):=by
 cases B with
 | cells cs tot ty =>
   refine⟨ha,λo ⟨c,fr,h1,h2,h3,h4⟩=>⟨c,fr,h1,h2,λi u hu=> ?_,h4⟩,id⟩
   grind [SV.SN,SV.HN]
 | rows z n ay ro tot ty =>
   refine⟨ha,λo ⟨c,fr,h1,h2,h3,h4,h5⟩=>⟨c,fr,h1,h2,by grind,h4,λi k col hi hk=> ?_⟩,id⟩
   grind [Gk,T,bh.wo]
 | view z o n ay=>exact⟨ha,λ_ h=>LG h,id⟩
 | sy D cs tot ty ro =>
   refine⟨ha,λo ⟨c,fr,h1,h2,h3,h4⟩=>⟨c,fr,h1,h2,λi u hu=> ?_,h4⟩,id⟩
   grind [Gk,bh.wo]
 | ni D n ay ro =>
   refine⟨ha,λo h=> ?_,id⟩;have:=LG (g:=g) h;have e:(ay.map (fW.nE g)).map (fW.at a)=(ay.map (fW.at a)).map (bh.nE g):=by grind [List.map_map,List.map_congr_left,fW.aj3]
   show cq E (.view H 0 (n a) ((ay.map (fW.nE g)).map (fW.at a))) o
   grind
 | loop=>exact⟨ha,λ_ h=>h,id⟩
 | map=>exact⟨ha,λ_ h=>h,id⟩
 | fmap d c p=>exact⟨ha,λ_ ⟨es,cl,h1,h2⟩=>⟨es,cl,h1,h2.st,h2.ks,λs hs=>by rw[iO.wo];exact h2.has s hs,h2.no,h2.pd⟩,id⟩
 | mit=>exact⟨ha,λ_ h=>h,id⟩
def Mem.told (f:SV->SV)(g:Nat->Nat):Mem->Mem
 | []=>[]
 | e::r=>(e.1,e.2.told f g)::Mem.told f g r
theorem Mem.abW : ∀ {m:Mem} {k:Nat} {B:SB},(Mem.told f g m).get k=A B->∃ B0,m.get k=A B0/\B=B0.told f g
 | [],_,_,h=>by cases h
 | e::r,k,B,h=>by
   by_cases he:e.1=k
   ·simp only[Mem.told,Mem.get,he,if_true] at h ⊢
    grind
   ·simp only[Mem.told,Mem.get,he,if_false] at h ⊢;exact Mem.abW h
theorem bp.axF {Γ E m nx w}(h:bp Γ E m nx w)(hf:Says f E)(g:Nat->Nat):bp Γ E (Mem.told f g m) nx w:=h.conv λk Y hk=>by obtain⟨B0,h1,rfl⟩:=Mem.abW hk;exact⟨B0,h1,(by grind [SB.av4])⟩
def Zt (k a:Nat):SV->SV
 | .ptr j l o=>bif J j k then .l7 k a o else .ptr j l o
 | .bY j w z i n c=>bif J j k then .iP k w z a i n c else .bY j w z i n c
 | v=>v
theorem ael {E:Nat->Nat}{k:Nat}(h:E k=a):Says (Zt k a) E:=λv=>by
 cases v<;>try exact⟨rfl,λ_ h=>h⟩
 case ptr j l o =>
  simp only[Zt];cases hb:J j k with
  | true=>obtain rfl:=cL hb;exact⟨by simp[SV.val,h],λ_ _=>rfl⟩
  | false=>grind
 case bY j w z i n c =>
  simp only[Zt];cases hb:J j k with
  | true=>obtain rfl:=cL hb;exact⟨by simp[SV.val,h],λ_ _=>rfl⟩
  | false=>grind
def Vi (h:Nat):SV->Option bh
 | .int k _ n=>A (.int k λ_=>n)
 | .bool _ b=>A (.bool λ_=>b)
 | .str _ s=>A (.str λ_=>s)
 | .l7 k a 0=>A (.ref k λ_=>a)
 | .iP k w z a 0 n c=>A (.iP k w z (λ_=>a) (λ_=>n) λ_=>c)
 | .bW=>A (.iP h 1 G (λ_=>0) (λ_=>0) λ_=>0)
 | .raw v=>A (.raw λ_=>v)
 | .eJ=>A (.raw λ_=>.pointer C)
 | _=>C
theorem XW {h:Nat}{v:SV}(hc:Vi h v=A c)(E:Nat->Nat)(a:Nat):(c.at a).val E=v.val E:=by unfold Vi at hc;split at hc<;>first | (injection hc with hc;subst hc;rfl) | cases hc
def Ct (h:Nat):List SV->Option (List bh)
 | []=>A []
 | v::r=>match Vi h v,Ct h r with
   | some c,A l=>A (c::l)
   | _,_=>C
theorem Hh {h:Nat}(E:Nat->Nat)(a:Nat): ∀ {l:List SV} {cs:List bh},Ct h l=A cs->(cs.map (bh.at a)).map (SV.val E)=l.map (SV.val E)
 | [],cs,hc=>by simp[Ct] at hc;subst hc;rfl
 | v::r,cs,hc=>by
   simp only[Ct] at hc;split at hc
   ·rename_i c l h1 h2;injection hc with hc;subst hc;simp only[cB,XW h1 E a,Hh E a h2]
   ·cases hc
def bh.aoc:bh->Option fW
 | .int k f=>A (.int k λ_=>f)
 | .bool f=>A (.bool λ_=>f)
 | .str f=>A (.str λ_=>f)
 | .ref k f=>A (.ref k λ_=>f)
 | _=>C
theorem bh.aod {d:fW}(h:c.aoc=A d)(a:Nat):d.at a=c:=by cases c<;>simp only[bh.aoc] at h<;>first | (injection h with h;subst h;rfl) | cases h
def Om:List bh->Option (List fW)
 | []=>A []
 | c::r=>match c.aoc,Om r with
   | some d,A l=>A (d::l)
   | _,_=>C
theorem Sy (a:Nat): ∀ {l:List bh} {d:List fW},Om l=A d->d.map (fW.at a)=l
 | [],d,h=>by simp[Om] at h;subst h;rfl
 | c::r,d,h=>by
   simp only[Om] at h;split at h
   ·rename_i x l h1 h2;injection h with h;subst h;simp only[cB,bh.aod h1 a,Sy a h2]
   ·cases h
def agq (h a:Nat):SB->Option SB
 | .cells cs tot ty=>(match Ct h cs with
   | some ay=>A (.sy (λb=>J b a) ay tot ty H)
   | none=>C)
 | .rows z n ay H _ _=>(match Om ay with
   | some d=>A (.ni (λb=>J b a&& !(z&&J n 0)) (λ_=>n) d H)
   | none=>C)
 | _=>C
theorem an5 {h:Nat}{B:SB}(hF:agq h a B=A F)(E:Nat->Nat)(x:Nat)(hx:F.nc a x):B.nc a x/\(∀ o,cq E (B.el x) o->cq E (F.el x) o)/\(F.ro=H->B.ro=H):=by
 unfold agq at hF;split at hF
 ·rename_i cs tot ty;split at hF
  ·rename_i ay hc;injection hF with hF;subst hF;have hx:J x a=true:=hx;obtain rfl:=cL hx;refine⟨⟨rfl,rfl⟩,λo ⟨c,fr,h1,h2,h3,h4⟩=>⟨c,fr,h1,h2,λi v hv=> ?_,h4⟩,λ_=>rfl⟩;have e:=Hh E x hc;have:((ay.map (bh.at x)).map (SV.val E))[i]?=A (v.val E):=by grind
   grind
  ·cases hF
 ·rename_i z n ay tot ty;split at hF
  ·rename_i d hd;injection hF with hF;subst hF;have hx:(J x a&& !(z&&J n 0))=true:=hx;simp only[M,Bool.not_eq_true'] at hx;obtain rfl:=cL hx.1;refine⟨⟨hx.2,rfl⟩,λo ⟨c,fr,h1,h2,h3,h4,h5⟩=> ?_,λ_=>rfl⟩;show cq E (.view H 0 n (d.map (fW.at x))) o;rw[Sy x hd]
   grind [Sx.cq]
  ·cases hF
 ·cases hF
def Pa (D:Nat->Bool):bh->bh->Option bh
 | .int k f,.int k' g=>if k=k' then A (.int k λb=>bif D b then f b else g b)else C
 | .bool f,.bool g=>A (.bool λb=>bif D b then f b else g b)
 | .str f,.str g=>A (.str λb=>bif D b then f b else g b)
 | .raw f,.raw g=>A (.raw λb=>bif D b then f b else g b)
 | .ref k f,.ref _ g=>A (.ref k λb=>bif D b then f b else g b)
 | .iP k w z f n c,.iP _ w' z' f' n' c'=>if w=w'/\z=z' then A (.iP k w z (λb=>bif D b then f b else f' b) (λb=>bif D b then n b else n' b) λb=>bif D b then c b else c' b)else C
 | _,_=>C
theorem Wj {D:Nat->Bool}{d e:bh}(h:Pa D c d=A e)(E:Nat->Nat)(b:Nat):(e.at b).val E=bif D b then(c.at b).val E else(d.at b).val E:=by
 unfold Pa at h
 split at h<;>first
  | (injection h with h;subst h;cases hb:D b<;>simp[bh.at,SV.val,hb];done)
  | (split at h
     ·rename_i e
      first | subst e | obtain⟨rfl,rfl⟩:=e
      injection h with h;subst h;cases hb:D b<;>simp[bh.at,SV.val,hb]
     ·cases h)
  | cases h
def zA (D:Nat->Bool):List bh->List bh->Option (List bh)
 | [],[]=>A []
 | c::r,d::s=>match Pa D c d,zA D r s with
   | some e,A l=>A (e::l)
   | _,_=>C
 | _,_=>C
theorem Fq {D:Nat->Bool}(E:Nat->Nat)(b:Nat): ∀ {c d e:List bh},zA D c d=A e->(e.map (bh.at b)).map (SV.val E)=bif D b then(c.map (bh.at b)).map (SV.val E)else(d.map (bh.at b)).map (SV.val E)
 | [],[],e,h=>by grind [zA]
 | c::r,d::s,e,h=>by
   simp only[zA] at h;split at h
   ·rename_i x l h1 h2;injection h with h;subst h;have:=Fq E b h2;simp only[cB,Wj h1 E b,this]
    grind
   ·cases h
 | [],_::_,_,h=>by cases h
 | _::_,[],_,h=>by cases h
def KB (D:Nat->Bool):fW->fW->Option fW
 | .int k f,.int k' g=>if k=k' then A (.int k λb i=>bif D b then f b i else g b i)else C
 | .bool f,.bool g=>A (.bool λb i=>bif D b then f b i else g b i)
 | .str f,.str g=>A (.str λb i=>bif D b then f b i else g b i)
 | .ref k f,.ref _ g=>A (.ref k λb i=>bif D b then f b i else g b i)
 | _,_=>C
theorem RB {D:Nat->Bool}{c d e:fW}(h:KB D c d=A e)(E:Nat->Nat)(b i:Nat):(((e.at b).at i)).val E=bif D b then((c.at b).at i).val E else((d.at b).at i).val E:=by
 unfold KB at h
 grind [fW.at,bh.at,SV.val]
def wv (D:Nat->Bool):List fW->List fW->Option (List fW)
 | [],[]=>A []
 | c::r,d::s=>match KB D c d,wv D r s with
   | some e,A l=>A (e::l)
   | _,_=>C
 | _,_=>C
theorem CT {D:Nat->Bool}(E:Nat->Nat)(b:Nat): ∀ {c d e:List fW},wv D c d=A e->e.length=(bif D b then c else d).length/\
  ∀(k:Nat) (x:bh),(e.map (fW.at b))[k]?=A x->∃ y:bh,((bif D b then c else d).map (fW.at b))[k]?=A y/\∀ i,(x.at i).val E=(y.at i).val E
 | [],[],e,h=>by simp[wv] at h;grind
 | c::r,d::s,e,h=>by
   simp only[wv] at h;split at h
   ·rename_i x l h1 h2;injection h with h;subst h;obtain⟨g1,g2⟩:=CT E b h2;have g3:=RB h1 E b
    grind
   ·cases h
 | [],_::_,_,h=>by cases h
 | _::_,[],_,h=>by cases h
def HS:SB->SB->Option SB
 | .sy D cs tot ty ro,.sy D' cs' tot' ty' ro'=>if tot=tot'/\ty=ty'/\ro=ro' then(match zA D cs cs' with
   | some l=>A (.sy (λb=>D b||D' b) l tot ty ro)
   | none=>C)else C
 | .ni D n ay ro,.ni D' n' cols' ro'=>if ro=ro' then(match wv D ay cols' with
   | some l=>A (.ni (λb=>D b||D' b) (λb=>bif D b then n b else n' b) l ro)
   | none=>C)else C
 | _,_=>C
theorem aef {B1 B2:SB}(h:HS B1 B2=A F)(E:Nat->Nat){b1 b2 x:Nat}(hx:F.nc b x):(B1.nc b1 x/\(∀ o,cq E (B1.el x) o->cq E (F.el x) o)/\F.ro=B1.ro)∨(B2.nc b2 x/\(∀ o,cq E (B2.el x) o->cq E (F.el x) o)/\F.ro=B2.ro):=by
 unfold HS at h;split at h
 ·rename_i D cs tot ty ro D' cs' tot' ty' ro';split at h
  ·rename_i e;obtain⟨rfl,rfl,rfl⟩:=e;split at h
   ·rename_i l hl;injection h with h;subst h;have hv:=Fq E x hl;have key: ∀ {c2:List bh},(l.map (bh.at x)).map (SV.val E)=(c2.map (bh.at x)).map (SV.val E)->∀ o,cq E (.cells (c2.map (bh.at x)) tot ty) o->cq E (.cells (l.map (bh.at x)) tot ty) o:=by
     intro c2 e o ⟨c,fr,h1,h2,h3,h4⟩;refine⟨c,fr,h1,h2,λi v hv=> ?_,h4⟩;have:((l.map (bh.at x)).map (SV.val E))[i]?=A (v.val E):=by grind
     grind
    have hx:(D x||D' x)=true:=hx;cases hd:D x with
    | true=>rw[hd] at hv;exact .inl ⟨hd,key hv,rfl⟩
    | false=>rw[hd] at hv hx;exact .inr ⟨hx,key hv,rfl⟩
   ·cases h
  ·cases h
 ·rename_i D n ay ro D' n' cols' ro';split at h
  ·rename_i e;subst e;split at h
   ·rename_i l hl;injection h with h;subst h;obtain⟨g1,g2⟩:=CT E x hl;have hx:(D x||D' x)=true:=hx;have key: ∀ {c2:List fW} {n2:Nat},l.length=c2.length->(∀(k:Nat) (y:bh),(l.map (fW.at x))[k]?=A y->∃ z:bh,(c2.map (fW.at x))[k]?=A z/\∀ i,(y.at i).val E=(z.at i).val E)->∀ o,cq E (.view H 0 n2 (c2.map (fW.at x))) o->cq E (.view H 0 n2 (l.map (fW.at x))) o:=by grind [Sx.cq]
    cases hd:D x with
    | true =>
      rw[hd] at g1 g2;refine .inl ⟨hd,λo ho=> ?_,rfl⟩;show cq E (.view H 0 (bif D x then n x else n' x) (l.map (fW.at x))) o
      rw[hd];exact key g1 g2 o ho
    | false =>
      rw[hd] at g1 g2 hx;refine .inr ⟨hx,λo ho=> ?_,rfl⟩;show cq E (.view H 0 (bif D x then n x else n' x) (l.map (fW.at x))) o
      rw[hd];exact key g1 g2 o ho
   ·cases h
  ·cases h
 ·cases h
theorem bp.merged {Γ E m nx w}(h:bp Γ E m nx w){k1 k2:Nat}(hne:k1≠k2){B1 B2:SB}(h1:m.get k1=A B1)(h2:m.get k2=A B2)(hF:HS B1 B2=A F):bp Γ E ((m.drop k2).put k1 F) nx w:=by
 have hg: ∀ {j Y a},((m.drop k2).put k1 F).get j=A Y->Y.nc (E j) a->∃ i X,m.get i=A X/\X.nc (E i) a/\(∀ o,cq E (X.el a) o->cq E (Y.el a) o)/\Y.ro=X.ro/\(i=j∨(i=k2/\j=k1))/\(i=k2->j=k1):=λ{j Y a} hj ha=>by
  rcases Mem.mV hj with ⟨rfl,rfl,_⟩ | ⟨_,hj⟩
  ·rcases aef hF E (b1:=E j) (b2:=E k2) ha with ⟨g1,g2,g3⟩ | ⟨g1,g2,g3⟩
   ·grind
   grind
  grind [Mem.lD]
 refine⟨λj Y a hj ha=> ?_,λj j' Y Y' a hj ha hj' ha' hr=> ?_,λj Y hj=> ?_,λj Y a hj ha hr=> ?_,h.ext,h.cx,h.kp⟩
 ·obtain⟨i,X,g1,g2,g3,_⟩:=hg hj ha;obtain⟨o,ho,hb⟩:=h.p7 i X a g1 g2
  grind
 ·obtain⟨i,X,g1,g2,_,g4,g5,g6⟩:=hg hj ha;obtain⟨i',X',q1,q2,_,q4,q5,q6⟩:=hg hj' ha';have:=h.qq i i' X X' a g1 g2 q1 q2 (by grind);omega
 ·rcases Mem.mV hj with ⟨rfl,_,_⟩ | ⟨_,hj⟩
  ·exact h.lt _ _ h1
  ·exact h.lt _ _ (Mem.lD hj).2
 ·obtain⟨i,X,g1,g2,_,g4,_⟩:=hg hj ha;exact h.rq i X a g1 g2 (by grind)
def YF (k2 k1:Nat):SV->SV
 | .l7 j a o=>.l7 (bif J j k2 then k1 else j) a o
 | .iP j w z a i n c=>.iP (bif J j k2 then k1 else j) w z a i n c
 | .yp j w a i k=>.yp (bif J j k2 then k1 else j) w a i k
 | v=>v
theorem adu (E:Nat->Nat)(k2 k1:Nat):Says (YF k2 k1) E:=λv=>by cases v<;>exact⟨rfl,λ_ h=>h⟩
inductive Gh where
 | name (k h:Nat)
 | merge (k1 k2:Nat)
def DY (f:SV->SV):List (Option SV)->List (Option SV)
 | []=>[]
 | some v::r=>A (v.leaf f)::DY f r
 | none::r=>C::DY f r
def SB.dom:SB->Nat->Bool
 | .sy D _ _ _ _=>D
 | .ni D _ _ _=>D
 | _=>λ_=>H
theorem SB.agi {B:SB}(h:B.dom a=G):B.nc b a:=by cases B<;>first | exact h | cases h
def ghs:List Gh->List (Option SV)->Mem->(List (Option SV)->Mem->VC)->VC
 | [],tmps,m,K=>K tmps m
 | .name k h::r,tmps,m,K=>(match m.get k with
   | some B=>.all Nat λa=>(match agq h a B with
     | some F=>ghs r (DY (Zt k a) tmps) (Mem.told (Zt k a) id (m.put k F)) K
     | none=>.fail "name: what block")
   | none=>.fail "name: no block")
 | .merge k1 k2::r,tmps,m,K=>if k1=k2 then .fail "merge: one" else(match m.get k1,m.get k2 with
   | some B1,A B2=>(match HS B1 B2 with
     | some F=>(match B1.ro with
       | false=>.imp (∀ b,B1.dom b=G->B2.dom b=H) (ghs r (DY (YF k2 k1) tmps) (Mem.told (YF k2 k1) (λj=>bif J j k2 then k1 else j) ((m.drop k2).put k1 F)) K)
       | true=>.fail "merge: read only")
     | none=>.fail "merge: other families")
   | _,_=>.fail "merge: no family")
structure Ff (E:Nat->Nat)(t t':List (Option SV)):Prop where
 len:t'.length=t.length
 get: ∀(i:Nat) (v':SV),t'[i]?=A (A v')->∃ v:SV,t[i]?=A (A v)/\v'.val E=v.val E/\∀ nx,v.wf nx=G->v'.wf nx=G
theorem Ff.refl (E:Nat->Nat)(t:List (Option SV)):Ff E t t:=⟨rfl,(by grind)⟩
theorem Ff.trans {E:Nat->Nat}{a b c:List (Option SV)}(h:Ff E a b)(h':Ff E b c):Ff E a c :=
 ⟨h'.len.trans h.len,λi v hv=>by
  obtain⟨u,h1,h2,h3⟩:=h'.get i v hv;obtain⟨x,g1,g2,g3⟩:=h.get i u h1
  grind⟩
theorem Bh {f:SV->SV}{E:Nat->Nat}(hf:Says f E): ∀(t:List (Option SV)),Ff E t (DY f t)
 | []=>Ff.refl E []
 | none::r=>by
   have:=Bh hf r;refine⟨by simp[DY,this.len],λi v h=> ?_⟩;cases i with
   | zero=>simp[DY] at h
   | succ i=>exact this.get i v (by simpa [DY] using h)
 | some x::r=>by
   have:=Bh hf r;refine⟨by simp[DY,this.len],λi v h=> ?_⟩;cases i with
   | zero=>simp[DY] at h;subst h;exact⟨x,rfl,SV.HN hf x,λnx hx=>SV.VY hf x hx⟩
   | succ i=>exact this.get i v (by simpa [DY] using h)
theorem Ot {K K':List (Option SV)->Mem->VC}(h: ∀ t m,(K t m).holds->(K' t m).holds): ∀ {l:List Gh} {tmps:List (Option SV)} {m:Mem},(ghs l tmps m K).holds->(ghs l tmps m K').holds
 | [],_,_,hh=>h _ _ hh
 | .name k x::r,tmps,m,hh=>by
   simp only[ghs] at hh ⊢;revert hh;cases m.get k with
   | none=>exact id
   | some B =>
     intro hh a;have hh:=hh a;revert hh;dsimp only;cases agq x a B with
     | none=>exact id
     | some F=>exact Ot h
 | .merge k1 k2::r,tmps,m,hh=>by
   simp only[ghs] at hh ⊢;revert hh;by_cases e:k1=k2
   ·rw[o_ e,o_ e];exact id
   ·rw[p_ e,p_ e];cases m.get k1 with
    | none=>exact id
    | some B1=>cases m.get k2 with
      | none=>exact id
      | some B2 =>
        dsimp only;cases HS B1 B2 with
        | none=>exact id
        | some F =>
          dsimp only;cases B1.ro with
          | true=>exact id
          | false=>exact λhh hd=>Ot h (hh hd)
theorem zk {Γ:b5}{E:Nat->Nat}{nx:Nat}{w:World}: ∀ {l:List Gh} {tmps:List (Option SV)} {m:Mem} {K:List (Option SV)->Mem->VC},(ghs l tmps m K).holds->bp Γ E m nx w->
  ∃ tmps' m',Ff E tmps tmps'/\bp Γ E m' nx w/\(K tmps' m').holds
 | [],tmps,m,K,h,hs=>⟨tmps,m,Ff.refl E tmps,hs,h⟩
 | .name k hh::r,tmps,m,K,h,hs=>by
   simp only[ghs] at h;split at h
   ·rename_i B hB;have h:=h (E k);dsimp only at h;split at h
    ·rename_i F hF;have hs1:bp Γ E (m.put k F) nx w:=hs.conv λj Y hj=>by
      rcases Mem.mV hj with ⟨rfl,rfl,_⟩ | ⟨_,hj⟩
      ·exact⟨B,hB,λa ha=>an5 hF E a ha⟩
      ·exact⟨Y,hj,λa ha=>⟨ha,λ_ h=>h,id⟩⟩
     have hf:=ael (E:=E) (k:=k) rfl;obtain⟨t',m',g1,g2,g3⟩:=zk h (hs1.axF hf id);exact⟨t',m',(Bh hf tmps).trans g1,g2,g3⟩
    ·exact h.elim
   ·exact h.elim
 | .merge k1 k2::r,tmps,m,K,h,hs=>by
   simp only[ghs] at h;split at h
   ·exact h.elim
   ·rename_i hne;split at h
    ·rename_i B1 B2 h1 h2;split at h
     ·rename_i F hF;cases hro:B1.ro with
      | true=>rw[hro] at h;exact h.elim
      | false =>
        rw[hro] at h;have hd: ∀ b,B1.dom b=G->B2.dom b=false:=λb hb=>by
         cases hb2:B2.dom b with
         | false=>rfl
         | true=>exact absurd (hs.qq k1 k2 B1 B2 b h1 (SB.agi hb) h2 (SB.agi hb2) (.inl hro)) hne
        have hf:=adu E k2 k1;obtain⟨t',m',g1,g2,g3⟩:=zk (h hd) ((hs.merged hne h1 h2 hF).axF hf _);exact⟨t',m',(Bh hf tmps).trans g1,g2,g3⟩
     ·exact h.elim
    ·exact h.elim
end Sx
end Go.Proofs.YtoibaecagklkaaaGreatDoor
