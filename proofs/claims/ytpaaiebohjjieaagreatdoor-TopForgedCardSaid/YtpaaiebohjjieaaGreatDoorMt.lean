/-
  Steps on the way to a key, plain.
-/
import Derived.Test.YtpaaiebohjjieaaGreatDoorMs
import Derived.Test.YtpaaiebohjjieaaGreatDoorMp
import Derived.Test.YtpaaiebohjjieaaGreatDoorMi
import Derived.Test.YtpaaiebohjjieaaGreatDoorMj
import Derived.Test.YtpaaiebohjjieaaGreatDoorMk
import Derived.Test.YtpaaiebohjjieaaGreatDoorMm
import Derived.Test.YtpaaiebohjjieaaGreatDoorMr
import Derived.Test.YtpaaiebohjjieaaGreatDoorMl
import Derived.Test.YtpaaiebohjjieaaGreatDoorMn
import Derived.Test.YtpaaiebohjjieaaGreatDoorMo
namespace Go.Proofs.YtpaaiebohjjieaaGreatDoor
open Go Sx
set_option maxRecDepth 20000
theorem aiB {l:List Rw}(h:dI 13 l):getD (ctext 13 l)=dR 13 l:=by
 by_cases e:l=[]
 ·subst e;exact kS (BT 13)
 ·exact kS (jC (Nat.le_refl _) h e)
theorem CG: ∀ {a b:List UInt8},Op.bytesLess b a=false->(Op.bytesLess a b||decide (a=b))=true
 | [],[],_=>rfl
 | [],_::_,_=>rfl
 | _::_,[],h=>by cases h
 | a::r,b::s,h=>by
   obtain⟨h1,h2⟩:=vH.1 h;rw[ue];by_cases e:a=b
   ·subst e;have:=CG (h2 rfl);rw[Bool.or_eq_true,decide_eq_true_eq] at this;rcases this with h | h
    ·rw[h];simp
    ·rw[h];simp
   ·have:a<b:=UInt8.lt_of_le_of_ne h1 e;rw[decide_eq_true this];rfl
theorem SE {a b:List UInt8}:(Op.bytesLess a b||decide (a=b))=true↔Op.bytesLess b a=false:=⟨FT,CG⟩
theorem ae8 {fr to p:List UInt8}:hasB fr to p=true↔Op.bytesLess p (ay fr)=false/\Op.bytesLess (ay to) p=false:=by unfold hasB;rw[Bool.and_eq_true,SE,Bool.not_eq_true']
theorem JO {p s:List UInt8}:preB p s=true↔∃ u,s=p++u:=by
 unfold preB;rw[Bool.and_eq_true,decide_eq_true_eq,decide_eq_true_eq];constructor
 ·rintro⟨_,h⟩;exact⟨s.drop p.length,by rw[← h,List.length_take,← h];simp[List.take_append_drop]⟩
 ·rintro⟨u,rfl⟩;exact⟨by simp,by simp⟩
theorem WR {fr to p:List UInt8}:eo fr to p=true↔Op.bytesLess (ay to) p=false/\(Op.bytesLess p (ay fr)=false∨∃ u,ay fr=p++u):=by unfold eo;rw[Bool.and_eq_true,SE,Bool.or_eq_true,Bool.not_eq_true',JO]
theorem agu {a b:List UInt8}(h:ay a=ay b):a=b:=by rw[← rH a,h,rH]
def Ju (x:Nd)(q:List UInt8):Option (Nat×List UInt8):=if x.k=2 then(bif preB x.p q then some (0,q.drop x.p.length)else none)else if x.k=3 then(match q with
 | []=>none
 | b::q'=>some (b.toNat,q'))else none
theorem abW {key t:List UInt8}:eo key key t=true↔∃ u,ay key=t++u:=by
 rw[WR];constructor
 ·rintro⟨h1,h2 | h2⟩
  ·have:=CG h1;rw[h2,Bool.false_or,decide_eq_true_eq] at this;exact⟨[],by rw[List.append_nil];exact this.symm⟩
  ·exact h2
 ·rintro⟨u,h⟩;exact⟨by rw[h];exact EM t u,.inr ⟨u,h⟩⟩
theorem FM {α:Type}{f:Nat->List α}{k:Nat}: ∀ {n:Nat},k<n->(∀ i,i<n->i≠k->f i=[])->(List.range n).flatMap f=f k
 | 0,h,_=>absurd h (Nat.not_lt_zero _)
 | n+1,h,h'=>by
   rw[Xt];by_cases e:k=n
   ·subst e;rw[xx fun i hi=>h' i (by have:=List.mem_range.1 hi;omega) (by have:=List.mem_range.1 hi;omega),List.nil_append]
   ·rw[FM (by omega) fun i hi=>h' i (by omega),h' n (Nat.lt_succ_self n) (fun e'=>e e'.symm),List.append_nil]
theorem aev {m:Nat}{l:List Rw}:(dR (m+1) l).k=3/\(dR (m+1) l).p=[]∨(dR (m+1) l).k=2/\(∀ i,0<i->bF l i=[])∨(dR (m+1) l).k≠2/\(dR (m+1) l).k≠3/\∀ i,bF l i=[]:=by
 match l with
 | []=>exact .inr (.inr ⟨by show(0:Int)≠2;decide,by show(0:Int)≠3;decide,fun _=>rfl⟩)
 | [_]=>exact .inr (.inr ⟨by show(1:Int)≠2;decide,by show(1:Int)≠3;decide,fun _=>rfl⟩)
 | r::s::t =>
   have e:dR (m+1) (r::s::t)=iZ (fun l'=>if l'=[] then [] else gu (dQ (dR m l'))) (r::s::t):=rfl
   rw[e];unfold iZ;dsimp only;by_cases hk:0<cz r.1 ((s::t).getLastD r).1
   ·rw[if_pos hk];exact .inr (.inl ⟨rfl,fun i hi=>by rw[dH,if_pos hk,if_neg (by omega)]⟩)
   ·rw[if_neg hk];exact .inl ⟨rfl,rfl⟩
theorem af9 {key:List UInt8}{m:Nat}{l:List Rw}{p q:List UInt8}(h:ay key=p++q):match Ju (dR (m+1) l) q with
  | none=>∀ i,i<16->bF l i=[]∨eo key key (va (dR (m+1) l) p i)=false
  | some (k,q')=>k<16/\ay key=va (dR (m+1) l) p k++q'/\∀ i,i<16->i≠k->bF l i=[]∨eo key key (va (dR (m+1) l) p i)=false:=by
 have eT: ∀ i,va (dR (m+1) l) p i=p++(if(dR (m+1) l).k=3 then(dR (m+1) l).p++[UInt8.ofNat i] else(dR (m+1) l).p):=fun i=>by unfold va cat;split<;>simp[List.append_assoc]
 have off: ∀ i,¬ (∃ u,q=(if(dR (m+1) l).k=3 then(dR (m+1) l).p++[UInt8.ofNat i] else(dR (m+1) l).p)++u)->eo key key (va (dR (m+1) l) p i)=false:=fun i hn=>by
  cases hb:eo key key (va (dR (m+1) l) p i)with
  | false=>rfl
  | true =>obtain⟨u,e⟩:=abW.1 hb;rw[h,eT,List.append_assoc] at e;exact absurd ⟨u,List.append_cancel_left e⟩ hn
 unfold Ju;rcases aev (m:=m) (l:=l)with ⟨k3,kp⟩ | ⟨k2,kz⟩ | ⟨k2,k3,kz⟩
 ·have of: ∀ {b:UInt8} {q':List UInt8},q=b::q'->∀ i,i<16->i≠b.toNat->eo key key (va (dR (m+1) l) p i)=false:=fun hq i hi hne=>off i fun⟨u,e⟩=>by rw[if_pos k3,kp,hq] at e;injection e with e _;have:=congrArg UInt8.toNat e;rw[UInt8.toNat_ofNat'] at this;omega
  rw[if_neg (by rw[k3];decide),if_pos k3];cases q with
  | nil=>exact fun i _=>.inr (off i fun⟨u,e⟩=>by rw[if_pos k3,kp] at e;cases e)
  | cons b q =>refine⟨xV key b (by rw[h];exact List.mem_append_right _ (List.mem_cons_self ..)),?_,fun i hi hne=>.inr (of rfl i hi hne)⟩;rw[h,eT,if_pos k3,kp,List.append_assoc,UInt8.ofNat_toNat];rfl
 ·have hk3: ¬ (dR (m+1) l).k=3:=by rw[k2];decide
  rw[if_pos k2];cases hb:preB (dR (m+1) l).p q with
  | true =>obtain⟨u,e⟩:=JO.1 hb;refine⟨by decide,?_,fun i _ hne=>.inl (kz i (by omega))⟩;rw[eT,if_neg hk3,show q.drop (dR (m+1) l).p.length=u by rw[e];simp,List.append_assoc,← e];exact h
  | false=>exact fun i _=>.inr (off i fun⟨u,e⟩=>by rw[if_neg hk3] at e;rw[JO.2 ⟨u,e⟩] at hb;cases hb)
 ·rw[if_neg k2,if_neg k3];exact fun i _=>.inl (kz i)
theorem PR {key t:List UInt8}:hasB key key t=true↔t=ay key:=by
 rw[ae8];constructor
 ·rintro⟨h1,h2⟩;have:=CG h1;rw[h2,Bool.false_or,decide_eq_true_eq] at this;exact this.symm
 ·rintro rfl;exact⟨pq _,pq _⟩
theorem Md {m:Nat}{l:List Rw}(h:dI (m+1) l)(hl:l≠[]):(dR (m+1) l).k=3/\(dR (m+1) l).p=[]∨(dR (m+1) l).k=2/\(dR (m+1) l).v=[]∨(dR (m+1) l).k=1/\(dR (m+1) l).v≠[]:=by
 match l,hl,h with
 | [r],_,h=>exact .inr (.inr ⟨rfl,fun e=>by have:=(h.val r (List.mem_cons_self ..)).1;rw[show r.2=[] from e] at this;cases this⟩)
 | r::s::t,_,_ =>
   have e:dR (m+1) (r::s::t)=iZ (fun l'=>if l'=[] then [] else gu (dQ (dR m l'))) (r::s::t):=rfl
   rw[e];unfold iZ;dsimp only;split
   ·exact .inr (.inl ⟨rfl,rfl⟩)
   ·exact .inl ⟨rfl,rfl⟩
theorem acM (x:Nd)(q:List UInt8)(hq: ∀ b,b∈ q->b.toNat<16):(Ju x q=none->br x q=[])/\∀ i q',Ju x q=some (i,q')->br x q=x.r i/\(x.r i≠[]->cj x q=q'):=by
 unfold Ju cj br;by_cases k2:x.k=2
 ·have k3: ¬ x.k=3:=by omega
  rw[if_pos k2,if_neg k3,if_pos k2,if_neg k3];cases hb:preB x.p q with
  | true =>refine⟨(fun h=>by cases h),fun i q' h=> ?_⟩;injection h with h;injection h with h1 h2;subst h1;subst h2;exact⟨rfl,fun hn=>if_neg hn⟩
  | false=>exact⟨fun _=>rfl,(fun i q' h=>by cases h)⟩
 ·rw[if_neg k2];by_cases k3:x.k=3
  ·rw[if_pos k3,if_pos k3,if_pos k3];cases q with
   | nil=>exact⟨fun _=>if_neg fun h=>h.1 rfl,(fun i q' h=>by cases h)⟩
   | cons b q =>refine⟨(fun h=>by cases h),fun i q' h=> ?_⟩;injection h with h;injection h with h1 h2;subst h1;subst h2;have hb:=hq b (List.mem_cons_self ..);have e:ai (b::q) 0=(b.toNat:Int):=rfl;rw[if_pos ⟨(fun h=>by cases h),by rw[e];omega⟩,e];exact⟨rfl,fun hn=>if_neg hn⟩
  ·rw[if_neg k3,if_neg k3,if_neg k2];exact⟨fun _=>rfl,(fun i q' h=>by cases h)⟩
def Iz (n:Nat)(f g:Nat->List UInt8)(k:List UInt8):Option Rw:=(cm n f g).find? fun e=>decide (e.1=k)
def tV (n:Nat)(f g:Nat->List UInt8)(k:List UInt8):Bool:=(Iz n f g k).isSome
def xy (n:Nat)(f g:Nat->List UInt8)(k:List UInt8):List UInt8:=((Iz n f g k).getD ([],[])).2
def apU (n:Nat)(f g:Nat->List UInt8)(k:List UInt8):b7:=.ret (.bL [.str false (xy n f g k),.bool false (tV n f g k)])
theorem R8: ∀ {n:Nat} {f g:Nat->List UInt8} {k:List UInt8},(∀ i,i<n->f i≠k)->Iz n f g k=none:=fun {n f g k} h=>by unfold Iz;rw[List.find?_eq_none];intro e he;unfold cm at he;obtain⟨i,hi,rfl⟩:=List.mem_map.1 he;simpa using h i (List.mem_range.1 hi)
theorem R9 {f g:Nat->List UInt8}{k:List UInt8}{i:Nat}(h: ∀ j,j<i->f j≠k)(e:f i=k): ∀ {n:Nat},i<n->Iz n f g k=some (k,g i)
 | 0,hi=>absurd hi (Nat.not_lt_zero _)
 | n+1,hi=>by
   have el:cm (n+1) f g=cm n f g++[(f n,g n)]:=by unfold cm;rw[List.range_succ,List.map_append];rfl
   unfold Iz;rw[el,List.find?_append];by_cases h':i<n
   ·rw[show(cm n f g).find? (fun e=>decide (e.1=k))=some (k,g i)from R9 h e h'];rfl
   ·obtain rfl:i=n:=by omega
    rw[show(cm i f g).find? (fun e=>decide (e.1=k))=none from R8 h]
    simp[e]
theorem akd {n:Nat}{f g:Nat->List UInt8}{k:List UInt8}:Iz n f g k=(cO k k (cm n f g)).head?:=by unfold Iz cO;rw[List.head?_filter];congr 1;funext e;rw[Bool.eq_iff_iff,decide_eq_true_eq,PR];exact⟨fun h=>by rw[h],fun h=>agu h⟩
def aqm:List AZ:=[.of (.slice dE),.of .one]
def findSpec (vs:List SV)(l:List Seen):Option (Prop×b7):=match vs,l with
 | [_,.str false k],[⟨_,_,_,n,_,[.str f,.str g]⟩]=>some (n<9223372036854775808,apU n f g k)
 | _,_=>none
theorem aeX {n:Nat}{f g:Nat->List UInt8}{k:List UInt8}{v:List UInt8}{l l':Bool}{r:Option Rw}(h:Iz n f g k=r)(hv:(r.getD ([],[])).2=v)(b:Bool)(hb:r.isSome=b):ah (.bL [.str l v,.bool l' b]) (.bL [.str false (xy n f g k),.bool false (tV n f g k)]):=fun E=>by unfold xy tV;rw[h,hv,hb];rfl
noncomputable def amj (n:Nat)(f:Nat->List UInt8)(k:List UInt8):gF:={cF with aR:=fun h=>if h=28 then [(2,always (B3 8 n fun i=>!decide (f i=k)))] else []}
theorem anA (n:Nat)(f:Nat->List UInt8)(k:List UInt8):Sx.Good Tryz.prog (amj n f k):=.of bO fO bt
theorem alI (k:List UInt8)(n:Nat)(f g:Nat->List UInt8)(z:Bool)(o c:Nat)(key:Option Nat):gS (uI Da (Pl.s 4 x4) Pl.t) (i7 (amj n f k) 9 Tryz.f9 [.cC 0 2 z o 0 n c,.str false k] [jP z o c n f g key] (apU n f g k)) ((∃(a:Nat),zW n (fun a=>not (eV (f a) k)) a/\fh a)/\(∀(a:Nat),zW n (fun a=>not (eV (f a) k)) a->Fk (yd a n) (ak (kE a n) (eJ o (bS a) n) (Fk (f (bS a)=k) (bf (ah lP (cQ (ax (xy n f g k)) (dM (tV n f g k)) List.nil)) (ak (kE a n) (eJ o (bS a) n) (gi (uJ (bS a) g) (cQ (ax (xy n f g k)) (dM (tV n f g k)) List.nil) i9)) (NI a) 0) (fN a (fun b=>cg n b n a (zW n (fun a=>not (eV (f a) k)) b)/\gU a b)))) (ah lP (cQ (ax (xy n f g k)) (dM (tV n f g k)) List.nil)))):=⟨by kernel_rfl,by kernel_rfl⟩
def D6 (key:List UInt8)(y:Nd)(q:List UInt8):List (List UInt8×List UInt8):=if iJ y q=true then [(key,jm y q)] else []
theorem VD {m:Nat}{l:List Rw}{i:Nat}(hi:i<16)(hk:bF l i≠[])(hs: ¬ (ctext m (bF l i)).length<32):ctext m (bF l i)∈ gr (m+1) l:=by unfold gr;refine List.mem_flatMap.2 ⟨i,List.mem_range.2 hi,?_⟩;rw[if_neg hk,if_neg hs];exact List.mem_append_left _ (List.mem_cons_self ..)
theorem OG {key:List UInt8}{w:Wy}{A:List (List UInt8)}(same: ∀ i t,i<w.n->t∈ A->cT (w.f i)=cT t->w.f i=t): ∀ {m:Nat} {l:List Rw} {p q:List UInt8} {u j:Nat} {y:Nd} {r:List UInt8} {v:Nat},m<=13->dI m l->(∀ t,t∈ gr m l->t∈ A)->ay key=p++q ->
  Lx w j (dR m l) q u=some (y,r,v)->mw key key p l=D6 key y r
 | _,_,_,_,_,0,_,_,_,_,_,_,_,h=>by cases h
 | 0,l,p,q,u,j+1,y,r,v,_,hr,_,_,h=>by
   have e:=acw hr;subst e;have e:br (dR 0 []) q=[]:=rfl
   have eG:Lx w (j+1) (dR 0 []) q u=if br (dR 0 []) q=[] then some (dR 0 [],q,u)else match yT (w.on u) (br (dR 0 []) q)with
    | none=>none
    | some (y,u')=>Lx w j y (cj (dR 0 []) q) u':=rfl
   rw[eG,if_pos e] at h;injection h with h;injection h with h1 h2;subst h1;injection h2 with h2 h3;subst h2;rfl
 | m+1,l,p,q,u,j+1,y,r,v,hm,hr,hA,hp,h=>by
   have hN:=af9 (m:=m) (l:=l) hp;obtain⟨s0,s1⟩:=acM (dR (m+1) l) q fun b hb=>xV key b (by rw[hp];exact List.mem_append_right _ hb)
   have eG:Lx w (j+1) (dR (m+1) l) q u=if br (dR (m+1) l) q=[] then some (dR (m+1) l,q,u)else match yT (w.on u) (br (dR (m+1) l) q)with
    | none=>none
    | some (y,u')=>Lx w j y (cj (dR (m+1) l) q) u':=rfl
   rw[eG] at h;by_cases hl:l=[]
   ·subst hl;rw[if_pos (show br (dR (m+1) []) q=[] from rfl)] at h
    injection h with h;injection h with h1 h2;subst h1;injection h2 with h2 h3;subst h2;rfl
   have eM:=Ng key key p hl hr;have own:ace key key p (dR (m+1) l)=if(dR (m+1) l).v≠[]/\(dR (m+1) l).p=q then [(key,(dR (m+1) l).v)] else []:=by
    unfold ace;by_cases hv:(dR (m+1) l).v=[]
    ·rw[if_pos hv,if_neg fun h=>h.1 hv]
    ·rw[if_neg hv];by_cases hq:(dR (m+1) l).p=q
     ·have e:cat p (dR (m+1) l).p=ay key:=by rw[hp,hq];rfl
      rw[if_pos (PR.2 e),e,rH,if_pos ⟨hv,hq⟩]
     ·rw[if_neg (show ¬ hasB key key (cat p (dR (m+1) l).p)=true from fun h=>hq (List.append_cancel_left ((PR.1 h).trans hp))),if_neg fun h=>hq h.2]
   have stop:br (dR (m+1) l) q=[]->(∀ i,i<16->bF l i=[]∨eo key key (va (dR (m+1) l) p i)=false)->mw key key p l=D6 key y r:=fun h1 h3=>by
    rw[if_pos h1] at h;injection h with h;injection h with h4 h2;injection h2 with h2 h5;rw[← h4,← h2,eM,xx fun i hi=> ?_,List.append_nil,own]
    ·have hc:iJ (dR (m+1) l) q=true↔((dR (m+1) l).v≠[]/\(dR (m+1) l).p=q):=by
      unfold iJ;simp only[Bool.or_eq_true,Bool.and_eq_true,decide_eq_true_eq,Bool.not_eq_true',decide_eq_false_iff_not];rcases Md hr hl with ⟨a,b⟩ | ⟨a,b⟩ | ⟨a,b⟩
      ·constructor
       ·rintro(⟨h,_⟩ | ⟨_,h,h'⟩)
        ·omega
        ·exact⟨h',by rw[b,h]⟩
       ·rintro⟨h,h'⟩;exact .inr ⟨a,by rw[← h',b],h⟩
      ·constructor
       ·rintro(⟨h,_⟩ | ⟨h,_⟩)<;>omega
       ·rintro⟨h,_⟩;exact absurd b h
      ·constructor
       ·rintro(⟨_,h⟩ | ⟨h,_⟩)
        ·exact⟨b,h⟩
        ·omega
       ·rintro⟨_,h⟩;exact .inl ⟨a,h⟩
     unfold D6;by_cases hb:iJ (dR (m+1) l) q=true
     ·rw[if_pos hb,if_pos (hc.1 hb)];unfold jm;rw[hb];rfl
     ·rw[if_neg hb,if_neg fun h=>hb (hc.2 h)]
    ·rcases h3 i (List.mem_range.1 hi)with e | e
     ·rw[e];rfl
     ·exact EJ e _
   cases hn:Ju (dR (m+1) l) q with
   | none =>rw[hn] at hN;exact stop (s0 hn) hN
   | some z =>
     obtain⟨i,q'⟩:=z;rw[hn] at hN;dsimp only at hN;obtain⟨hi,hpk,hoff⟩:=hN;obtain⟨t1,t2⟩:=s1 i q' hn;have ref:=Hl m l hi;by_cases hk:bF l i=[]
     ·rw[if_pos hk] at ref;refine stop (t1.trans ref) fun a ha=> ?_;by_cases e:a=i
      ·subst e;exact .inl hk
      ·exact hoff a ha e
     ·rw[if_neg hk] at ref;have ho:=oU hr i;have hv:=jC (m:=m) (by omega) ho hk;have hk0:=aeu ho hk;have ne:(dR (m+1) l).r i≠[]:=by rw[ref];exact(Jj hv hk0).2
      have notme: ¬ ((dR (m+1) l).v≠[]/\(dR (m+1) l).p=q):=by
       rintro⟨hv,e⟩;unfold Ju at hn;rcases Md hr hl with ⟨a,b⟩ | ⟨a,b⟩ | ⟨a,b⟩
       ·rw[b] at e;subst e;rw[if_neg (by omega),if_pos a] at hn;cases hn
       ·exact hv b
       ·rw[if_neg (by omega),if_neg (by omega)] at hn;cases hn
      have eM':mw key key p l=mw key key (va (dR (m+1) l) p i) (bF l i):=by
       rw[eM,own,if_neg notme,List.nil_append,FM hi fun a ha hne=> ?_];rcases hoff a ha hne with e | e
       ·rw[e];rfl
       ·exact EJ e _
      rw[if_neg (by rw[t1];exact ne),t1,t2 ne,ref] at h;have ht: ∀ z u',yT (w.on u) (gu (ctext m (bF l i)))=some (z,u')->z=dR m (bF l i):=fun z u' h=>by
       unfold yT at h;by_cases hs:(ctext m (bF l i)).length<32
       ·rw[oJ hs,if_pos (show cG (ctext m (bF l i))=true from(IN hv hk0 hs).1)] at h
        injection h with h;injection h with h _;rw[← h];exact kS hv
       ·obtain⟨h1,h2,h3⟩:=qZ hs;rw[if_neg (fun h=>by have:=vz h;omega),h1,h2,Bool.true_and] at h;split at h
        ·rename_i hto;injection h with h;injection h with h _;unfold iB at hto;rw[Bool.and_eq_true,Bool.and_eq_true,decide_eq_true_eq,decide_eq_true_eq] at hto;have hu:(u:Int)<(w.n:Int):=hto.1;have hsh:cT (w.f u)=cT (ctext m (bF l i)):=hto.2.1;have hin:ctext m (bF l i)∈ A:=hA _ (VD hi hk hs);have e:=same u _ (by omega) hin hsh;rw[← h,← kS hv];show getD (w.f u)=_;rw[e]
        ·cases h
      rw[eM'];cases hw:yT (w.on u) (gu (ctext m (bF l i)))with
      | none=>rw[hw] at h;cases h
      | some z =>obtain⟨z,u'⟩:=z;rw[hw] at h;have e:=ht z u' hw;subst e;exact OG same (by omega) ho (fun t ht=>hA t (L8 hi hk ht)) hpk h
theorem abz {l:List (List UInt8×List UInt8)}{w:Wy}{key:List UInt8}{y:Nd}{q:List UInt8}(hl:OM l)(hroot:w.root=cT (ctext 13 (rowsOf l)))(h:eB w (ay key)=some (y,q)) :
  D6 key y q=cO key key l∨∃ i t,i<w.n/\t∈ j5 13 (rowsOf l)/\cw (w.f i) t=true:=by
 by_cases hC: ∃ i t,i<w.n/\t∈ j5 13 (rowsOf l)/\cw (w.f i) t=true
 ·exact .inr hC
 have same: ∀ i t,i<w.n->t∈ j5 13 (rowsOf l)->cT (w.f i)=cT t->w.f i=t:=fun i t hi ht e=>by
  by_cases e1:w.f i=t
  ·exact e1
  ·exact absurd ⟨i,t,hi,ht,by rw[cw,decide_eq_false e1,decide_eq_true e];rfl⟩ hC
 left;have hr:=D9 hl;unfold eB at h;split at h
 ·cases h
 ·split at h
  ·rename_i y1 q1 u hs;split at h
   ·cases h
   ·injection h with h;injection h with h1 h2;subst h1;subst h2;unfold fQ at hs;cases ht:iB (w.on 0) w.root with
    | false=>rw[ht] at hs;cases hs
    | true =>rw[ht,cond_true] at hs;unfold iB at ht;rw[Bool.and_eq_true,Bool.and_eq_true,decide_eq_true_eq,decide_eq_true_eq] at ht;have h0:(0:Int)<(w.n:Int):=ht.1;have h1:cT (w.f 0)=w.root:=ht.2.1;have e0:=same 0 _ (by omega) (List.mem_cons_self ..) (h1.trans hroot);rw[e0,aiB hr] at hs;have:=OG (p:=[]) same (Nat.le_refl _) hr (fun t ht=>List.mem_cons_of_mem _ ht) rfl hs;rw[← this,FR]
  ·cases h
theorem Oo (L L':List Rw):i5 L.length (fun i=>(L.getD i ([],[])).1) (fun i=>(L.getD i ([],[])).2) L'.length (fun i=>(L'.getD i ([],[])).1) (fun i=>(L'.getD i ([],[])).2)=decide (L=L'):=by
 rw[Bool.eq_iff_iff,decide_eq_true_eq];unfold i5 Im;rw[Bool.and_eq_true,decide_eq_true_eq,List.all_eq_true];constructor
 ·rintro⟨h1,h2⟩;refine List.ext_getElem (by omega) fun i i1 i2=> ?_;have:=h2 i (List.mem_range.2 i1);rw[Bool.and_eq_true,decide_eq_true_eq,decide_eq_true_eq] at this;simp only[List.getD_eq_getElem?_getD,List.getElem?_eq_getElem i1,List.getElem?_eq_getElem i2,Option.getD_some] at this;exact Prod.ext this.1 this.2
 ·rintro rfl;exact⟨rfl,fun i _=>by simp⟩
namespace Xr
theorem Qt {x:Xr}(h:x.ask=false):x.hit=false:=by unfold hit;rw[h];rfl
theorem Yo {x:Xr}(h: ¬ fR x.n x.f x.g=0):x.ask=false:=by unfold ask;rw[decide_eq_false h];rfl
theorem adJ {x:Xr}(h:(eE (gC x.n x.f x.g) x.sp).isSome=false):x.ask=false:=by unfold ask;rw[h];simp
theorem adK {x:Xr}(h:x.told=x.bet):x.ask=false:=by unfold ask;rw[decide_eq_true h];simp
theorem Yn {x:Xr}(h1:fR x.n x.f x.g=0)(h2:(eE (gC x.n x.f x.g) x.sp).isSome=true)(h3: ¬ x.told=x.bet):x.ask=true:=by unfold ask;rw[decide_eq_true h1,h2,decide_eq_false h3];rfl
theorem afe {x:Xr}(ha:x.ask=true){i j:Nat}(hi:i<x.m)(hj:j<x.U.length)(h:cw (x.h i) (x.U.getD j [])=true):x.hit=true:=by
 have h1:x.LD (x.h i) j=false:=by unfold LD;rw[h];rfl
 have h2:x.free i=false:=List.all_eq_false.2 ⟨j,List.mem_range.2 hj,by rw[h1];decide⟩;have h3:(List.range x.m).all x.free=false:=List.all_eq_false.2 ⟨i,List.mem_range.2 hi,by rw[h2];decide⟩;unfold hit;rw[ha,h3];rfl
theorem akm {x:Xr}{i:Nat}(h:gd x.m x.free i)(hi: ¬ (i:Int)<(x.m:Int)):x.hit=false:=by unfold hit;rw[h.done hi];simp
structure Ok (x:Xr):Prop where
 n:x.n<9223372036854775808
 few:x.sp.th
end Xr
theorem acH {root:List UInt8}{w:Sp}{l:List Rw}(h:eE root w=some l):l.length<=400:=by
 unfold eE at h;cases hc:(leB w.fr w.to&&(decide (0<w.n)&&(decide (w.n<=200)&&decide (cT (w.f 0)=root))))with
 | false=>rw[hc] at h;cases h
 | true =>
   rw[hc,cond_true] at h;split at h
   ·rename_i s hs;cases hsame:nT s.ns.length (fun i=>s.ns.getD i []) w.n w.f with
    | false=>rw[hsame] at h;cases h
    | true =>
      rw[hsame,cond_true] at h;injection h with h;subst h;unfold sj at hs;cases hL:hJ w.full root with
      | false=>rw[hL] at hs;cases hs
      | true =>rw[hL,cond_true] at hs;have k1:=(HK w.full 401 _ _ _ _ (Ow w.full root) hs).1;exact Nat.le_trans k1.fs k1.lk
   ·cases h
theorem als {root:List UInt8}{w:Sp}(h:(eE root w).isSome=true):w.n<=200:=by
 unfold eE at h;cases hc:(leB w.fr w.to&&(decide (0<w.n)&&(decide (w.n<=200)&&decide (cT (w.f 0)=root))))with
 | false=>rw[hc] at h;cases h
 | true =>simp only[Bool.and_eq_true,decide_eq_true_eq] at hc;exact hc.2.2.1
theorem aaA (root:List UInt8)(w:Sp):(DU root w).length<=400:=by
 unfold DU;split
 ·rename_i l e;exact acH e
 ·exact Nat.zero_le _
theorem HS: ∀ {m:Nat} {l:List Rw},m<=13->dI m l->∀ t,t∈ gr m l->t.length<=700
 | 0,_,_,_,t,ht=>by cases ht
 | m+1,l,hm,h,t,ht=>by
   unfold gr at ht;obtain⟨i,_,hi⟩:=List.mem_flatMap.1 ht;by_cases hk:bF l i=[]
   ·rw[if_pos hk] at hi;cases hi
   ·rw[if_neg hk,List.mem_append] at hi;have hr:dI m (bF l i):=oU h i;rcases hi with hi | hi
    ·split at hi
     ·cases hi
     ·rw[List.mem_singleton] at hi;subst hi;exact qE (by omega) hr hk
    ·exact HS (by omega) hr t hi
theorem ady {l:List Rw}(h:dI 13 l)(t:List UInt8)(ht:t∈ j5 13 l):t.length<=700:=by
 unfold j5 at ht;rcases List.mem_cons.1 ht with e | e
 ·subst e;exact FJ h
 ·exact HS (Nat.le_refl _) h t e
theorem amh {x:Xr}(h:fR x.n x.f x.g=0)(j:Nat):(x.U.getD j []).length<=700:=by
 rw[List.getD_eq_getElem?_getD];cases e:x.U[j]? with
 | none=>exact Nat.zero_le _
 | some t=>exact ady (H8 h) t ((uX _ _ rfl t).1 (List.mem_of_getElem? e))
theorem Lv (x:Xr)(hx:x.Ok)(k k':Option Nat):aq (i7 (adZ x) 13 Tryz.f13 x.args (x.seen k k') (exA x)):=by
 refine aq.Qz (ac4 x k k') (by delta Fk Bk I6 Ix Er NI cn bf aX aF ak cY aI aL cS fK ax gQ fj cr aS dY fo cQ k8 ij dZ cI cg mz gU fh jb jh fN fA i9 pL dS gA lF c9 c6 bS uJ eJ jw lS pR kE lq ak4 Xs ala aoO F2 NJ Zp JU Aw F9 TW ZH Gl Kr ahN aam Oc;exact rfl) ?_;have esp:(⟨x.fr,x.to,x.m,x.h,x.z',x.o',x.c',fun _=>false,fun _=>0⟩:Sp)=x.sp:=rfl;simp only[Int.toNat_natCast,Nat.zero_add,Nat.add_zero,Nat.le_refl,true_and,and_true,decide_eq_true_eq,decide_eq_false_iff_not,esp];have no:x.hit=false->(x.hit=true->∃(p:List UInt8×List UInt8),(cw p.1 p.2=true/\(p.1.length<=1000/\p.2.length<=1000))/\ah (SV.bL [SV.str true [],SV.str true [],SV.bool true false]) (SV.bL [SV.str false p.1,SV.str false p.2,SV.bool true true]))/\(x.hit=false->ah (SV.bL [SV.str true [],SV.str true [],SV.bool true false]) (SV.bL [SV.str true [],SV.str true [],SV.bool true false])):=fun h=>⟨fun e=>absurd (h.symm.trans e) (by decide),fun _ _=>rfl⟩
 have hs:=Oo x.told x.bet;have hl:=aaA (gC x.n x.f x.g) x.sp;refine⟨hx.n,fun h0=>⟨hx.few,fun h1 c1 hc1=>⟨?_,fun c2 hc2=>⟨by omega,fun h2=>no (Xr.Qt (Xr.adK ?_)),fun h2=>⟨hx.n,fun _ c3 hc3=>⟨⟨0,gd.zero _ _,rfl⟩,fun i hi=>⟨fun hlt=> ?_,fun hge=>no (Xr.akm hi hge)⟩⟩,fun h3=> ?_⟩⟩⟩,fun h1=>no (Xr.Qt (Xr.adJ h1))⟩,fun h0=> ?_⟩
 ·obtain⟨he,h40⟩:=m9 h0;refine⟨by omega,fun i hi=> ?_,hx.few.fr,hx.few.to⟩;have:=(he.key (x.f i,x.g i) (by unfold cm;exact List.mem_map.2 ⟨i,List.mem_range.2 hi,rfl⟩)).2;have:(x.f i).length<=6:=this;omega
 ·exact of_decide_eq_true (hs.symm.trans h2)
 ·have hlt':(i:Int)<(x.m:Int):=hlt;have hlt:i<x.m:=by omega
  have hsm:x.m<=1000:=Nat.le_trans (als h1) (by decide);have hask:=Xr.Yn h0 h1 (of_decide_eq_false (hs.symm.trans h2));have hf:=hx.few.f i hlt;have hf:(x.h i).length<=1000:=hf;have hU:x.U.length<=600:=by have h1:=DJ _ (j5 13 (cm x.n (fun i=>ay (x.f i)) x.g)) rfl;have h2:=OQ 13 (cm x.n (fun i=>ay (x.f i)) x.g);have h3:=(m9 h0).2;rw[iN] at h2;show(dc _).length<=_;omega
  refine⟨⟨by omega,hlt'⟩,hlt,⟨0,gd.zero _ _,rfl⟩,fun j hj=>⟨fun hl'=> ?_,fun hg=> ?_⟩⟩
  ·have hl':(j:Int)<(x.U.length:Int):=hl';have hjl:j<x.U.length:=by omega
   have h700:=amh h0 j;refine⟨⟨by omega,hl'⟩,hjl,⟨by omega,by show(x.U.getD j []).length<_;omega⟩,fun hc=> ?_,fun hc=>⟨⟨by omega,by omega⟩,j+1,⟨hj.next hl' (by unfold Xr.LD;rw[show cw (x.h i) (x.U.getD j [])=false from hc];rfl),by omega⟩,by omega⟩⟩
   have hh:=Xr.afe hask hlt hjl hc;exact⟨fun _=>⟨(x.h i,x.U.getD j []),⟨hc,hf,by show(x.U.getD j []).length<=1000;omega⟩,fun _=>rfl⟩,fun e=>by rw[hh] at e;cases e⟩
  ·have hg: ¬ (j:Int)<(x.U.length:Int):=hg;exact⟨⟨by omega,by omega⟩,i+1,⟨hi.next hlt' (hj.done hg),by omega⟩,by omega⟩
 ·exact absurd h0 h3
 ·exact⟨fun _=>no (Xr.Qt (Xr.Yo h0)),fun _=>no (Xr.Qt (Xr.Yo h0))⟩
def aoW:List AZ:=[.of (.slice dE),.agg [.one,.one],.of (.slice [.str fun _=>[]])]
def apq (vs:List SV)(l:List Seen):Option (Xr×Option Nat×Option Nat):=match vs,l with
 | [_,.agg [.str false fr,.str false to],_],[⟨k,z,o,n,c,[.str f,.str g]⟩,⟨k',z',o',m,c',[.str h]⟩]=>some (⟨n,f,g,z,o,c,fr,to,m,h,z',o',c'⟩,k,k')
 | _,_=>none
theorem amg {vs:List SV}{l:List Seen}{x:Xr}{k k':Option Nat}(h:apq vs l=some (x,k,k')):filled aoW vs l=x.args/\l=x.seen k k':=by
 unfold apq at h;split at h
 ·injection h with h;injection h with h1 h;injection h with h2 h3;subst h1;subst h2;subst h3;exact⟨rfl,rfl⟩
 ·cases h
noncomputable def V2 (vs:List SV)(l:List Seen):Option (Prop×b7):=match apq vs l with
 | some (x,_,_)=>some (x.Ok,exA x)
 | none=>none
theorem ann (x:Xr):(exA x).Ok:=fun b=>by
 cases b with
 | false=>rfl
 | true=>intro p;rfl
theorem V4:au Tryz.prog 13 (bE aoW V2):=by
 refine gq (n:=20) (fn:=Tryz.f13) Tryz.func13 (by kernel_rfl) (by kernel_rfl) ?_;intro vs l q a h hq;unfold V2 at h;split at h
 ·rename_i x k k' hx;injection h with h;injection h with h1 h2;subst h1;subst h2;obtain⟨e1,e2⟩:=amg hx;rw[e1,e2];exact⟨_,anE x,rfl,ann x,Lv x hq k k'⟩
 ·cases h
section
variable (s : List UInt8) (v w : SV) (B D E : SB) (f : Wy × List UInt8) (y h : Wh) (x : Wy) (g : Loop) (z : Option Nat) (o : Wh -> SB)
abbrev Z4:=br (Nd.again y.y) y.p
abbrev aad:=aL (x.o=qk f) aW (x.n=kI f) (x.c=f.1.c)
abbrev Z2:=SB.view x.z x.o x.n (bD x.f)
abbrev aai:=SB.view (qm f) (qk f) (kI f) (bD f.1.f)
abbrev ahS:=∃(a:Nat),List.length y.p<a/\fQ x (ay s)=Lx x a y.y y.p y.u
abbrev Uz:=aP (List.length y.p)
abbrev ahn:=ak (ahS s y x) (Nd.Good y.y) (y.u<=x.n)/\Uz y<Uz h
abbrev NY:=SB.cells (mL y.y) 19 246
abbrev aaf:=cR 1 (ax (cj (Nd.again y.y) y.p)) List.nil 9
abbrev Uw:=cR 1 (ax y.p) List.nil 9
abbrev N2:=ax x.root
abbrev T4:List SV:=lp 0 x.o 0 x.n x.c x.z::aF (qu y.u) SV.aZ List.nil
abbrev Uv:=aF (dM y.b) (ax y.v) List.nil
abbrev ZM:=iY (Sr B) (Sr D) True D (Seen.B (AR x z))
abbrev ahk:=SB.cells (aF (ax (ot f)) (lp 0 f.1.o 0 (kI f) (rR f) f.1.z) (aF (qu (aP f.1.u)) SV.aZ List.nil)) 4 287
abbrev ag5:=gp (af (aaf y) (Uw h)) (Er 4) (ot f=x.root) (aI (f.1.z=x.z) (f.1.o=x.o) aW (kI f=x.n) (rR f=x.c)) (Gw f=NI h.u) (kJ aW (af (o y) (jX (Uv h) 81)) (bH 2 (jX (aF (qu h.u) Gu List.nil) 285) (aF (bC (Gw f)) Gu List.nil) 285) (Sr (SB.loop LoopState.ready none g)) (Sr B) (Sr D) (Sr D) True (Seen.B (AR x z)))
abbrev aoL:=∃(a:Wy×List UInt8),bl (Wy.Ok a.1/\dj a.2) aW (Z4 y=a.2) (Er 4) (x.root=ot a) (x.z=qm a/\aad a x) (NI y.u=Gw a) (af (Z2 x) (aai a)) (Bk (cG a.2) (∃(b:Wh),aL (ahn s b y x) jw (bH 19 (NY b) (mL (getD a.2)) 246) (aI (af (aaf y) (Uw b)) (bH 4 (cR 4 (N2 x) (T4 b x) 287) (aF (ax (ot a)) (lp 0 (qk a) 0 (kI a) (rR a) (qm a)) (aF (bC (Gw a)) SV.aZ List.nil)) 287) (af (o y) (jX (Uv b) 81)) (Sr (wO g)) (ZM B D x z))) (iH a.2 (Bk (Km a) (∃(b:Wh),aL (ahn s b y x) jw (bH 19 (NY b) (mL (getD (a.1.f a.1.u))) 246) (aI (af (aaf y) (Uw b)) (af (ahk a) (cR 4 (N2 x) (T4 b x) 287)) (af (o y) (jX (Uv b) 81)) (Sr (wO g)) (ZM B D x z))) (∃(b:Wh),cZ (fQ x (ay s)=none/\0<Uz y) (Er false) (ag5 B D a y b x g z o) E (NY b))) (∃(b:Wh),cZ (fQ x (ay s)=none/\0<Uz y) (Er false) (ag5 B D a y b x g z o) E (NY b))))
abbrev ak9:=ak (ahS s y x) (Nd.Good y.y) (y.u<=x.n)
abbrev ahX:List (Nat×SB):=(7,wO g)::(6,c8 1 (ax (ay s)) 9)::(5,c8 1 (SV.ptr 3 true 0) 382)::(4,c8 2 v 81)::Mem.put 3 B ((3,c8 4 w 287)::(2,c8 2 v 81)::(1,c8 2 v 81)::nU 0 [AR x z])
abbrev TF:=aF (dM (iJ (Nd.again y.y) y.p)) (ax (jm (Nd.again y.y) y.p)) List.nil
abbrev JY:=Option.isSome (eB x (ay s))
abbrev TX:List (Nat×Nat):=[(1,0),(0,3)]
abbrev ahw:=∀(a:Wh),fQ x (ay s)=none->aS (dW (Wy.sb x 0 a.u (Fq 12))) (ah v w) (fj v) (JY s x)
abbrev Z3:List SV:=cn::aF SV.aO (bx 0) qg
abbrev ahF:=fA x.n (aS (dW (SB.cells (uN 3 (sW 8 0 283) (N2 x::T4 y x)) 4 287)) (ah v w) (fj v) (JY s x)) (aS (dW (GF 0 y.u x)) (jg (SV.agg (TF y)) w) (jg (SV.agg (TF y)) v) (JY s x)) (NI y.u)
abbrev ahL:=∃(a:Wh),aL (ak9 s a x) jw (bH 19 (NY a) (mL (Kf f)) 246) (aI (bH 1 (Uw a) [ax (ay s)] 9) (af (ahk f) (cR 4 (N2 x) (T4 a x) 287)) (bH 2 (jX (Uv a) 81) (aF fK cn List.nil) 81) (oG g) (ZM B D x z))
end
theorem Ya (w:Wy)(key:List UInt8)(kk:Option Nat):VC.holds (i7 (aed w key) 27 Tryz.f27 [.str false w.root,.str false key,.cC 0 1 w.z w.o 0 w.n w.c] [AR w kk] (apl w key))=((fun(a:SV)=>(fun(b:SB)=>(fun(c:SV)=>(fun(d:SB)=>(fun(e:SB)=>(fun(f:SV)=>(fun(g:SB)=>(fun(h:SV)=>(fun(i:SV)=>(fun(j:Wh->SB)=>(fun(k:Wh->SB)=>fA w.n (jx (fj c) c f (JY key w)) (dS key/\(∀(l:Loop),aI (∃(i:Wy×List UInt8),bl (c6 (Wy.Ok i.1)) aW (w.root=i.2) (Er 4) (w.root=ot i) (w.z=qm i/\aad i w) (0=sw i) (af (Z2 w) (aai i)) (Bk (yf i) (gp (dW (SB.aE (tB 2 (Cy 0 (ahX key a h b w l kk) (uB i) (Seen.B (AR w kk)) TX) 8) (GF 1 (aP (E4 i)) i.1))) (dK d) (dK d) (ahL key d g i w l kk) (∀(a:Wh),ak9 key a w->fW (Er l) True (Fk (Z4 a=[]) (ahF key c f a w) (aoL key d g e a w l kk j))) (ahw key c f w)) (aI (dW (SB.aE (tB 2 (Cy 0 (ahX key a h b w l kk) (uB i) (Seen.B (AR w kk)) TX) 8) (Wy.sb i.1 1 (E4 i) (Fq 2)))) (dK d) (dK d) (dW (SB.aE (tB 2 (Cy 0 (ahX key a h b w l kk) (uB i) (Seen.B (AR w kk)) TX) 8) (Wy.sb i.1 1 (E4 i) (Fq 2)))) (jx (fj c) c f (JY key w))))) (dK b) (dK d) (dK d) (∃(j:Wy×List UInt8),bl (c6 (Wy.Ok j.1)) aW (w.root=j.2) (Er 4) (w.root=ot j) (w.z=qm j/\aad j w) (0=sw j) (af (Z2 w) (aai j)) (Bk (yf j) (ak (ahL key d g j w l kk) (∀(a:Wh),ak9 key a w->fW (Er l) True (Fk (Z4 a=[]) (ahF key c f a w) (aoL key d g e a w l kk k))) (ahw key c f w)) (aS (dW (SB.aE (tB 2 (Cy 0 ((8,c8 19 i 246)::ahX key a h b w l kk) (uB j) (Seen.B (AR w kk)) TX) 9) (Wy.sb j.1 1 (E4 j) (Fq 2)))) (ah c f) (fj c) (JY key w)))))) 40) (fun a=>jX (TF a) 81)) (fun a=>jX (TF a) 81)) lQ) (SV.agg Z3)) (c8 2 a 81)) (fV (wS (dM (pvB (eB w (ay key)))) (ax (pvV (eB w (ay key))))))) (cR 19 (bx 0) (aF cn cn zY) 246)) (c8 1 (SV.ptr 3 true 0) 382)) (cQ Kt (bx 10) List.nil)) (SB.cells (uN 0 (SV.agg (uN 1 (lp 0 w.o 0 w.n w.c w.z) (uN 0 (N2 w) Z3))) (SV.cells (SV.agg Z3))) 4 287)) Kt):=by kernel_rfl
section
attribute [local irreducible] cT ey getD cG eA aa iB br cj iJ jm Lx fQ yT ay
set_option maxHeartbeats 1000000 in
theorem Ty (w:Wy)(hw:w.th){key:List UInt8}(hk:key.length<1099511627776)(kk:Option Nat) :
  aq (i7 (aed w key) 27 Tryz.f27 [.str false w.root,.str false key,.cC 0 1 w.z w.o 0 w.n w.c] [AR w kk] (apl w key)):=by
 refine aq.j7 (Ya w key kk) (by delta Fk Bk Sr Er NI cn bf aF bC bx qg sW ak k6 jX cR cY aI aL bH gi fK jx ax dM fj cr aS dj jg cQ fV wO oG aP c8 cU bD aW fW gp bl cZ fA dS iH aD gj dW dK uN ja zY c6 lQ iY qu kJ wS Kt ot qm qk kI rR Gw sw lp E4 yf uB jw GF Gu Kf Km Z4 aad Z2 aai ahS Uz ahn NY aaf Uw N2 T4 Uv ZM ahk ag5 aoL ak9 ahX TF JY TX ahw Z3 ahF ahL;exact rfl) ?_;dsimp only;have S: ∀ v:SV,ah v v:=fun _ _=>rfl;by_cases h40:(40:Int)<(w.n:Int)
 ·have e:eB w (ay key)=none:=by rw[eB,if_pos (by omega)]
  rw[e,decide_eq_true h40];exact⟨fun _=>⟨(fun h=>by cases h),fun _=>S _⟩,(fun h=>by cases h)⟩
 have hn: ¬ 40<w.n:=by omega
 have ok: ∀ u,u<=w.n->(w.on u).Ok:=fun u hu=>⟨by show w.n<=200;omega,hw.f,hu⟩
 have hR:eB w (ay key)=(match fQ w (ay key)with
  | some (y,q,u)=>if u<w.n then none else some (y,q)
  | none=>none):=by rw[eB,if_neg hn];rfl
 have bad:fQ w (ay key)=none->∀ {A B:Prop},B->((eB w (ay key)).isSome=true->A)/\((eB w (ay key)).isSome=false->B):=fun h A B b=>by rw[hR,h];exact⟨(fun h=>by cases h),fun _=>b⟩
 have endB: ∀ {y q u},fQ w (ay key)=some (y,q,u)->u<w.n->∀ {A B:Prop},B->((eB w (ay key)).isSome=true->A)/\((eB w (ay key)).isSome=false->B):=fun h hu A B b=>by rw[hR,h];simp only[hu,if_true];exact⟨(fun h=>by cases h),fun _=>b⟩
 have endG: ∀ {y q u},fQ w (ay key)=some (y,q,u)->¬ u<w.n->eB w (ay key)=some (y,q):=fun h hu=>by rw[hR,h];simp only[hu,if_false]
 have sH: ∀ {u h},iB (w.on u) h=true->(getD (w.f u)).Good/\u<w.n:=fun h=>⟨Lg (zf (Lb h).2.2),(Lb h).1⟩
 refine⟨fun h=>absurd (of_decide_eq_true h) h40,fun _=>⟨hk,fun R=>⟨?_,?_⟩⟩⟩
 all_goals try refine⟨rfl,rfl,rfl,?_⟩
 all_goals refine⟨(w.on 0,w.root),⟨ok 0 (Nat.zero_le _),trivial⟩,rfl,rfl,rfl,rfl,⟨rfl,rfl,rfl,rfl,rfl⟩,rfl,af.refl _,fun h0=> ?_,fun h0=> ?_⟩
 all_goals repeat refine And.intro rfl ?_
 all_goals try exact bad (by rw[acL h0]) (S _)
 all_goals
  obtain⟨hg0,hn0⟩:=sH h0;refine⟨⟨⟨getD (w.f 0),ay key,1,false,[]⟩,⟨⟨_,Nat.lt_succ_self _,XQ h0⟩,hg0,hn0⟩,rfl,af.refl _,af.refl _,af.refl _,?_⟩,fun x hx=> ?_,fun x hx=> ?_⟩
 all_goals try exact⟨rfl,bad hx (S _)⟩
 all_goals try exact⟨af.cells (fun _=>rfl) rfl,by repeat' first | exact af.refl _ | exact trivial | refine And.intro ?_ ?_⟩
 all_goals
  obtain⟨⟨m,hm,hs⟩,hg,hu⟩:=hx;rw[AT,K6,O8,O9];refine⟨rfl,trivial,trivial,fun hr=> ?_,fun hr=> ?_⟩
 all_goals try
  have hr:=of_decide_eq_true hr;have he:=akh hs hm hr;refine⟨fun h=>⟨rfl,endB he (by have:=of_decide_eq_true h;omega) (S _)⟩,fun h=>⟨rfl,?_⟩⟩;rw[endG he (by have:=of_decide_eq_false h;omega)];exact⟨fun _=>fun _=>rfl,(fun h=>by cases h)⟩
 all_goals
  have hr:=of_decide_eq_false hr;have hl:=DC hg hr;refine⟨(w.on x.u,br x.y x.p),⟨ok _ hu,U6 hg _⟩,rfl,rfl,rfl,rfl,⟨rfl,rfl,rfl,rfl,rfl⟩,rfl,af.refl _,fun h1=> ?_,fun h1=>⟨fun h2=>⟨fun h3=> ?_,fun h3=> ?_⟩,fun h2=> ?_⟩⟩
 all_goals first
  | (have hn:=Sc hs hm hr (aaK h1 (.inr h3))
     refine⟨⟨gV,cj x.y x.p,x.u,iJ x.y x.p,jm x.y x.p⟩,⟨hn,by omega⟩,rfl,af.cells (fun _=>rfl) rfl,?_⟩)
  | (have hn:=Sc hs hm hr (aaK h1 (.inl h2))
     refine⟨⟨gV,cj x.y x.p,x.u,iJ x.y x.p,jm x.y x.p⟩,⟨hn,by omega⟩,rfl,af.cells (fun _=>rfl) rfl,?_⟩)
  | refine⟨⟨getD (w.f x.u),cj x.y x.p,x.u+1,iJ x.y x.p,jm x.y x.p⟩,⟨⟨ae5 hs hm hg hr (adl h1 h2 h3),(sH h3).1,(sH h3).2⟩,Nat.succ_lt_succ hl⟩,rfl,?_⟩
  | refine⟨⟨getD (br x.y x.p),cj x.y x.p,x.u,iJ x.y x.p,jm x.y x.p⟩,⟨⟨ae5 hs hm hg hr (al9 h1),Lg (MF h1),hu⟩,Nat.succ_lt_succ hl⟩,rfl,?_⟩
 all_goals
  repeat' first
   | exact af.refl _
   | refine And.intro ?_ ?_
   | rfl
   | exact trivial
   | fail
end
end Go.Proofs.YtpaaiebohjjieaaGreatDoor
namespace Go.Proofs.YtpaaiebohjjieaaGreatDoor
open Go Sx
set_option maxRecDepth 20000
def CQ (vs:List SV)(l:List Seen):Option (Prop×b7):=match ajh vs l with
 | some (w,key,_)=>some (w.th/\key.length<1099511627776,apl w key)
 | none=>none
theorem Zi:au Tryz.prog 27 (bE shW CQ):=by
 refine gq (n:=20) (fn:=Tryz.f27) Tryz.func27 (by kernel_rfl) (by kernel_rfl) ?_;intro vs l q a h hq;unfold CQ at h;split at h
 ·rename_i w key kk hx;injection h with h;injection h with h1 h2;subst h1;subst h2;obtain⟨e1,e2⟩:=aji hx;rw[e1,e2];exact⟨_,anV w key,rfl,fun b=>by cases b<;>exact rfl,Ty w hq.1 hq.2 kk⟩
 ·cases h
theorem aem:au Tryz.prog 9 (bE aqm findSpec):=by
 refine gq (n:=20) (fn:=Tryz.f9) Tryz.func9 (by kernel_rfl) (by kernel_rfl) ?_;intro vs l q a h hq;unfold findSpec at h;split at h
 ·rename_i v k key z o n c f g;injection h with h;injection h with h1 h2;subst h1;subst h2;refine⟨_,anA n f k,rfl,rfl,aq.Qz (alI k n f g z o c key) (by delta Fk I6 Ix Er NI cn bf aF ak cY gi fK ax dM fo cQ cg mz gU fh jb fN i9 lP lF bS eV uJ eJ yd kE;exact rfl) ?_⟩;simp only[Int.toNat_natCast,Nat.zero_add];refine⟨⟨0,⟨Nat.zero_le _,fun j hj=>absurd hj (Nat.not_lt_zero _)⟩,rfl⟩,fun i hi=>⟨fun a=> ?_,fun a=> ?_⟩⟩
  ·simp only[decide_eq_true_eq] at a;have no: ∀ j,j<i->f j≠k:=fun j hj=>by have:=hi.all j hj;simpa using this
   refine⟨⟨by omega,a⟩,⟨trivial,by omega⟩,fun b=>⟨fun h=>by rw[decide_eq_true_eq] at h;omega,fun _=>⟨⟨by omega,a⟩,⟨trivial,by omega⟩,?_⟩⟩,fun b=>⟨⟨by omega,by omega⟩,i+1,⟨uY hi a (by rw[b];rfl),by omega⟩,by omega⟩⟩;exact aeX (R9 no (of_decide_eq_true b) (by omega)) rfl true rfl
  ·simp only[decide_eq_false_iff_not] at a;have e:i=n:=by have:=hi.le;omega
   subst e;exact aeX (R8 fun j hj=>by have:=hi.all j hj;simpa using this) rfl false rfl
 ·cases h
noncomputable def Xr.wy (x:Xr):Wy:=⟨gC x.n x.f x.g,x.m,x.h,x.z',x.o',x.c',0⟩
noncomputable def Xr.cl (x:Xr):Option (Nd×List UInt8):=eB x.wy (ay x.fr)
noncomputable def Xr.right (x:Xr):Bool:=(pvB x.cl==tV x.n x.f x.g x.fr&&(decide (pvV x.cl=xy x.n x.f x.g x.fr)&&true))
noncomputable def Xr.IU (x:Xr):Bool:=decide (fR x.n x.f x.g=0)&&(x.cl.isSome&& !x.right)
noncomputable def Xr.qH (x:Xr):Bool:=x.IU&& !(List.range x.m).all x.free
noncomputable def akv (x:Xr):b7:=.fork x.qH fun b=>match b with
 | true=>.all (List UInt8×List UInt8) fun p=>.req (cw p.1 p.2=true/\(p.1.length<=1000/\p.2.length<=1000)) (.ret (.bL [.str false p.1,.str false p.2,.bool true true]))
 | false=>.ret (.bL [.str true [],.str true [],.bool true false])
noncomputable def apF (x:Xr):qy:=[(11,always (A2 48 x.m x.free)),(14,fun st=>match slot st.tmps 14 with
 | some (.str _ s)=>some (one (A2 54 x.U.length (x.LD s)))
 | _=>none)]
noncomputable def WD:List (FuncId×PT):=(27,bE shW CQ)::(9,bE aqm findSpec)::WB
theorem MS:aU Tryz.prog (fun f=>aA f WD):=.cons Zi (bJ _ _) (.cons aem (bJ _ _) MR)
noncomputable def ad2 (x:Xr):gF:={cF with cM:=fun f=>aA f WD,aR:=fun h=>if h=12 then apF x else []}
theorem anJ (x:Xr):Sx.Good Tryz.prog (ad2 x):=.of bO MS bt
def Xr.afo (x:Xr):List SV:=[.cC 0 2 x.z x.o 0 x.n x.c,.str false x.fr,.cC 1 1 x.z' x.o' 0 x.m x.c']
section
variable (n m : Nat) (v : SV) (x : Xr)
abbrev Kn:Nat->List UInt8:=fun a=>x.g a
abbrev F0:=dc (j5 13 (cm x.n (fun a=>ay (x.f a)) (Kn x)))
noncomputable def TH:Wy:=Wy.mk (gC x.n (fun a=>x.f a) (Kn x)) x.m (fun a=>x.h a) x.z' (x.o'+0) x.c' 0
abbrev N0:=Bk (Xr.qH x) (ak4 v) (fj v)
abbrev ahM:=cQ (uJ (bS n) x.h) (uJ (bS m) (fun a=>c9 a (F0 x))) i9
end
theorem X6 (x:Xr)(k k':Option Nat):gS (k7 0 (AL 0 2 (Pl.c false 2 (uI Da (k7 1 Da ahA) Pl.t)) Pl.t) Pl.t) (i7 (ad2 x) 12 Tryz.f12 x.afo (x.seen k k') (akv x)) ((fun(a:SV)=>NJ x/\gA (aS (ak (ak True True (ZH x)) (Wy.th (TH x)) (dS x.fr)) (aS (jh (Zp x) True/\cr x.n) (N0 a x) (NJ x/\(∀(b:Nat),aX (List.length (F0 x)) b ((∃(a:Nat),F9 a x/\fh a)/\(∀(b:Nat),F9 b x->fA x.m (aL (kE b x.m) (eJ x.o' (bS b) x.m) (∃(a:Nat),Kr b a x/\fh a) (∀(c:Nat),Kr b c x->fA (List.length (F0 x)) (gQ (kE c (List.length (F0 x))) (bS c<List.length (F0 x)) (ij (x.h (bS b))) (ij (c9 (bS c) (F0 x))) (Bk (cw (x.h (bS b)) (c9 (bS c) (F0 x))) (dY (∃(a:List UInt8×List UInt8),Xs a/\ah (ahM b c x) (cQ (ax a.1) (ax a.2) i9)) (ahM b c x) a (Xr.qH x)) (aam c b x))) (jb b/\(∃(a:Nat),cg x.m a x.m b (F9 a x)/\gU b a)) (NI c))) (N0 a x) (NI b))))) (BEq.beq (pvB (eB (TH x) (ay x.fr))) (tV x.n (fun a=>x.f a) (Kn x) x.fr)&&(eV (pvV (eB (TH x) (ay x.fr))) (xy x.n (fun a=>x.f a) (Kn x) x.fr)&&true))) (N0 a x) (Option.isSome (eB (TH x) (ay x.fr)))) (N0 a x) (N0 a x) (fR x.n (fun a=>x.f a) (Kn x)) 0 (fR x.n (fun a=>x.f a) (Kn x)) 1) (cQ cn cn pL)):=⟨by kernel_rfl,by kernel_rfl⟩
namespace Xr
theorem kno {x:Xr}(h:x.IU=false):x.qH=false:=by unfold qH;rw[h];rfl
theorem Ss {x:Xr}(h: ¬ fR x.n x.f x.g=0):x.IU=false:=by unfold IU;rw[decide_eq_false h];rfl
theorem abx {x:Xr}(h:x.cl.isSome=false):x.IU=false:=by unfold IU;rw[h];simp
theorem aby {x:Xr}(h:x.right=true):x.IU=false:=by unfold IU;rw[h];simp
theorem Sq {x:Xr}(h1:fR x.n x.f x.g=0)(h2:x.cl.isSome=true)(h3:x.right=false):x.IU=true:=by unfold IU;rw[decide_eq_true h1,h2,h3];rfl
theorem YV {x:Xr}(ha:x.IU=true){i j:Nat}(hi:i<x.m)(hj:j<x.U.length)(h:cw (x.h i) (x.U.getD j [])=true):x.qH=true:=by
 have h1:x.LD (x.h i) j=false:=by unfold LD;rw[h];rfl
 have h2:x.free i=false:=List.all_eq_false.2 ⟨j,List.mem_range.2 hj,by rw[h1];decide⟩;have h3:(List.range x.m).all x.free=false:=List.all_eq_false.2 ⟨i,List.mem_range.2 hi,by rw[h2];decide⟩;unfold qH;rw[ha,h3];rfl
theorem afp {x:Xr}{i:Nat}(h:gd x.m x.free i)(hi: ¬ (i:Int)<(x.m:Int)):x.qH=false:=by unfold qH;rw[h.done hi];simp
structure KOk (x:Xr):Prop where
 n:x.n<9223372036854775808
 few:x.wy.th
 key:x.fr.length<1099511627776
end Xr
theorem akU {w:Wy}{p:List UInt8}(h:(eB w p).isSome=true):w.n<=40:=by
 unfold eB at h;split at h
 ·cases h
 ·omega
theorem IX (x:Xr)(hx:x.KOk)(k k':Option Nat):aq (i7 (ad2 x) 12 Tryz.f12 x.afo (x.seen k k') (akv x)):=by
 refine aq.Qz (X6 x k k') (by delta Fk Bk I6 Ix Er NI cn bf aX aF ak cY aL cS fK ax gQ fj cr aS dY fo cQ k8 ij dZ cI cg mz gU fh jb jh fN fA i9 pL dS gA lF c9 c6 bS eV uJ eJ pR kE ak4 Xs NJ Zp F9 ZH Kr aam Kn F0 TH N0 ahM;exact rfl) ?_;have esp:(⟨gC x.n x.f x.g,x.m,x.h,x.z',x.o',x.c',0⟩:Wy)=x.wy:=rfl;have ecl:eB x.wy (ay x.fr)=x.cl:=rfl;have er:(pvB x.cl==tV x.n x.f x.g x.fr&&(decide (pvV x.cl=xy x.n x.f x.g x.fr)&&true))=x.right:=rfl;have eU:dc (j5 13 (cm x.n (fun i=>ay (x.f i)) x.g))=x.U:=rfl;dsimp only;simp only[Nat.add_zero,esp,ecl,eU];rw[er];simp only[Int.toNat_natCast,Nat.zero_add,Nat.le_refl,true_and,and_true,decide_eq_true_eq,decide_eq_false_iff_not];have no:x.qH=false->(x.qH=true->∃(p:List UInt8×List UInt8),(cw p.1 p.2=true/\(p.1.length<=1000/\p.2.length<=1000))/\ah (SV.bL [SV.str true [],SV.str true [],SV.bool true false]) (SV.bL [SV.str false p.1,SV.str false p.2,SV.bool true true]))/\(x.qH=false->ah (SV.bL [SV.str true [],SV.str true [],SV.bool true false]) (SV.bL [SV.str true [],SV.str true [],SV.bool true false])):=fun h=>⟨fun e=>absurd (h.symm.trans e) (by decide),fun _ _=>rfl⟩
 refine⟨hx.n,fun h0=>⟨⟨hx.few,hx.key⟩,fun h1=>⟨hx.n,fun h2=>no (Xr.kno (Xr.aby h2)),fun h2=>⟨hx.n,fun c hc=>⟨⟨0,gd.zero _ _,rfl⟩,fun i hi=>⟨fun hlt=> ?_,fun hge=>no (Xr.afp hi hge)⟩⟩⟩⟩,fun h1=>no (Xr.kno (Xr.abx h1))⟩,fun h0=>⟨fun _=>no (Xr.kno (Xr.Ss h0)),fun _=>no (Xr.kno (Xr.Ss h0))⟩⟩;have hlt':(i:Int)<(x.m:Int):=hlt;have hlt:i<x.m:=by omega
 have hsm:x.m<=40:=akU (w:=x.wy) h1;have hask:=Xr.Sq h0 h1 h2;have hf:(x.h i).length<=1000:=hx.few.f i hlt;have hU:x.U.length<=600:=by have h1:=DJ _ (j5 13 (cm x.n (fun i=>ay (x.f i)) x.g)) rfl;have h2:=OQ 13 (cm x.n (fun i=>ay (x.f i)) x.g);have h3:=(m9 h0).2;rw[iN] at h2;show(dc _).length<=_;omega
 refine⟨⟨by omega,hlt'⟩,hlt,⟨0,gd.zero _ _,rfl⟩,fun j hj=>⟨fun hl'=> ?_,fun hg=> ?_⟩⟩
 ·have hl':(j:Int)<(x.U.length:Int):=hl';have hjl:j<x.U.length:=by omega
  have h700:=amh h0 j;refine⟨⟨by omega,hl'⟩,hjl,⟨by omega,by show(x.U.getD j []).length<_;omega⟩,fun hc=> ?_,fun hc=>⟨⟨by omega,by omega⟩,j+1,⟨hj.next hl' (by unfold Xr.LD;rw[show cw (x.h i) (x.U.getD j [])=false from hc];rfl),by omega⟩,by omega⟩⟩
  have hh:=Xr.YV hask hlt hjl hc;exact⟨fun _=>⟨(x.h i,x.U.getD j []),⟨hc,hf,by show(x.U.getD j []).length<=1000;omega⟩,fun _=>rfl⟩,fun e=>by rw[hh] at e;cases e⟩
 ·have hg: ¬ (j:Int)<(x.U.length:Int):=hg;exact⟨⟨by omega,by omega⟩,i+1,⟨hi.next hlt' (hj.done hg),by omega⟩,by omega⟩
def aoX:List AZ:=[.of (.slice dE),.of .one,.of (.slice [.str fun _=>[]])]
def apo (vs:List SV)(l:List Seen):Option (Xr×Option Nat×Option Nat):=match vs,l with
 | [_,.str false fr,_],[⟨k,z,o,n,c,[.str f,.str g]⟩,⟨k',z',o',m,c',[.str h]⟩]=>some (⟨n,f,g,z,o,c,fr,[],m,h,z',o',c'⟩,k,k')
 | _,_=>none
theorem amf {vs:List SV}{l:List Seen}{x:Xr}{k k':Option Nat}(h:apo vs l=some (x,k,k')):filled aoX vs l=x.afo/\l=x.seen k k':=by
 unfold apo at h;split at h
 ·injection h with h;injection h with h1 h;injection h with h2 h3;subst h1;subst h2;subst h3;exact⟨rfl,rfl⟩
 ·cases h
noncomputable def P2 (vs:List SV)(l:List Seen):Option (Prop×b7):=match apo vs l with
 | some (x,_,_)=>some (x.KOk,akv x)
 | none=>none
theorem akw (x:Xr):(akv x).Ok:=fun b=>by
 cases b with
 | false=>rfl
 | true=>intro p;rfl
theorem Su:au Tryz.prog 12 (bE aoX P2):=by
 refine gq (n:=20) (fn:=Tryz.f12) Tryz.func12 (by kernel_rfl) (by kernel_rfl) ?_;intro vs l q a h hq;unfold P2 at h;split at h
 ·rename_i x k k' hx;injection h with h;injection h with h1 h2;subst h1;subst h2;obtain⟨e1,e2⟩:=amf hx;rw[e1,e2];exact⟨_,anJ x,rfl,akw x,IX x hq k k'⟩
 ·cases h
theorem apm {f:FuncId}{spec spec':List SV->Option (Prop×b7)}(h:au Tryz.prog f (bW spec))(hi: ∀ vs q' a',spec' vs=some (q',a')->q'->∃ q a,spec vs=some (q,a)/\q/\∀ m nx K,(a'.vc m nx K).holds->(a.vc m nx K).holds):au Tryz.prog f (bW spec'):=by
 intro args m nx K hk;refine h args m nx K ?_;unfold bW at hk ⊢;split at hk
 ·rename_i q' a' hs;obtain⟨q,a,e,hq,g⟩:=hi _ _ _ hs hk.1;rw[e];exact⟨hq,g m nx K hk.2⟩
 ·exact hk.elim
theorem al8 {f:FuncId}{sh:List AZ}{spec spec':List SV->List Seen->Option (Prop×b7)}(h:au Tryz.prog f (bE sh spec))(hi: ∀ vs l q' a',spec' vs l=some (q',a')->q'->∃ q a,spec vs l=some (q,a)/\q/\∀ m nx K,(a'.vc m nx K).holds->(a.vc m nx K).holds):au Tryz.prog f (bE sh spec'):=by
 intro args m nx K hk;refine h args m nx K ?_;unfold bE at hk ⊢;split at hk
 ·rename_i vs p l hp;split at hk
  ·rename_i q' a' hs;obtain⟨q,a,e,hq,g⟩:=hi vs l q' a' hs hk.1.2;simp only[e];exact⟨⟨hk.1.1,hq⟩,g m nx K hk.2⟩
  ·exact hk.elim
 ·exact hk.elim
section
variable (n m : Nat) (B : SB) (y : Bool) (x : Pp) (z : Option Nat)
abbrev CY:=dM (Pp.ok x)
abbrev wG:=NI x.n
abbrev ZC:=zW x.n (xS x.f) n
abbrev TV:=c8 5 (Pp.sv x (lp 0 n 0 x.n m y)) 30
abbrev C3:=List.length x.key
abbrev J3:=List.length x.to
abbrev ag9:=bn (iU (CY x)) (fA (C3 x) (iU (CY x)) (fA (J3 x) (iU (CY x)) (bf (iU (CY x)) ((∃(a:Nat),aL (ZC a x) (fh a) (Sr B) (c6 (Sr (Seen.B (yG y n m x z)))))/\(∀(a:Nat),ZC a x->bf (ak (qq a (wG x)) (eJ n (0+lF a) x.n) (bf (iU (CY x)) (dG (∃(b:Nat),aL (cg x.n b x.n a (ZC b x)) (gU a b) (Sr B) (c6 (Sr (Seen.B (yG y n m x z))))) (NI a+1)) 1000 (bh (x.f (0+lF a))))) (ah mz (CY x)) (NI a) (wG x))) 200 (wG x)) 6) 6) (eX (bh x.root) 32)
end
theorem ai3 (x:Pp)(z:Bool)(o c:Nat)(key:Option Nat):VC.holds (i7 (aec x) 25 Tryz.f25 [x.sv (.cC 0 1 z o 0 x.n c)] [yG z o c x key] (.ret (.bool false x.ok)))=((fun(a:SB)=>gA (bn (iU (CY x)) (ag9 o c a z x key) (dX x.to)) (ag9 o c a z x key) (iU (CY x)) x.k 0 x.k 1) (TV o c z x)):=by kernel_rfl
theorem Tf {f:Nat->List UInt8}{i:Nat}(h: ¬ (1000:Int)<((f i).length:Int)):xS f i=true:=by rw[xS,decide_eq_false h];rfl
theorem age {f:Nat->List UInt8}{i:Nat}(h:(1000:Int)<((f i).length:Int)):xS f i=false:=by rw[xS,decide_eq_true h];rfl
set_option maxHeartbeats 4000000 in
theorem QB (x:Pp)(z:Bool)(o c:Nat)(key:Option Nat):aq (i7 (aec x) 25 Tryz.f25 [x.sv (.cC 0 1 z o 0 x.n c)] [yG z o c x key] (.ret (.bool false x.ok))):=by
 refine aq.j7 (ai3 x z o c key) (by delta Fk Bk I6 Ix Sr Er NI bf bh ak aL cS dG fK dM eX bn dX c8 cg mz gU fh qq fA gA lF c6 eJ lp iU CY wG ZC TV C3 J3 ag9;exact rfl) ?_;simp only[Int.toNat_natCast,Nat.zero_add];unfold Pp.ok;have h01:decide (x.k=0)=true->decide (x.k=1)=false:=by simp only[decide_eq_true_eq,decide_eq_false_iff_not];omega
 generalize decide (x.k=0)=b1 at h01 ⊢;generalize decide (x.k=1)=b2 at h01 ⊢;generalize decide (x.to=[])=b3;generalize decide ((x.root.length:Int)=32)=b4;generalize decide ((6:Int)<(x.key.length:Int))=b5;generalize decide ((6:Int)<(x.to.length:Int))=b6;generalize hr:zy x.n x.f=b9
 repeat' first
  | exact trivial
  | exact af.refl _
  | apply And.intro
  | intro (_:_=true)
  | intro (_:_=false)
  | refine⟨0,⟨Nat.zero_le _,fun j hj=>absurd hj (Nat.not_lt_zero _)⟩,rfl,?_⟩
  | intro (i:Nat) (hi:zW _ _ i)
  | refine⟨i+1,⟨uY hi ?_ ?_,?_⟩,?_,?_⟩
  | fail
 all_goals try simp only[decide_eq_true_eq,decide_eq_false_iff_not] at *
 all_goals first
  | omega
  | exact Tf (by assumption)
  | (apply gW;subst hr;rw[zy,DN hi (by assumption)];simp_all;done)
  | (apply gW;subst hr;rw[zy,zP (i:=i) (by assumption) (age (by assumption))];simp_all;done)
  | (apply gW;simp_all;done)
def vR (vs:List SV)(l:List Seen):Option (Prop×b7):=match zz vs l with
 | some (x,_)=>some (True,.ret (.bool false x.ok))
 | none=>none
theorem Nx:au Tryz.prog 25 (bE shP vR):=by
 refine gq (n:=20) (fn:=Tryz.f25) Tryz.func25 (by kernel_rfl) (by kernel_rfl) ?_;intro vs l q a h hq;unfold vR at h;split at h
 ·rename_i x r hx;obtain⟨z,o,c,key⟩:=r;injection h with h;injection h with h1 h2;subst h1;subst h2;obtain⟨e1,e2⟩:=BA hx;rw[e1,e2];exact⟨_,anU x,rfl,rfl,QB x z o c key⟩
 ·cases h
noncomputable def WJ:List (FuncId×PT):=(25,bE shP vR)::Cz
theorem MW:aU Tryz.prog (fun f=>aA f WJ):=.cons Nx (bJ _ _) pz
noncomputable def aeb (x:Pp):gF:={cF with cM:=fun f=>aA f WJ,aR:=fun f=>if f=48 then [(5,always (ajM 18 4 x.n (E9 x.f)))] else []}
theorem anT (x:Pp):Sx.Good Tryz.prog (aeb x):=.of bO MW bt
def agB (x:Pp):b7:=.fork x.ok fun b=>match b with
 | true=>.fork (decide ((65536:Int)<(x.put.length:Int))) fun b=>match b with
   | true=>.ret (.bL [.str true [],.int .i64 true 8])
   | false=>.ret (.bL [.str false x.put,.int .i64 true 0])
 | false=>.ret (.bL [.str true [],.int .i64 true 1])
section
variable (n : Nat) (y : Nat × Nat) (z : Bool) (x : Pp)
abbrev QK:=flat [aB (digits (rT x.k)),aB x.root,aB x.key,aB x.to,cat (nL (bh (flat (j6 (E9 x.f) 0 y.1)))) (flat (j6 (E9 x.f) 0 y.1))]
abbrev TE:=flat (j6 (E9 x.f) 0 y.1)
abbrev x5:Nat->List UInt8:=fun a=>x.f a
abbrev Zy:=fW (cI y.1 y.1) (jd (2*pM y*16)) (cr (pM y))
abbrev ZG:=65536<bh (Pp.put x)
abbrev Gg:=Pp.mk x.k x.root x.key x.to x.n (x5 x)
abbrev Kh:=cY cn [bx 8]
abbrev Up:=fW True (ak (Er z) (Er n) (cI x.n x.n)) True
abbrev aae:=fV (ax (Pp.put x))
end
theorem apf (x:Pp)(z:Bool)(o c:Nat)(key:Option Nat):VC.holds (i7 (aeb x) 48 Tryz.f48 [x.sv (.cC 0 1 z o 0 x.n c)] [yG z o c x key] (agB x))=((fun(a:SB)=>(fun(b:Nat×Nat->SV)=>cH (c6 (c6 (ak True True (Up o z x)))) (dY (Fk (ZG x) (ah qj Kh) (ah qj (aae x))) qj qj (Pp.ok x)) (ak (oe (eI (wG x)) (wG x) (16*wG x) 140737488355328) (∃(a:Nat×Nat),ak (AW x.n a) (0=fJ a) (aI (dn 0 a.1 (Int.toNat (wG x)) a.2) True (bH (Int.toNat (wG x)*1) (gB a.1 a.2 9 (bD (E9 x.f))) List.nil 9) (Sr (TV o c z x)) (c6 (Sr (Seen.B (yG z o c x key)))))) (∀(d:Nat×Nat),AW x.n d->bf (gp (Ix (fJ d) (wG x)) (eJ o (fk d) x.n) (ij (x.f (fk d))) (Zy d) (C4 d) (∀(a:Nat),aX (pM d) a (dG (∃(b:Nat×Nat),ak (cg x.n b.1 x.n d.1 (AW x.n b)) (mP d b) (aI (aW/\Gc a d b) True (af (gB (pM d) (a*1) 9 (bD (fun a=>iT a d.1 (E9 x.f a) (iW (a - d.1) (aB (x.f (fk d))))))) (gB b.1 b.2 9 (bD (E9 x.f)))) (Sr (TV o c z x)) (c6 (Sr (Seen.B (yG z o c x key)))))) (mQ d)))) (bl (Ob (rT x.k)) (dK a) (dK a) (dK a) (ij x.root) (dK a) (dK a) (k8 (C3 x)) (bl (dK a) (k8 (J3 x)) (ak (eY (0+d.1) d.1 d.1 d) (uL (List.length (j6 (E9 x.f) 0 d.1))) (GA (TE d x))) (yb/\uH (bh (TE d x))) (eI (bh (nL (bh (TE d x)))+bh (TE d x))) (ak (Er 5/\5<=5) (uL 5) (GA (QK d x))) (yb/\uH (bh (QK d x))) (eI (bh (nL (bh (QK d x)))+bh (QK d x))) (bf (dY (Fk (ZG x) (ah Kh Kh) (ah Kh (aae x))) Kh qj (Pp.ok x)) (dY (Fk (ZG x) (ah (b d) Kh) (ah (b d) (aae x))) (b d) qj (Pp.ok x)) 65536 (bh (cat (nL (bh (QK d x))) (QK d x)))))) (fJ d) (wG x))) (Pp.ok (Gg x))) (fun a=>fV (ax (cat (nL (bh (QK a x))) (QK a x))))) (cR 5 (bC x.k) (aF (ax x.root) (ax x.key) (aF (ax x.to) (lp 0 o 0 x.n c z) List.nil)) 30)):=by kernel_rfl
structure Pp.Small (x:Pp):Prop where
 k:0<=x.k/\x.k<=1
 root:x.root.length=32
 key:x.key.length<=6
 to:x.to.length<=6
 n:x.n<=200
 row: ∀ i,i<x.n->(x.f i).length<=1000
theorem Tg {n:Nat}{f:Nat->List UInt8}(h:zy n f=true){i:Nat}(hi:i<n):(f i).length<=1000:=by unfold zy at h;rw[List.all_eq_true] at h;have:=h i (List.mem_range.2 hi);simp only[xS,Bool.not_eq_true',decide_eq_false_iff_not] at this;omega
theorem Pp.ur {x:Pp}(h:x.ok=true):x.Small:=by unfold Pp.ok at h;simp only[Bool.and_eq_true,Bool.or_eq_true,Bool.not_eq_true',decide_eq_false_iff_not,decide_eq_true_eq] at h;obtain⟨⟨⟨⟨⟨h1,h2⟩,h3⟩,h4⟩,h5⟩,h6⟩:=h;refine⟨?_,by omega,by omega,by omega,by omega,fun i hi=>Tg h6 hi⟩;rcases h1 with h1 | h1<;>omega
theorem Pp.KT {x:Pp}(h:x.Small):(flat x.rows).length<=201800:=by
 have h0:=aeT (l:=x.rows) (m:=1009) fun y hy=>by obtain⟨i,hi,rfl⟩:=UK hy;have:=h.row i hi;have:=yN (x.f i);unfold E9;omega
 have e:x.rows.length=x.n:=nP _ _ _;have:=h.n;rw[e] at h0;have:x.n*1009<=200*1009:=Nat.mul_le_mul_right _ h.n;omega
theorem Pp.MH {x:Pp}(h:x.Small):(flat x.items).length<=201900:=by have h1:=yN (digits x.k);have h2:=yN x.root;have h3:=yN x.key;have h4:=yN x.to;have h5:=WI x.rows;have h6:=Pp.KT h;have h7:=ru x.k;have:=h.root;have:=h.key;have:=h.to;simp only[Pp.items,abc,abe,numOf];omega
set_option maxHeartbeats 4000000 in
theorem Xe (x:Pp)(z:Bool)(o c:Nat)(key:Option Nat):aq (i7 (aeb x) 48 Tryz.f48 [x.sv (.cC 0 1 z o 0 x.n c)] [yG z o c x key] (agB x)):=by
 refine aq.j7 (apf x z o c key) (by delta Fk Bk I6 Ix Sr Er NI cn bf aX aF bC bx bh ak k6 cR cY aI aL eI bH dG oe ax rT Ob cr dY gk uH bn cQ fV k8 ij aP c8 cU bD aW jd iT bT dn fW cI iW fJ C4 mP mQ cg gB eY gp bl cH yb dW uL nL dK GA c6 eJ nC qj lp pM Gc fk wG TV C3 J3 QK TE x5 Zy ZG Gg Kh Up aae;exact rfl) ?_;cases hx:x.ok with
 | false =>refine⟨by simp,fun _=>⟨(fun h=>by cases h),fun _ _=>rfl⟩,fun h=>by cases h⟩
 | true =>
   have hs:=Pp.ur hx;have hl:=Pp.MH hs;have hr:=Pp.KT hs;have hh:=xH 192 (flat x.items).length;have hh2:=xH 192 (flat x.rows).length;have hrow:x.rows.length=x.n:=nP _ _ _;obtain⟨h1,h2,h3,h4,h5,h6⟩:=hs;have hk:x.k% 18446744073709551616=x.k:=by omega
   simp only[hk,Nat.le_refl,Int.toNat_natCast,Nat.zero_add,Nat.mul_one,and_self,true_and,and_true,Bool.not_true,Bool.false_eq_true,Bool.true_eq_false,false_imp_iff,forall_const];refine⟨by omega,⟨(0,x.n),⟨Nat.zero_le _,Nat.zero_le _⟩,rfl,⟨rfl,rfl⟩,Sx.af.empty rfl,af.refl _,af.refl _⟩,fun y hy=>⟨fun hk=> ?_,fun hk=> ?_⟩⟩
   ·simp only[decide_eq_true_eq] at hk;have hk':y.1<x.n:=by omega
    have b1:=h6 y.1 hk';have hle:=hy.le;refine⟨by omega,hk',by omega,by omega,fun c1 hc=>⟨by omega,(y.1+1,c1),⟨abj (_k:=0) hy (by omega) hc,by show x.n - (y.1+1)<x.n - y.1;omega⟩,by simp,⟨rfl,rfl⟩,?_,af.refl _,af.refl _⟩⟩;have:=ae7 (_n:=x.n) (F:=E9 x.f) (k:=y.1) (v:=aB (x.f y.1)) rfl (c:=c1) (c':=c1) rfl;rw[Nat.mul_one] at this;exact this
   ·simp only[decide_eq_false_iff_not] at hk;have e:y.1=x.n:=by have:=hy.le;omega
    have hc:=hy.cap;rw[e] at hc ⊢;have e1:j6 (E9 x.f) 0 x.n=x.rows:=rfl;have e2:cat (cP 192 (flat x.rows).length) (flat x.rows)=ee x.rows:=rfl;have e3:flat [aB (digits x.k),aB x.root,aB x.key,aB x.to,ee x.rows]=flat x.items:=rfl;have e4:cat (cP 192 (flat x.items).length) (flat x.items)=x.put:=rfl;rw[e1,e2,e3,e4,hrow];generalize hL:(flat x.items).length=L at *;generalize decide ((65536:Int)<(x.put.length:Int))=b at *;refine⟨by omega,by omega,by omega,by omega,by omega,by omega,by omega,by omega,by omega,by omega,?_⟩;cases b with
    | true=>exact⟨fun _=>⟨fun _ _=>rfl,(fun h=>by cases h)⟩,(fun h=>by cases h)⟩
    | false=>exact⟨(fun h=>by cases h),fun _=>⟨(fun h=>by cases h),fun _ _=>rfl⟩⟩
def JN (vs:List SV)(l:List Seen):Option (Prop×b7):=match zz vs l with
 | some (x,_)=>some (True,agB x)
 | none=>none
theorem akS:au Tryz.prog 48 (bE shP JN):=by
 refine gq (n:=20) (fn:=Tryz.f48) Tryz.func48 (by kernel_rfl) (by kernel_rfl) ?_;intro vs l q a h hq;unfold JN at h;split at h
 ·rename_i x r hx;obtain⟨z,o,c,key⟩:=r;injection h with h;injection h with h1 h2;subst h1;subst h2;obtain⟨e1,e2⟩:=BA hx;rw[e1,e2];exact⟨_,anT x,rfl,fun b=>by cases b<;>first | exact rfl | (intro b;cases b<;>exact rfl),Xe x z o c key⟩
 ·cases h
noncomputable def WK:List (FuncId×PT):=(48,bE shP JN)::WJ
theorem MX:aU Tryz.prog (fun f=>aA f WK):=.cons akS (bJ _ _) MW
def dr (s:List UInt8)(j:Nat):List UInt8:=aj (aa s) j
def wZ (t:List UInt8):Int:=num (aa t)
theorem EP {n:Int}(h0:0<=n)(h:n<18446744073709551616):qF (numOf n)=true/\cA (numOf n)=true/\dD (numOf n)=false/\aC (numOf n)=[]/\wZ (numOf n)=n:=by obtain⟨h1,h2⟩:=aeZ h0 h;obtain⟨g1,g2,g3,_⟩:=Cn.1 h1;exact⟨h1,g1,g2,g3,by unfold wZ numOf;rw[h2,Ij h0 h]⟩
theorem BP {b:List UInt8}(h:b.length<=1048576):cA (aB b)=true/\dD (aB b)=false/\aC (aB b)=[]/\aa (aB b)=b:=by obtain⟨h1,h2,h3⟩:=aiC h;have:=(yM h []).2.2.1;rw[List.append_nil] at this;exact⟨h1,h2,h3,this⟩
structure vf (t:List UInt8)(l:List (List UInt8)):Prop where
 b:cA t=true
 li:dD t=true
 r:aC t=[]
 i:aa t=flat l
 ib:dU (aa t)=true
 n:aH (aa t)=l.length
 at': ∀(k:Nat) (v:List UInt8),l[k]?=some v->aj (aa t) k=v
def Whole (y:List UInt8):Prop:=cA y=true/\aC y=[]
theorem Jd {l:List (List UInt8)}(h: ∀ y∈ l,Whole y)(hl:(flat l).length<=1048576):vf (ee l) l:=by obtain⟨h1,h2,h3,h4⟩:=SO hl [];rw[List.append_nil] at h1 h2 h3 h4;have e:cP 192 (flat l).length++flat l=ee l:=rfl;rw[e] at h1 h2 h3 h4;obtain⟨g1,g2,g3⟩:=Ba l h;exact⟨h1,h2,h4,h3,by rw[h3];exact g1,by rw[h3];exact g2,fun k v hk=>by rw[h3];exact g3 k v hk⟩
theorem vf.whole {t:List UInt8}{l:List (List UInt8)}(h:vf t l):Whole t:=⟨h.b,h.r⟩
theorem Tl {n:Int}(h0:0<=n)(h:n<18446744073709551616):Whole (numOf n):=⟨(EP h0 h).2.1,(EP h0 h).2.2.2.1⟩
theorem qM {b:List UInt8}(h:b.length<=1048576):Whole (aB b):=⟨(BP h).1,(BP h).2.2.1⟩
end Go.Proofs.YtpaaiebohjjieaaGreatDoor
